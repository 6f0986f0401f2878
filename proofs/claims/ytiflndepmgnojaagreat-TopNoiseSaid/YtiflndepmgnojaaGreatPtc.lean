import Derived.Test.YtiflndepmgnojaaGreatAcd
namespace Go.Proofs.YtiflndepmgnojaaGreat
open Go.RowKit Tryz
set_option linter.unusedSimpArgs false
set_option linter.unusedVariables false
set_option maxHeartbeats 8000000
set_option maxRecDepth 100000
variable {I:List Sp} {W w:World} {k p c n:Nat} {l:List Int} {t:TypeId} {x y:Int}
attribute[local go_sem] BW.cell BW.frozen
section
variable {P:Program} {t e:TypeId} {i:TypeInfo}
theorem oG (f:P.underlying t=some (.slice e)) (b:P.info? e=some i) (a:X5) (n c k m:Nat) (h:k<=m) (d:m<=c) (w:World):
  (Instr.slice t (.slice a n c) (some (uI (k:Int))) (some (uI (m:Int))) none).run P w=.ok (.slice (fE a c k i.size) (m -k) (c -k)) w:=by
 simp[Instr.slice,Instr.sliceBounds,Instr.sliceBound,asIntOf,run_underlying f,sizeOf,typeInfo,b,h,d,fE]
theorem BC (d:P.underlying t=some (.slice e)) (b:P.info? e=some i) (a:X5) (n c k:Nat) (h:k<=n) (w:World):
  (Instr.slice t (.slice a n c) (some (uI (k:Int))) none none).run P w=.ok (.slice (fE a c k i.size) (n -k) (c -k)) w:=by
 have f:(0:Int)<=(k:Int)/\(k:Int)<=(n:Int):=oM;simp[Instr.slice,Instr.sliceBounds,Instr.sliceBound,asIntOf,run_underlying d,sizeOf,typeInfo,b,h,fE]
end
def PiRes (w w':World):Option Pi->Ending->Prop
 |none,e=>e=.returned (.tuple #[.agg #[uI 0,zzN],bV false])
 |some x,e=>∃a b,e=.returned (.tuple #[.agg #[uI x.off,.slice a x.body.length b],bV true])/\x.body.length<=b/\Bys w' (λc=>w.heap.size<=c/\c<w'.heap.size) a x.body
theorem Ky (S:X4) (p:Nat) (q:Qu) (c:Int) (w:World) (h:mG w S p q) (k:WV q) (h2:1<=c) (h3:c<=1500):
  Yk 90 #[pT p,jI c] w λe m=>PiRes w m (iY q c) e/\bW w m:=by
 obtain⟨T,f5⟩:=yx (λm (e2:bW w m)=>Xe S p q m (h.below e2) k) k;obtain⟨I,y,f6,g1,f7,g2,B,X,b8,b9,a8,g4⟩:=h.ex;have a2:=B.lt;obtain⟨_,g9,_⟩:=rU a2;obtain⟨a5,c7,a6,a7⟩:=B.e4 1 2 3 5;have g8:decide (c<1)=false:=sO;obtain⟨J,f9,g0,g3⟩:=Hl k.qx k.base0 k.vV k.fresh;have g5:fT q<=q.base+q.b.length:=bY _;have g6:q.base+q.b.length<=fT q:=bY _;have a9:=X.cap_;(have h0:q.b.length<=65536:=by have:=k.len;have:=k.qC;omega);obtain⟨d4,f4,a4⟩:=Av a8 B X;have a0:¬c<1:=oM;obtain⟨h1,N,c1,Q,c2⟩:=info_parts lF;cases g:q.cO with
 |nil=>
  (have n:nL q=q.fresh:=by unfold nL;rw[g];rfl);(have o:BN q=fT q:=by unfold BN;rw[g];rfl);(have c0:q.cO.length=0:=by rw[g];rfl);rw[c0]at a7;by_cases D:q.fresh=fT q
  .have r:iY q c=none:=by unfold iY;rw[Ww a0,aB (by rw[n,o];exact D)]
   rw[r];(have c8:(q.fresh==fT q)=true:=by simp[D]);clear h B X b8 b9 a8 k r N c1 Q c2;generalize fT q=c6 at*
   go_enter Tryz.func90,Tryz.ntmps90;go_wp2;refine bN kR kR ?_;(repeat (first|go_big_quiet_step (((go_at_call 71;exact dn (T.o _ BEL))))|quiet_step (((go_at_call 71;exact dn (T.o _ BEL))))));refine aK ?_;rintro _ ⟨nq,rfl⟩;go_wp2;refine mZ ?_;exact⟨rfl,BEL⟩
  .have c8:(q.fresh==fT q)=false:=by simp[D]
   obtain⟨a,f⟩:∃a:Nat,(a:Int)=q.fresh -q.base:=⟨(q.fresh -q.base).toNat,oM⟩;by_cases d5:q.fresh+c<fT q
   case' pos=>
    have b3:decide (q.fresh+c<fT q)=true:=sO;obtain⟨b,E⟩:∃b:Nat,(b:Int)=q.fresh+c -q.base:=⟨(q.fresh+c -q.base).toNat,oM⟩;have r:iY q c=some ⟨q.fresh,(q.b.take b).drop a⟩:=by
     unfold iY;rw[Ww a0,Ww (by rw[n,o];exact D),n,o];have J:(min (fT q) (q.fresh+c) -q.base).toNat=b:=oM;have L:(q.fresh -q.base).toNat=a:=oM;rw[J,L]
    rw[r];have v:a<=b:=oM;have O:b<=q.b.length:=oM;have hcut:=oG (P:=prog) Tryz.underlying47 N I q.b.length y a b v oM;rw[Q]at hcut;have U:=zH (fe.part a4.o.row v O a9);(have F:((q.b.take b).drop a).length=b -a:=by rw[bI,aT];omega);have u:=zH F;have b4:q.fresh -q.base=(a:Int):=f.symm;have b5:q.fresh+c -q.base=(b:Int):=E.symm;have b6:q.base<=q.fresh:=oM;have b7:q.base<=q.fresh+c:=oM
   case' neg=>
    have b3:decide (q.fresh+c<fT q)=false:=sO;obtain⟨b,E⟩:∃b:Nat,(b:Int)=fT q -q.base:=⟨(fT q -q.base).toNat,oM⟩;have r:iY q c=some ⟨q.fresh,(q.b.take b).drop a⟩:=by
     unfold iY;rw[Ww a0,Ww (by rw[n,o];exact D),n,o];have J:(min (fT q) (q.fresh+c) -q.base).toNat=b:=oM;have L:(q.fresh -q.base).toNat=a:=oM;rw[J,L]
    rw[r];have v:a<=b:=oM;have O:b<=q.b.length:=oM;have hcut:=oG (P:=prog) Tryz.underlying47 N I q.b.length y a b v oM;rw[Q]at hcut;have U:=zH (fe.part a4.o.row v O a9);(have F:((q.b.take b).drop a).length=b -a:=by rw[bI,aT];omega);have u:=zH F;have b4:q.fresh -q.base=(a:Int):=f.symm;have b5:fT q -q.base=(b:Int):=E.symm;have b6:q.base<=q.fresh:=oM;have b7:q.base<=fT q:=oM
   all_goals
    have d7:q.fresh+c<18446744073709551616:=oM;have d8:0<=q.fresh:=oM;have d9:(b:Int)<18446744073709551616:=oM;have e0:(a:Int)<18446744073709551616:=oM;have e1:c<18446744073709551616:=oM;have d6:0<=c:=oM;clear h B X b8 b9 a8 k r N c1 Q c2 f E F n o;generalize fE I y a 1=b2 at*
    generalize fT q=c6 at*
    go_enter Tryz.func90,Tryz.ntmps90;go_wp2;refine bN kR kR ?_;(repeat (first|go_big_quiet_step (((go_at_call 71;exact dn (T.o _ BEL))))|quiet_step (((go_at_call 71;exact dn (T.o _ BEL))))));refine aK ?_;rintro _ ⟨nq,rfl⟩;go_wp2_with fail;obtain⟨d,G⟩:=eX ((w.alloc (.cells #[uI 0,zzN] 203)).drewN nq);rw[<-G];(have l:Blk d w.heap.size 203 #[uI 0,zzN]:=by rw[G];exact(Wx w 203 _).drewN _);(have C:bW w d:=by rw[G];exact BEL);have e8:d.cell? ⟨p,1,none⟩=some (uI q.base):=(C.cell (p:=⟨p,1,none⟩) a2).trans a5;have e9:d.cell? ⟨p,3,none⟩=some (.slice I q.b.length y):=(C.cell (p:=⟨p,3,none⟩) a2).trans a6;obtain⟨V,A⟩:=yx l C;clear G l C a5 c7 a6 a7;refine gN kR ?_;refine X9 0 ?_;(try simp only[Act.put,Array.setIfInBounds]);(try go_simp);refine eQ 1 18 kR (λm=>∃c3,m=d.drewN c3) ⟨1,rfl⟩ ?_;refine mA ?_;rintro _ ⟨e7,rfl⟩;refine dA rfl rfl ?_;refine fe.wp _ (.tmp 69) rfl d.heap.size none 0 [] (by rfl) (iq _ _ _ _) b2 (y -a) ((q.b.take b).drop a) (by simp[Act.eval,u.o]) (aD U.o (aA A.o _)) (by rw[u.o];simp;omega) dC (av _) ?_;intro z K R a1 Z;have M:bW d R:=bD (aA (aj _ _) _) ((aj _ _).grown Z (av _) XI);have H:=V.o.below M V.o.lt;obtain⟨f0,f2,f1,f3⟩:=H.c2;have e5:=H.lt;obtain⟨W,b1,b0⟩:=Av H a1 M;clear a1 Z M H;refine eQ 19 20 kR (λm=>∃_:Unit,m=_) ⟨(),rfl⟩ ?_;refine mA ?_;rintro c4 ⟨_,a3⟩;rw[a3];clear a3 c4;refine dA rfl rfl ?_;go_simp;refine jY 21 kR kR ?_;refine mC ?_;go_wp2;refine mZ ?_;have g:=b1.o;rw[List.nil_append]at g;have Y:=OwnAt.fresh g;have e4:=A.o.size;have e3:=A.o.trans (b0.o.mono A.o.size);refine⟨⟨z,K,by simp[u.o],Y.cap_,?_⟩,BEL⟩;have f:=(bQ.setCell (S:=λa=>d.heap.size<=a/\a<R.heap.size) (ts:=[some 5]) W.o dC 0 (uI q.fresh)).trans (bQ.setCell (W.o.bF 0 (uI q.fresh)) dC 1 (.slice z (b -a) K));have x:=(aG Y.row f sM).mono (S':=λa=>w.heap.size<=a/\a<((R.setCell ⟨w.heap.size,0,none⟩ (uI q.fresh)).setCell ⟨w.heap.size,1,none⟩ (.slice z (b -a) K)).heap.size) (λa f=>⟨oM,by simpa[World.setCell]using f.2⟩);unfold Bys;show Row _ _ 5 1 z ((q.b.take b).drop a).length (((q.b.take b).drop a).flatMap byV);rw[u.o]at x|-;first|exact x|simpa using x|(refine aF x ?_;intro c5 l;exact l)|(refine aF ?_ (λc5 l=>l);exact x)
 |cons s t=>
  (have n:nL q=s.lo:=by unfold nL;rw[g];rfl);(have o:BN q=s.hi+1:=by unfold BN;rw[g];rfl);(have c0:q.cO.length=t.length+1:=by rw[g];rfl);have d1:=k.cO;rw[g]at d1;obtain⟨h5,h6,h7⟩:=d1.head;have h8:=k.ni s (by rw[g];simp);have D:¬s.lo=s.hi+1:=oM;(have c8:(s.lo==s.hi+1)=false:=by simp[D]);obtain⟨f8,h4,rfl,g7,d2,d3⟩:=d4.o.at_ (aj _ _) (j:=0) oM;(have d0:q.cO[0]'oM=s:=by simp[g]);rw[d0]at d2 d3;simp only[Nat.zero_mul,Nat.add_zero]at d2 d3;have h9:s.hi+1<18446744073709551616:=oM;have i0:0<=s.hi:=oM;rw[c0]at a7;have i1:decide ((0:Int)<(t.length:Int)+1)=true:=sM;have i2:0<t.length+1:=oM;clear d0;obtain⟨a,f⟩:∃a:Nat,(a:Int)=s.lo -q.base:=⟨(s.lo -q.base).toNat,oM⟩;by_cases d5:s.lo+c<(s.hi+1)
  case' pos=>
   have b3:decide (s.lo+c<(s.hi+1))=true:=sO;obtain⟨b,E⟩:∃b:Nat,(b:Int)=s.lo+c -q.base:=⟨(s.lo+c -q.base).toNat,oM⟩;have r:iY q c=some ⟨s.lo,(q.b.take b).drop a⟩:=by
    unfold iY;rw[Ww a0,Ww (by rw[n,o];exact D),n,o];have J:(min (s.hi+1) (s.lo+c) -q.base).toNat=b:=oM;have L:(s.lo -q.base).toNat=a:=oM;rw[J,L]
   rw[r];have v:a<=b:=oM;have O:b<=q.b.length:=oM;have hcut:=oG (P:=prog) Tryz.underlying47 N I q.b.length y a b v oM;rw[Q]at hcut;have U:=zH (fe.part a4.o.row v O a9);(have F:((q.b.take b).drop a).length=b -a:=by rw[bI,aT];omega);have u:=zH F;have b4:s.lo -q.base=(a:Int):=f.symm;have b5:s.lo+c -q.base=(b:Int):=E.symm;have b6:q.base<=s.lo:=oM;have b7:q.base<=s.lo+c:=oM
  case' neg=>
   have b3:decide (s.lo+c<(s.hi+1))=false:=sO;obtain⟨b,E⟩:∃b:Nat,(b:Int)=(s.hi+1) -q.base:=⟨((s.hi+1) -q.base).toNat,oM⟩;have r:iY q c=some ⟨s.lo,(q.b.take b).drop a⟩:=by
    unfold iY;rw[Ww a0,Ww (by rw[n,o];exact D),n,o];have J:(min (s.hi+1) (s.lo+c) -q.base).toNat=b:=oM;have L:(s.lo -q.base).toNat=a:=oM;rw[J,L]
   rw[r];have v:a<=b:=oM;have O:b<=q.b.length:=oM;have hcut:=oG (P:=prog) Tryz.underlying47 N I q.b.length y a b v oM;rw[Q]at hcut;have U:=zH (fe.part a4.o.row v O a9);(have F:((q.b.take b).drop a).length=b -a:=by rw[bI,aT];omega);have u:=zH F;have b4:s.lo -q.base=(a:Int):=f.symm;have b5:(s.hi+1) -q.base=(b:Int):=E.symm;have b6:q.base<=s.lo:=oM;have b7:q.base<=(s.hi+1):=oM
  all_goals
   have d7:s.lo+c<18446744073709551616:=oM;have d8:0<=s.lo:=oM;have d9:(b:Int)<18446744073709551616:=oM;have e0:(a:Int)<18446744073709551616:=oM;have e1:c<18446744073709551616:=oM;have d6:0<=c:=oM;clear h B X b8 b9 a8 k r N c1 Q c2 f E F n o;generalize fE I y a 1=b2 at*
   generalize fT q=c6 at*
   go_enter Tryz.func90,Tryz.ntmps90;go_wp2;refine bN kR kR ?_;(repeat (first|go_big_quiet_step (((go_at_call 71;exact dn (T.o _ BEL))))|quiet_step (((go_at_call 71;exact dn (T.o _ BEL))))));refine aK ?_;rintro _ ⟨nq,rfl⟩;go_wp2_with fail;obtain⟨e6,c9⟩:=eX nq;rw[<-c9];clear c9 nq;refine mQ ?_;rintro _ ⟨nq,rfl⟩;go_wp2_with fail;obtain⟨d,G⟩:=eX ((w.alloc (.cells #[uI 0,zzN] 203)).drewN (e6+nq));rw[<-G];(have l:Blk d w.heap.size 203 #[uI 0,zzN]:=by rw[G];exact(Wx w 203 _).drewN _);(have C:bW w d:=by rw[G];exact BEL);have e8:d.cell? ⟨p,1,none⟩=some (uI q.base):=(C.cell (p:=⟨p,1,none⟩) a2).trans a5;have e9:d.cell? ⟨p,3,none⟩=some (.slice I q.b.length y):=(C.cell (p:=⟨p,3,none⟩) a2).trans a6;obtain⟨V,A⟩:=yx l C;clear G l C a5 c7 a6 a7;refine gN kR ?_;refine X9 0 ?_;(try simp only[Act.put,Array.setIfInBounds]);(try go_simp);refine eQ 1 18 kR (λm=>∃c3,m=d.drewN c3) ⟨1,rfl⟩ ?_;refine mA ?_;rintro _ ⟨e7,rfl⟩;refine dA rfl rfl ?_;refine fe.wp _ (.tmp 69) rfl d.heap.size none 0 [] (by rfl) (iq _ _ _ _) b2 (y -a) ((q.b.take b).drop a) (by simp[Act.eval,u.o]) (aD U.o (aA A.o _)) (by rw[u.o];simp;omega) dC (av _) ?_;intro z K R a1 Z;have M:bW d R:=bD (aA (aj _ _) _) ((aj _ _).grown Z (av _) XI);have H:=V.o.below M V.o.lt;obtain⟨f0,f2,f1,f3⟩:=H.c2;have e5:=H.lt;obtain⟨W,b1,b0⟩:=Av H a1 M;clear a1 Z M H;refine eQ 19 20 kR (λm=>∃_:Unit,m=_) ⟨(),rfl⟩ ?_;refine mA ?_;rintro c4 ⟨_,a3⟩;rw[a3];clear a3 c4;refine dA rfl rfl ?_;go_simp;refine jY 21 kR kR ?_;refine mC ?_;go_wp2;refine mZ ?_;have g:=b1.o;rw[List.nil_append]at g;have Y:=OwnAt.fresh g;have e4:=A.o.size;have e3:=A.o.trans (b0.o.mono A.o.size);refine⟨⟨z,K,by simp[u.o],Y.cap_,?_⟩,BEL⟩;have f:=(bQ.setCell (S:=λa=>d.heap.size<=a/\a<R.heap.size) (ts:=[some 5]) W.o dC 0 (uI s.lo)).trans (bQ.setCell (W.o.bF 0 (uI s.lo)) dC 1 (.slice z (b -a) K));have x:=(aG Y.row f sM).mono (S':=λa=>w.heap.size<=a/\a<((R.setCell ⟨w.heap.size,0,none⟩ (uI s.lo)).setCell ⟨w.heap.size,1,none⟩ (.slice z (b -a) K)).heap.size) (λa f=>⟨oM,by simpa[World.setCell]using f.2⟩);unfold Bys;show Row _ _ 5 1 z ((q.b.take b).drop a).length (((q.b.take b).drop a).flatMap byV);rw[u.o]at x|-;first|exact x|simpa using x|(refine aF x ?_;intro c5 l;exact l)|(refine aF ?_ (λc5 l=>l);exact x)
def SN (S:X4) (w:World):Nat->Prop:=λd=>S d\/w.heap.size<=d
theorem Row.tight {S:X4} {size n:Nat} {a:X5} {xs:List Value} (h:Row W (SN S w) t size a n xs):Row W (grow S w W) t size a n xs:=by
 refine⟨h.1,λl=>?_⟩;obtain⟨b,m,e,g,f,j,d,k⟩:=h.2 l;exact⟨b,m,e,g,f,j.elim .inl (λi=>.inr ⟨i,WT d⟩),d,k⟩
theorem OwnAt.tight {S:X4} {size n c:Nat} {a:X5} {xs:List Value} (h:OwnAt W (SN S w) t size a n c xs):OwnAt W (grow S w W) t size a n c xs:=
 ⟨h.own,λd e=>(h.mem d e).elim .inl (λf=>.inr ⟨f,h.lt d e⟩)⟩
theorem mG.tight {S:X4} {q:Qu} (h:mG W (SN S w) p q) (f:S p):mG W (grow S w W) p q:=by
 obtain⟨a,c,a4,c4,a5,c5,d,e,g,i,j,k⟩:=h.ex;exact⟨⟨a,c,a4,c4,a5,c5,d,e.tight,Row.tight g,i,Row.tight j,k⟩,.inl f⟩
structure Qp (w W:World) (S:X4) (p:Nat) (room base fresh:Int) (a:X5) (c:Nat) (b:List Int) (a4:X5) (c4:Nat) (dX:List Sp) (a5:X5) (c5:Nat) (cO:List Sp):Prop where
 hblk:Blk W p 234 #[jI room,uI base,uI fresh,.slice a b.length c,.slice a4 dX.length c4,.slice a5 cO.length c5]
 hown:OwnAt W (SN S w) 5 1 a b.length c (b.flatMap byV)
 rW:Sps W (SN S w) a4 dX
 EM:dX.length<=c4
 Cn:Sps W (SN S w) a5 cO
 EK:cO.length<=c5
 hmod:Qum S w W
section
variable {w W W':World} {S:X4} {p:Nat} {room base fresh:Int} {a a4 a5:X5} {c c4 c5:Nat} {b:List Int} {dX cO:List Sp}
theorem Qp.below (h:Qp w W S p room base fresh a c b a4 c4 dX a5 c5 cO) (hb:bW W W'):Qp w W' S p room base fresh a c b a4 c4 dX a5 c5 cO:=
 ⟨h.hblk.below hb h.hblk.lt,h.hown.below hb,aD h.rW hb,h.EM,aD h.Cn hb,h.EK,Mod.then (S':=S) h.hmod (aH hb) (λ_ _ h=>h)⟩
theorem Qp.quAt (h:Qp w W S p room base fresh a c b a4 c4 dX a5 c5 cO) (d:S p):mG W (grow S w W) p ⟨room,base,fresh,b,dX,cO⟩:=
 mG.tight ⟨⟨a,c,a4,c4,a5,c5,h.hblk,h.hown,h.rW,h.EM,h.Cn,h.EK⟩,.inl d⟩ d
theorem Qp.yX (h:Qp w W S p room base fresh a c b a4 c4 dX a5 c5 cO) (i:Nat) (u:Value):bQ (SN S w) [some 272] W (W.setCell ⟨p,i,none⟩ u):=bQ.setCell h.hblk dC i u
theorem Qp.owed_ (h:Qp w W S p room base fresh a c b a4 c4 dX a5 c5 cO) (f:S p) {a':X5} (d:Sps W (SN S w) a' I) (e:I.length<=k):
  Qp w (W.setCell ⟨p,5,none⟩ (.slice a' I.length k)) S p room base fresh a c b a4 c4 dX a' k I:=
 ⟨by simpa using h.hblk.bF 5 (.slice a' I.length k),h.hown.far (h.hown.pI h.hblk dC),aG h.rW (h.yX _ _) sM,h.EM,aG d (h.yX _ _) sM,e,Mod.setCell h.hmod h.hblk (λ_=>f) sM 5 _⟩
theorem Qp.LC (h:Qp w W S p room base fresh a c b a4 c4 dX a5 c5 cO) (f:S p) {a':X5} (d:Sps W (SN S w) a' I) (e:I.length<=k):
  Qp w (W.setCell ⟨p,4,none⟩ (.slice a' I.length k)) S p room base fresh a c b a' k I a5 c5 cO:=
 ⟨by simpa using h.hblk.bF 4 (.slice a' I.length k),h.hown.far (h.hown.pI h.hblk dC),aG d (h.yX _ _) sM,e,aG h.Cn (h.yX _ _) sM,h.EK,Mod.setCell h.hmod h.hblk (λ_=>f) sM 4 _⟩
theorem Qp.b_ (h:Qp w W S p room base fresh a c b a4 c4 dX a5 c5 cO) (e:S p) {a':X5} (d:OwnAt W (SN S w) 5 1 a' l.length k (l.flatMap byV)):
  Qp w (W.setCell ⟨p,3,none⟩ (.slice a' l.length k)) S p room base fresh a' k l a4 c4 dX a5 c5 cO:=
 ⟨by simpa using h.hblk.bF 3 (.slice a' l.length k),d.far (d.pI h.hblk dC),aG h.rW (h.yX _ _) sM,h.EM,aG h.Cn (h.yX _ _) sM,h.EK,Mod.setCell h.hmod h.hblk (λ_=>e) sM 3 _⟩
theorem Qp.base_ (h:Qp w W S p room base fresh a c b a4 c4 dX a5 c5 cO) (e:S p) (d:Int):
  Qp w (W.setCell ⟨p,1,none⟩ (uI d)) S p room d fresh a c b a4 c4 dX a5 c5 cO:=
 ⟨by simpa using h.hblk.bF 1 (uI d),h.hown.far (h.hown.pI h.hblk dC),aG h.rW (h.yX _ _) sM,h.EM,aG h.Cn (h.yX _ _) sM,h.EK,Mod.setCell h.hmod h.hblk (λ_=>e) sM 1 _⟩
end
theorem Ir (S:X4) (p:Nat) (q:Qu) (d n:Int) (w:World) (h:mG w S p q) (l:WV q) (U:Word d) (j6:Word n):
  Yk 190 #[pT p,uI d,uI n] w λb4 f=>(∃b,b4=.returned (bV b))/\mG f (grow S w f) p (kS q d n)/\Qum S w f:=by
 have r:=h.mem;obtain⟨b1,g6⟩:=yx (zT d n q.fresh U ⟨by have:=l.base0;have:=l.vV;omega,by have:=l.fresh;have:=l.qx;omega⟩) h;obtain⟨a,c,a4,c4,a5,c5,a0,c3,c6,b6,c7,c8⟩:=h.ex;have l1:=a0.Wu 2;have m2:=a0.lt;by_cases b7:nk d n q.fresh=true
 .obtain⟨n6,n7,n8⟩:=kC.1 b7
  obtain⟨m1,j3,k9⟩:=FX l.qx l.fresh l.base0;have y:d+n<18446744073709551616:=oM;(have k6:0<=d+n -1:=by have:=U.1;omega);(have n5:1<=d+n:=by have:=U.1;omega);have g0:=U.1;have g2:d<=d+n -1:=oM;have g3:d+n -1<=4611686018427387903:=oM;rw[b7]at b1;have d4:SpW ⟨d,d+n -1⟩:=⟨U,⟨k6,by show d+n -1<18446744073709551616;omega⟩⟩;have d0:Gd q.dX:=l.dX.mono oM;have a7:=zV (s:=⟨d,d+n -1⟩) d0 g0 g2 g3;have j0:=zu q.dX ⟨d,d+n -1⟩;have b9:=l.small;(have m3:q.b.length<=65536:=by have:=l.len;have:=l.qC;omega);(have a8:kS q d n=oJ {q with cO:=jh q.cO ⟨d,d+n -1⟩,dX:=gV (iV q.dX ⟨d,d+n -1⟩) q.base}:=by unfold kS;rw[Ww (by rw[b7];simp)]);have i7:∀k4∈gV (iV q.dX ⟨d,d+n -1⟩) q.base,k4.hi<q.fresh:=by
   refine GF.below (pP (lo:=q.base) a7 oM) λn3 r=>?_;rw[sW a7,vW d0 g2 g3]at r;simp only[Bool.and_eq_true,Bool.or_eq_true]at r;rcases r.1 with r|r
   .exact uQ l.Xk r
   .simp[nV]at r;omega
  have f5:=pP (lo:=q.base) a7 oM;have j4:=xM l d n g0;have i9:Qp w w S p q.room q.base q.fresh a c q.b a4 c4 q.dX a5 c5 q.cO:=⟨a0,c3.mono (λ_ h=>.inl h),aF c6 (λ_ h=>.inl h),b6,aF c7 (λ_ h=>.inl h),c8,aV _ _ _⟩;obtain⟨g7,h1,h2⟩:=Av (λf (W:World) (N:Sps W (SN S w) a5 q.cO) (i:bW W f)=>AV (SN S w) a5 c5 q.cO ⟨d,d+n -1⟩ f (aD N i) (by have:=b9.2;omega) (l.cO.words l.base0) d4) (λf (W:World) (N:Sps W (SN S w) a4 q.dX) (i:bW W f)=>sH (SN S w) a4 c4 q.dX ⟨d,d+n -1⟩ f (aD N i) (by have:=b9.1;omega) b6 (l.dX.words oM) d4) (λ(e1:X5) (h9:Nat) f (W:World) (N:Sps W (SN S w) e1 (iV q.dX ⟨d,d+n -1⟩)) (i:bW W f)=>zb (SN S w) e1 h9 (iV q.dX ⟨d,d+n -1⟩) q.base f (aD N i) (by have:=b9.1;omega) (a7.words oM));rw[a8];obtain⟨h3,k7⟩:=yx i9 j4;obtain⟨room,base,fresh,b,dX,cO⟩:=q;simp only at*
  have j5:GF base (gV (iV dX ⟨d,d+n -1⟩) base):=f5.mono oM;generalize gV (iV dX ⟨d,d+n -1⟩) base=c1 at*
  generalize iV dX ⟨d,d+n -1⟩=e2 at*
  generalize jh cO ⟨d,d+n -1⟩=K at*
  clear h a0 c3 c6 b6 c7 c8 l a8 d0 a7 j0 b9 f5 d4 U j6;go_enter Tryz.func190,Tryz.ntmps190;go_wp2_with fail;refine Yd (b1.o _) ?_;intro y rfl;go_wp2_with fail;obtain⟨X,a1⟩:=eX (w.alloc (.cells #[uI d,uI (d+n -1)] 272));rw[<-a1];(have B:Blk X w.heap.size 272 #[uI d,uI (d+n -1)]:=by rw[a1];exact Wx w 272 _);have g:=h3.o.below (show bW w X by rw[a1];exact BEL);(have m5:w.heap.size<=X.heap.size:=by rw[a1];simp);obtain⟨o,e⟩:=yx B g;clear a1 B g;obtain⟨i3,d7,d8,d3,a9⟩:=Ju (e.o.hblk.Wu 5) (o.o.Wu 0) (o.o.Wu 1) e.o.hblk.lt o.o.lt;refine gN kR ?_;refine X9 0 ?_;(try simp only[Act.put,Array.setIfInBounds]);(try go_simp);refine eQ 1 6 kR (λf=>∃n,f=X.drewN n) ⟨1,rfl⟩ ?_;refine mA ?_;rintro _ ⟨d6,rfl⟩;refine dA rfl rfl ?_;go_wp2_with fail;refine(g7.o _ _ e.o.Cn (aA (aj _ _) _)).mono ?_;rintro b4 y ⟨g1,k3,rfl,C,H,i⟩;have v:bW X y:=bD (aA (aj _ _) _) i;have z:=e.o.below v;have J:=o.o.below v a9;have f6:=v.size;have I:Sps y (SN S w) g1 K:=aF H (λm u=>.inr (by have:=u.1;first|omega|(simp at this;omega)));obtain⟨b0,Z⟩:=z.hblk.cz 5;obtain⟨F,G,h7,h0⟩:=Bq z J I C;clear i v z J H I C i3 d7 d8;go_wp2_with fail;refine X9 7 ?_;refine X9 8 ?_;refine X9 9 ?_;(try simp only[Act.put,Array.setIfInBounds]);(try go_simp);refine eQ 10 12 kR (λf=>∃_:Unit,f=_) ⟨(),rfl⟩ ?_;refine mA ?_;rintro O ⟨_,A⟩;rw[A];clear A O;refine dA rfl rfl ?_;go_simp;refine jY 13 kR kR ?_;refine mC ?_;go_wp2_with fail;obtain⟨b2,a2⟩:=eX (y.setCell ⟨p,5,none⟩ (.slice g1 K.length k3));rw[<-a2];have g:=F.o.owed_ r h7.o h0.o;rw[<-a2]at g;(have B:Blk b2 w.heap.size 272 #[uI d,uI (d+n -1)]:=by rw[a2];exact G.o.far (show w.heap.size≠p by omega) _);(have m6:w.heap.size<=b2.heap.size:=by rw[a2];simp[World.setCell];omega);clear e o;obtain⟨o,e⟩:=yx B g;clear a2 B g F G b0 Z;obtain⟨c2,d7,d8,d3,a9⟩:=Ju (e.o.hblk.Wu 4) (o.o.Wu 0) (o.o.Wu 1) e.o.hblk.lt o.o.lt;refine gN kR ?_;refine X9 0 ?_;(try simp only[Act.put,Array.setIfInBounds]);(try go_simp);refine eQ 1 6 kR (λf=>∃n,f=b2.drewN n) ⟨1,rfl⟩ ?_;refine mA ?_;rintro _ ⟨d6,rfl⟩;refine dA rfl rfl ?_;go_wp2_with fail;refine(h1.o _ _ e.o.rW (aA (aj _ _) _)).mono ?_;rintro b4 y ⟨e3,h8,rfl,C,H,i⟩;have v:bW b2 y:=bD (aA (aj _ _) _) i;have z:=e.o.below v;have J:=o.o.below v a9;have f6:=v.size;have I:Sps y (SN S w) e3 e2:=aF H (λm u=>.inr (by have:=u.1;first|omega|(simp at this;omega)));obtain⟨b0,Z⟩:=z.hblk.cz 4;obtain⟨F,G,h5,g8⟩:=Bq z J I C;clear i v z J H I C c2 d7 d8;go_wp2_with fail;refine X9 7 ?_;refine X9 8 ?_;refine X9 9 ?_;(try simp only[Act.put,Array.setIfInBounds]);(try go_simp);refine eQ 10 12 kR (λf=>∃_:Unit,f=_) ⟨(),rfl⟩ ?_;refine mA ?_;rintro O ⟨_,A⟩;rw[A];clear A O;refine dA rfl rfl ?_;go_simp;refine jY 13 kR kR ?_;refine mC ?_;go_wp2_with fail;obtain⟨b3,a3⟩:=eX (y.setCell ⟨p,4,none⟩ (.slice e3 e2.length h8));rw[<-a3];have g:=F.o.LC r h5.o g8.o;rw[<-a3]at g;(have B:Blk b3 w.heap.size 272 #[uI d,uI (d+n -1)]:=by rw[a3];exact G.o.far (show w.heap.size≠p by omega) _);(have m7:w.heap.size<=b3.heap.size:=by rw[a3];simp[World.setCell];omega);clear e o;obtain⟨o,e⟩:=yx B g;clear a3 B g F G b0 Z;obtain⟨c2,i2⟩:=e.o.hblk.e2 4 1;have d3:=e.o.hblk.lt;have a9:=o.o.lt;refine gN kR ?_;refine X9 0 ?_;(try simp only[Act.put,Array.setIfInBounds]);(try go_simp);refine eQ 1 9 kR (λf=>∃n,f=b3.drewN n) ⟨1,rfl⟩ ?_;refine mA ?_;rintro _ ⟨d6,rfl⟩;refine dA rfl rfl ?_;go_wp2_with fail;refine(h2.o _ _ _ _ e.o.rW (aA (aj _ _) _)).mono ?_;rintro b4 y ⟨e4,E,rfl,C,H,i⟩;have v:bW b3 y:=bD (aA (aj _ _) _) i;have z:=e.o.below v;have J:=o.o.below v a9;have f6:=v.size;have I:Sps y (SN S w) e4 c1:=aF H (λm u=>.inr (by have:=u.1;first|omega|(simp at this;omega)));obtain⟨b0,Z⟩:=z.hblk.cz 4;obtain⟨F,G,h6,g9⟩:=Bq z J I C;clear i v z J H I C c2 i2;go_wp2_with fail;refine eQ 10 12 kR (λf=>∃_:Unit,f=_) ⟨(),rfl⟩ ?_;refine mA ?_;rintro O ⟨_,A⟩;rw[A];clear A O;refine dA rfl rfl ?_;go_simp;refine jY 13 kR kR ?_;refine mC ?_;go_wp2_with fail;obtain⟨Y,a6⟩:=eX (y.setCell ⟨p,4,none⟩ (.slice e4 c1.length E))
  rw[<-a6];have g:=F.o.LC r h6.o g9.o;rw[<-a6]at g;(have B:Blk Y w.heap.size 272 #[uI d,uI (d+n -1)]:=by rw[a6];exact G.o.far (show w.heap.size≠p by omega) _);(have j7:w.heap.size<=Y.heap.size:=by rw[a6];simp[World.setCell];omega);clear e o;obtain⟨o,e⟩:=yx B g;clear a6 B g F G b0 Z;obtain⟨R,b5⟩:=e.o.hblk.e2 4 1;have d3:=e.o.hblk.lt;cases u:c1 with
  |nil=>
   subst u;have T:oJ ⟨room,base,fresh,b,[],K⟩=⟨room,base,fresh,b,[],K⟩:=rfl;simp only[List.length_nil]at R;refine mQ ?_;rintro _ ⟨nq,rfl⟩;go_wp2;go_ret;have g:=e.o.below (aA (aj _ _) nq);rw[T];exact⟨⟨_,rfl⟩,g.quAt r,g.hmod⟩
  |cons x t=>
   subst u;obtain⟨L,Q,rfl,j8,f9,d5⟩:=Sps.at_ e.o.rW (aj _ _) (j:=0) sM;simp only[Nat.zero_mul,Nat.add_zero,List.getElem_cons_zero]at f9 d5;have n9:=i7 x sM;obtain⟨l2,l3,l4⟩:=j5.head;have n4:decide ((0:Int)<((t.length:Int)+1))=true:=sM;have k5:(x::t).length=t.length+1:=rfl;rw[k5]at R;by_cases i:x.lo=base
   .have j1:(x.lo==base)=true:=by simp[i]
    have T:oJ ⟨room,base,fresh,b,x::t,K⟩=⟨room,x.hi+1,fresh,b.drop (x.hi+1 -base).toNat,t,K⟩:=by
     unfold oJ;simp only[aY,List.getD_cons_zero,i,List.drop_succ_cons,List.drop_zero];rw[aB ⟨oM,trivial⟩]
    obtain⟨m,u⟩:∃m:Nat,(m:Int)=x.hi+1 -base:=⟨(x.hi+1 -base).toNat,oM⟩;have f4:(x.hi+1 -base).toNat=m:=oM;rw[f4]at T;(have f3:m<=b.length:=by have:=j3;simp only[fT]at this;omega);have l5:x.hi+1<18446744073709551616:=oM;have l6:0<=x.hi:=oM;have l7:base<=x.hi+1:=oM;have l8:x.hi+1 -base=(m:Int):=u.symm;have l9:(m:Int)<18446744073709551616:=oM;obtain⟨n0,f1,k1,f8,k2⟩:=info_parts lF;have hcut:=BC (P:=prog) Tryz.underlying47 f1 a b.length c m f3;rw[f8]at hcut;have C:=e.o.hown.cap_;obtain⟨V,c0⟩:=yx (fe.drop e.o.hown.row f3 C) (show(b.drop m).length=b.length -m by rw[bI]);generalize fE a c m 1=i1 at*
    clear f1 k1 f8 k2 u f4;refine mQ ?_;rintro _ ⟨nq,rfl⟩;obtain⟨D,M⟩:=eX (Y.drewN nq);rw[<-M];have g:=e.o.below (show bW Y D by rw[M];exact aA (aj _ _) nq);have e5:=aD V.o (show bW Y D by rw[M];exact aA (aj _ _) nq);(have n2:D.cell? ⟨L,Q+1,none⟩=some (uI x.hi):=by rw[M];exact d5);(have m9:L<D.heap.size:=by rw[M];exact j8);(have m8:w.heap.size<=D.heap.size:=by rw[M];exact j7);clear e o V f9 d5 b5 R;obtain⟨e,V⟩:=yx g e5;clear M g e5;obtain⟨R,i4,b5⟩:=e.o.hblk.e3 4 3 1;go_wp2;refine gN kR ?_;refine X9 0 ?_;(try simp only[Act.put,Array.setIfInBounds]);(try go_simp);refine eQ 1 12 kR (λf=>∃n,f=D.drewN n) ⟨1,rfl⟩ ?_;refine mA ?_;rintro _ ⟨d6,rfl⟩;refine dA rfl rfl ?_;refine fe.wp _ (.tmp 102) rfl D.heap.size none 0 [] (by rfl) (iq _ _ _ _) i1 (c -m) (b.drop m) (by simp[Act.eval,c0.o]) (aD V.o (aA (aj _ _) _)) (by rw[c0.o];simp;omega) dC (av _) ?_;intro g5 i0 g4 d2 f0;have d1:bW D g4:=bD (aA (aj _ _) _) ((aj _ _).grown f0 (av _) XI);have b8:=e.o.below d1;rw[List.nil_append]at d2;obtain⟨e9,i6,i5,m4⟩:=Hl ((OwnAt.fresh d2).mono (S':=SN S w) (λm u=>.inr (by have:=u.1;omega))) (b8.hblk.frozen 3) (b8.hblk.Wu 3) d1.size;obtain⟨e0,d9⟩:=yx b8 e9;clear d2 f0 d1 b8 e9;refine eQ 13 15 kR (λf=>∃_:Unit,f=_) ⟨(),rfl⟩ ?_;refine mA ?_;rintro O ⟨_,A⟩;rw[A];clear A O;refine dA rfl rfl ?_;go_simp;refine jY 16 kR kR ?_;refine mC ?_;go_wp2_with fail;obtain⟨k8,c9⟩:=eX (g4.setCell ⟨p,3,none⟩ (.slice g5 (b.length -m) i0));rw[<-c9];have g:=e0.o.b_ r d9.o;rw[c0.o,<-c9]at g;clear e V e0 d9 b5 i4 R i5 i6;have e:=zH g;clear c9 g;obtain⟨R,b5⟩:=e.o.hblk.e2 4 1;have o1:=e.o.hblk.frozen 4;have o0:=e.o.hblk.frozen 1;obtain⟨n1,f2,j9,f7,k0⟩:=info_parts AQ;have j2:t.length+1<=E:=e.o.EM;have m0:∀w,(Instr.slice 90 (.slice (some ⟨L,Q,none⟩) (t.length+1) E) (some (jI 1)) none none).run prog w=.ok (.slice (fE (some ⟨L,Q,none⟩) E 1 2) t.length (E -1)) w:=λw=>by
     have:=gI (P:=prog) Tryz.underlying90 f2 (some ⟨L,Q,none⟩) (t.length+1) E 1 oM w;rw[f7]at this;exact this
    clear f2 j9 f7 k0;have h4:=zH (λ(W:World) (N:Sps W (SN S w) (some ⟨L,Q,none⟩) (x::t))=>(iP.drop N (k:=1) sM j2:Sps W (SN S w) (fE (some ⟨L,Q,none⟩) E 1 2) t));generalize fE (some ⟨L,Q,none⟩) E 1 2=l0 at*
    go_region;all_goals (
     go_wp2;go_ret;have e6:=e.o.base_ r (x.hi+1);have i8:=e6.LC r (h4.o _ e6.rW) (show t.length<=E -1 by omega);have e7:=i8.below (bA (aj _ _));rw[T];exact⟨⟨_,rfl⟩,e7.quAt r,e7.hmod⟩)
   .have j1:(x.lo==base)=false:=by simp[i]
    have T:oJ ⟨room,base,fresh,b,x::t,K⟩=⟨room,base,fresh,b,x::t,K⟩:=by
     unfold oJ;simp only[aY,List.getD_cons_zero];rw[Ww (by simp[i])]
    refine mQ ?_;rintro _ ⟨nq,rfl⟩;go_wp2;go_ret;have g:=e.o.below (aA (aj _ _) nq);rw[T];exact⟨⟨_,rfl⟩,g.quAt r,g.hmod⟩
 .have e8:nk d n q.fresh=false:=by simpa using b7
  (have a8:kS q d n=q:=by unfold kS;rw[aB (by simp[e8])]);rw[a8];rw[e8]at b1;clear h a0 c3 c6 b6 c7 c8 l a8;go_enter Tryz.func190,Tryz.ntmps190;go_wp2_with fail;refine Yg (b1.o _) ?_;go_wp2;go_ret;exact⟨⟨_,rfl⟩,g6.o.za (λm u=>.inl u),aV _ _ _⟩
theorem GF.len_ {l:List Sp} {b e:Int} (h:GF b l) (a:∀d∈l,d.hi<e) (i:e -b<=65536):l.length<=100000:=by
 by_cases c:b<=e
 .have:=h.count a c;omega
 .cases l with
  |nil=>simp
  |cons x t=>
   have f:=h.head;have g:=a x sM;omega
theorem KO {q:Qu} (h:WV q) {a n:Int} (o:0<=a) (p:nk a n q.fresh=true):
  (∀d,GF q.base ((q.dX.take d).foldl jh (gV [⟨a,a+n -1⟩] q.base))/\((q.dX.take d).foldl jh (gV [⟨a,a+n -1⟩] q.base)).length<=100000)/\
  (∀d,GF q.base (((q.dX.foldl jh (gV [⟨a,a+n -1⟩] q.base)).take d).foldl iV q.cO)/\(((q.dX.foldl jh (gV [⟨a,a+n -1⟩] q.base)).take d).foldl iV q.cO).length<=100000):=by
 obtain⟨z,A,B⟩:=kC.1 p;obtain⟨C,D,s,E,F⟩:=Ju h.base0 h.qx h.fresh h.len h.qC;have x:a<=a+n -1:=oM;have y:a+n -1<=4611686018427387903:=oM;have k:Gd [(⟨a,a+n -1⟩:Sp)]:=⟨o,x,y,trivial⟩;have t:=pP (lo:=q.base) k oM;have r:=sW (lo:=q.base) k;(have l:q.fresh -q.base<=65536:=by unfold fT at s;omega);have hcut:∀i:List Sp,(∀b∈i,b.lo<=b.hi/\b.hi<=4611686018427387903)->GF q.base (i.foldl jh (gV [⟨a,a+n -1⟩] q.base))/\∀b∈i.foldl jh (gV [⟨a,a+n -1⟩] q.base),b.hi<q.fresh:=by
  intro i u;obtain⟨f,g⟩:=tN i _ _ t oM u;refine⟨f.mono oM,f.below λw c=>?_⟩;rw[g,r]at c;simp only[Bool.and_eq_true]at c;have:=c.1.1;simp[dI,nV]at this;omega
 refine⟨λd=>?_,λd=>?_⟩
 .obtain⟨f,g⟩:=hcut (q.dX.take d) (λb e=>(h.dX.low b (bf e)).2)
  exact⟨f,f.len_ g l⟩
 .obtain⟨f,g⟩:=hcut q.dX (λb e=>(h.dX.low b e).2)
  generalize q.dX.foldl jh (gV [⟨a,a+n -1⟩] q.base)=m at*
  obtain⟨j,v⟩:=zU (m.take d) q.cO q.base h.cO h.base0 (λb e=>f.low b (bf e));refine⟨j,j.len_ (j.below λw c=>?_) l⟩;rw[v]at c;simp only[Bool.or_eq_true]at c;rcases c with c|c
  .exact uQ h.ni c
  .exact uQ (λb e=>g b (bf e)) c
theorem Kz (S:X4) (p:Nat) (q:Qu) (b n:Int) (w:World) (h:mG w S p q) (a:WV q) (A:Word b) (g8:Word n):
  Yk 144 #[pT p,uI b,uI n] w λU g=>(∃a8,U=.returned (bV a8))/\mG g (grow S w g) p (pF q b n)/\Qum S w g:=by
 have e5:=h.mem;obtain⟨Q,f3⟩:=yx (zT b n q.fresh A ⟨by have:=a.base0;have:=a.vV;omega,by have:=a.fresh;have:=a.qx;omega⟩) h;obtain⟨d5,d7,a7,b2,d6,d8,x,b6,b7,b8,b9,c0⟩:=h.ex;have i0:=x.Wu 2;have g9:=x.lt;by_cases J:nk b n q.fresh=true
 .obtain⟨j8,j9,k0⟩:=kC.1 J
  obtain⟨i3,i4,h8⟩:=FX a.qx a.fresh a.base0;have l:b+n<18446744073709551616:=oM;(have a2:0<=b+n -1:=by have:=A.1;omega);(have j7:1<=b+n:=by have:=A.1;omega);have h1:=A.1;obtain⟨d2,d3⟩:=KO a h1 J;rw[J]at Q;have f0:SpW ⟨b,b+n -1⟩:=⟨A,⟨a2,by show b+n -1<18446744073709551616;omega⟩⟩;(have N:pF q b n={q with cO:=(q.dX.foldl jh (gV [⟨b,b+n -1⟩] q.base)).foldl iV q.cO}:=by unfold pF;rw[Ww (by rw[J];simp)]);have e1:Qp w w S p q.room q.base q.fresh d5 d7 q.b a7 b2 q.dX d6 d8 q.cO:=⟨x,b6.mono (λ_ h=>.inl h),aF b7 (λ_ h=>.inl h),b8,aF b9 (λ_ h=>.inl h),c0,aV _ _ _⟩;have e3:=a.dX.words oM;have i8:=a.small.1;rw[N];obtain⟨d1,c7,c8,f4⟩:=Bq e1 d2 d3 e3;obtain⟨h3,b0,g6,a8,c,v⟩:=q;simp only at*
  obtain⟨h9,g3⟩:=x.e2 1 4;have f8:=zH (λ(g:World) (V:Nat) (K:Sps g (λe=>e=V) (some ⟨V,0,none⟩) [(⟨b,b+n -1⟩:Sp)])=>zb (λe=>e=V) (some ⟨V,0,none⟩) 1 [(⟨b,b+n -1⟩:Sp)] b0 g K sM (λa1 e9=>by simp at e9;rw[e9];exact f0));clear h x b6 b7 b8 b9 c0 a N d2 d3 e1 e3 f0 A g8;generalize gV [(⟨b,b+n -1⟩:Sp)] b0=j at*
  go_enter Tryz.func144,Tryz.ntmps144;go_wp2_with fail;refine Yd (Q.o _) ?_;intro l rfl;go_wp2_with fail;refine(f8.o _ _ (kQ (Wx w _ _))).mono ?_;rintro U l ⟨e0,g5,rfl,o,s,k⟩;have m:bW w l:=bD (by exact BEL) (k.mono sM);have L:Sps l (SN S w) e0 j:=aF s (λe r=>.inr (by have:=r.1;simp at this;omega));obtain⟨f5,a5,f7⟩:=Av m L o;have i1:l.cell? ⟨p,4,none⟩=some (.slice a7 c.length b2):=(m.cell (p:=⟨p,4,none⟩) g9).trans g3;clear k m s L o;go_wp2;go_loopw [41,7,9] (λz h4 j6 wr=>∃(d:Nat) (H:X5) (T:Nat),d<=c.length/\z=jI d/\h4=.slice H ((c.take d).foldl jh j).length T/\X3 (Sps wr (SN S w) H ((c.take d).foldl jh j))/\X3 (((c.take d).foldl jh j).length<=T)/\X3 (bW w wr)) (λz _ _ _=>c.length -(intOf z).toNat);(case atStart=>exact⟨0,e0,g5,oM,rfl,sM,a5,f7,f5⟩);case round=>
   obtain⟨d,H,T,i5,rfl,rfl,i,a3,E⟩:=hrel;have h0:=E.o.size;by_cases y:d<c.length
   .obtain⟨a9,c5,rfl,g7,Z,a0⟩:=Sps.at_ d1.o.rW E.o y
    have O:=f4.o _ (aN y);(have M:(c.take (d+1)).foldl jh j=jh ((c.take d).foldl jh j) c[d]:=by rw[bB y,iA];rfl);obtain⟨I,b5⟩:=c7.o d;have a6:=zH M;generalize c[d]=a1 at*
    obtain⟨C,B⟩:=a1;simp only at Z a0;have t:=zH (λ(g:World) (K:bW wr g)=>AV (SN S w) H T ((c.take d).foldl jh j) ⟨C,B⟩ g (aD i.o K) oM (I.words oM) O);clear M I b5 O;rw[<-a6.o]at t;generalize(c.take d).foldl jh j=h7 at*
    obtain⟨g2,c2⟩:=eX ((c.take (d+1)).foldl jh j);rw[<-c2]at t;have D:=zH c2;clear c2;go_wp2_with fail;refine(t.o _ (BEL)).mono ?_;rintro U a2 ⟨G,b1,rfl,o,s,k⟩;have e4:bW w a2:=bD (show bW w (wr.alloc (.cells #[uI C,uI B] 272)) by have k:=E.o;exact BEL) (k.mono sO);have e7:Sps a2 (SN S w) G g2:=aF s (λe r=>.inr (by have:=r.1;simp at this;omega));obtain⟨f6,g0,a4⟩:=Av e4 e7 o;clear k e4 s e7 o;go_wp2;go_roundw;(case rel=>exact⟨d+1,G,b1,oM,by go_num,by rw[<-D.o],by rw[<-D.o];exact g0,by rw[<-D.o];exact a4,f6⟩);case measure=>exact Yl
   .obtain rfl:d=c.length:=oM
    have d9:c.take c.length=c:=dM;rw[d9]at i a3|-;clear d9;obtain⟨b4,f2⟩:=c7.o c.length;rw[dM]at b4 f2;have c6:=zH b4;clear b4;have c9:=zH (d1.o.below E.o);obtain⟨f,c1⟩:=eX (c.foldl jh j);rw[<-c1]at i a3 c6 c8 f2|-;have f9:=zH c1;clear c1;go_wp2;go_loopw [54,11] (λz j5 P=>∃(d:Nat) (R:X5) (b3:Nat),d<=f.length/\z=jI d/\X3 (Qp w P S p h3 b0 g6 d5 d7 a8 a7 b2 c R b3 ((f.take d).foldl iV v))/\X3 (Sps P (SN S w) H f)/\w.heap.size<=P.heap.size) (λz _ _=>f.length -(intOf z).toNat);(case atStart=>exact⟨0,d6,d8,oM,rfl,c9,i,h0⟩);case round=>
     clear c9 i E a3;obtain⟨e,R,b3,r,rfl,u,i,j0⟩:=hrel;by_cases y:e<f.length
     .obtain⟨a9,c5,rfl,g7,Z,a0⟩:=Sps.at_ i.o (aj _ _) y
      have O:=c6.o.words oM _ (aN y);(have M:(f.take (e+1)).foldl iV v=iV ((f.take e).foldl iV v) f[e]:=by rw[bB y,iA];rfl);obtain⟨I,b5⟩:=c8.o e;have a6:=zH M;generalize f[e]=a1 at*
      obtain⟨C,B⟩:=a1;simp only at Z a0;have t:=zH (λ(d4 g:World) (a:Sps d4 (SN S w) R ((f.take e).foldl iV v)) (K:bW d4 g)=>sH (SN S w) R b3 ((f.take e).foldl iV v) ⟨C,B⟩ g (aD a K) oM u.o.EK (I.words oM) O);clear M I b5 O;rw[<-a6.o]at t;obtain⟨h2,c3⟩:=eX ((f.take (e+1)).foldl iV v);rw[<-c3]at t;have D:=zH c3;clear c3;generalize(f.take e).foldl iV v=j3 at*
      go_wp2_with fail;obtain⟨F,W⟩:=eX (wr.alloc (.cells #[uI C,uI B] 272));rw[<-W];(have X:bW wr F:=by rw[W];exact BEL);(have Y:Blk F wr.heap.size 272 #[uI C,uI B]:=by rw[W];exact Wx _ _ _);have a:=u.o.below X;have e8:=aD i.o X;have i9:=X.size;clear W u i X Z a0;obtain⟨u,i⟩:=yx a (show Sps F (SN S w) (some ⟨a9,c5,none⟩) f from e8);obtain⟨h5,h6⟩:=Y.e2 0 1;have g4:=a.hblk.Wu 5;have i6:=a.hblk.lt;have j1:=Y.lt;clear a Y e8;refine gN kR ?_;refine X9 0 ?_;(try simp only[Act.put,Array.setIfInBounds]);(try go_simp);refine eQ 1 6 kR (λg=>∃n,g=F.drewN n) ⟨1,rfl⟩ ?_;refine mA ?_;rintro _ ⟨j2,rfl⟩;refine dA rfl rfl ?_;go_wp2_with fail;refine(t.o _ _ u.o.Cn (aA (aj _ _) _)).mono ?_;rintro U l ⟨G,b1,rfl,o,s,k⟩;have m:bW F l:=bD (aA (aj _ _) _) k;have c4:=u.o.below m;have e6:=aD i.o m;have i7:=m.size;have L:Sps l (SN S w) G h2:=aF s (λe r=>.inr (by have:=r.1;first|omega|(simp at this;omega)));obtain⟨j4,i2⟩:=c4.hblk.cz 5;obtain⟨d0,g1,a5,a4⟩:=Bq c4 (show Sps l (SN S w) (some ⟨a9,c5,none⟩) f from e6) L o;clear k m c4 s L o e6 g4 h5 h6;go_wp2_with fail;refine X9 7 ?_;refine X9 8 ?_;refine X9 9 ?_;(try simp only[Act.put,Array.setIfInBounds]);(try go_simp);refine eQ 10 12 kR (λg=>∃_:Unit,g=_) ⟨(),rfl⟩ ?_;refine mA ?_;rintro P ⟨_,f1⟩;rw[f1];clear f1 P;refine dA rfl rfl ?_;go_simp;refine jY 13 kR kR ?_;refine mC ?_;go_wp2;go_roundw;(case rel=>exact⟨e+1,G,b1,oM,by go_num,by rw[<-D.o];exact d0.o.owed_ e5 a5.o a4.o,aG g1.o (d0.o.yX 5 _) sM,by simp[World.setCell];omega⟩);case measure=>exact Yl
     .obtain rfl:e=f.length:=oM
      go_wp2;go_ret;have a:=u.o;rw[dM]at a;rw[<-f9.o];exact⟨⟨_,rfl⟩,a.quAt e5,a.hmod⟩
 .have e2:nk b n q.fresh=false:=by simpa using J
  (have N:pF q b n=q:=by unfold pF;rw[aB (by simp[e2])]);rw[N];rw[e2]at Q;clear h x b6 b7 b8 b9 c0 a N;go_enter Tryz.func144,Tryz.ntmps144;go_wp2_with fail;refine Yg (Q.o _) ?_;go_wp2;go_ret;exact⟨⟨_,rfl⟩,f3.o.za (λe r=>.inl r),aV _ _ _⟩
def dDt (e bn d a c n:Int) (b:List Int):Rda:=
 if(fQ n.toNat b).err≠0 then⟨daZ,(fQ n.toNat b).err⟩else if 0<(fQ n.toNat b).left.length then⟨daZ,3⟩else⟨⟨e,bn,d,a,c,(fQ n.toNat b).val⟩,0⟩
def dDn (e bn a c d:Int) (b:List Int):Rda:=
 if(eZ b).err≠0 then⟨daZ,(eZ b).err⟩else if(eZ b).val<1\/1500<(eZ b).val\/4611686018427387903 -(eZ b).val<a then⟨daZ,5⟩else dDt e bn a c d (eZ b).val (eZ b).left
def dDx (d bn c a:Int) (b:List Int):Rda:=if(jU b).err≠0 then⟨daZ,(jU b).err⟩else dDn d bn c (jU b).val a (jU b).left
def dDo (c bn a:Int) (b:List Int):Rda:=if(eZ b).err≠0 then⟨daZ,(eZ b).err⟩else dDx c bn (eZ b).val a (eZ b).left
def dDl (a c:Int) (b:List Int):Rda:=if(eZ b).err≠0 then⟨daZ,(eZ b).err⟩else if a<(eZ b).val then⟨daZ,5⟩else dDo a (eZ b).val c (eZ b).left
def dDp (a:Int) (b:List Int):Rda:=if(eZ b).err≠0 then⟨daZ,(eZ b).err⟩else dDl (eZ b).val a (eZ b).left
theorem take_one (a:Int) (t:List Int):fQ 1 (a::t)=⟨[a],0,t⟩:=by unfold fQ;rw[Ww sM];rfl
theorem JM:ky []=⟨daZ,2⟩:=rfl
theorem Xm (a:Int):ky [a]=if a≠1 then⟨daZ,4⟩else⟨daZ,2⟩:=by unfold ky;rw[take_one];rfl
theorem zl (b a:Int) (t:List Int):ky (b::a::t)=if b≠1 then⟨daZ,4⟩else if(!tF a)=true then⟨daZ,5⟩else dDp a t:=by
 unfold ky;rw[take_one];simp only[ne_eq,not_true_eq_false,if_false,List.getD_cons_zero,take_one];rfl
theorem Sr {t:List Int} (h:¬x=1):ky (x::t)=⟨daZ,4⟩:=by
 cases t with
 |nil=>rw[Xm,aB h]
 |cons b1 t=>rw[zl,aB h]
theorem yY (x4:X4) (a:X5) (c:Nat) (l:List Int) (w:World) (h:Bys w x4 a l) (y3:l.length<=100000) (g9:dP l):
  Yk 38 #[.slice a l.length c] w λX w0=>∃x6 x8,X=.returned (.tuple #[.agg #[uI (ky l).val.pn,uI (ky l).val.bn,uI (ky l).val.off,uI (ky l).val.bX,jI (ky l).val.ecn,.slice x6 (ky l).val.body.length x8],jI (ky l).err])/\(ky l).val.body.length<=x8/\Bys w0 (λm=>w.heap.size<=m/\m<w0.heap.size) x6 (ky l).val.body/\bW w w0:=by
 obtain⟨H9,g7⟩:=eX (ky l);rw[<-g7];obtain⟨x2,b3⟩:=yx h g7;clear g7 h;go_enter Tryz.func38,Tryz.ntmps38;go_wp2_with fail;refine(BL x4 a c l _ (aD x2.o (BEL)) oM).mono ?_;rintro X a0 ⟨Q,rfl,y5,f,g8⟩;(have K5:w.heap.size<Q:=by simp at y5;omega);have g:bW w a0:=pY g8;have a4:Blk a0 (w.heap.size) 115 #[uI 0,uI 0,uI 0,uI 0,jI 0,zzN]:=iK g8;obtain⟨z8,A4,z9,A5,A0,A6,A1,A7,A2,A8,A3,A9⟩:=a4.c6;have K9:w.heap.size<a0.heap.size:=a4.lt;have f2:=zH a4;clear a4;have a5:=zH g;clear g8 g;have K4:=f.lt;have e8:=zH (f.mono (S':=λ_=>True) (λ_ _=>trivial));clear f y5 x2;rcases l with _|⟨b8,V⟩
 .have n4:fQ 1 []=⟨[],2,[]⟩:=rfl
  have n:=nR (λ_=>True) Q [] 1 a0 e8.o sM dC;rw[n4]at n;go_wp2_with fail;refine n.mono ?_;rintro X e ⟨x5,x7,rfl,q,F6,d⟩;have y0:bW w e:=a5.o.trans (d.cZ (by have:=a5.o.size;omega) (λm i h=>by omega));have a1:=zH y0;have s:=f2.o.mod d dC;obtain⟨d3,d9,d4,e0,d5,e1,d6,e2,d7,e3,d8,e4⟩:=s.c6;clear q F6 d y0 s e8 a5;refine mV ?_;have b:=b3.o;rw[JM]at b;rw[b];refine⟨none,0,rfl,av _,Row.WH,?_⟩;have y:=a1.o;exact BEL
 .have n:=nR (λ_=>True) Q (b8::V) 1 a0 e8.o oM dC
  rw[take_one]at n;have J4:=g9 b8 sM;have a8:dP V:=λw1 n5=>g9 w1 (by simp[n5]);(have y4:V.length<=100000:=by simp only[aY]at y3;omega);clear g9 y3;by_cases b4:b8=1
  .have C9:(b8 !=1)=false:=by simp[b4]
   go_wp2_with fail;refine n.mono ?_;rintro X e ⟨x5,x7,rfl,q,f,d⟩;obtain⟨C0,C1,rfl,D7,e5⟩:=Bys.at_ q (aj _ _) (j:=0) sM;simp only[Nat.add_zero,List.getElem_cons_zero]at e5;have a4:=f2.o;have g:bW w e:=by
    refine(a5.o.trans (show Below w.heap.size a0 (a0)from BEL)).trans (d.cZ ?_ ?_)
    .have z:=a5.o.size;first|omega|(simp;omega)
    .intro m i h;omega
   have s:Blk e (w.heap.size) 115 #[uI 0,uI 0,uI 0,uI 0,jI 0,zzN]:=jw d;obtain⟨d3,d9,d4,e0,d5,e1,d6,e2,d7,e3,d8,e4⟩:=s.c6;have F7:w.heap.size<e.heap.size:=s.lt;have f3:=zH s;clear s;have a1:=zH g;clear d g;clear a4 z8 A4 z9 A5 A0 A6 A1 A7 A2 A8 A3 A9;have e9:=zH f;clear f;clear q n;go_wp2_with fail;rcases V with _|⟨o,V⟩
   .have n4:fQ 1 []=⟨[],2,[]⟩:=rfl
    have n:=nR (λ_=>True) Q [] 1 (e.alloc (.cells #[uI 0,uI 0,uI 0,uI 0,jI 0,zzN] 115)) (e9.o.below (BEL)) sM dC;rw[n4]at n;refine n.mono ?_;rintro X C ⟨B9,C2,rfl,q,f,d⟩;have s:=f3.o;have g:bW w C:=by
     refine(a1.o.trans (show Below w.heap.size e (e.alloc (.cells #[uI 0,uI 0,uI 0,uI 0,jI 0,zzN] 115))from BEL)).trans (d.cZ ?_ ?_)
     .have z:=a1.o.size;first|omega|(simp;omega)
     .intro m i h;omega
    have J:Blk C (w.heap.size) 115 #[uI 0,uI 0,uI 0,uI 0,jI 0,zzN]:=jw d;obtain⟨n6,o2,n7,o3,n8,o4,n9,o5,o0,o6,o1,o7⟩:=J.c6;have F8:w.heap.size<C.heap.size:=J.lt;have f4:=zH J;clear J;have a6:=zH g;clear d g;clear s d3 d9 d4 e0 d5 e1 d6 e2 d7 e3 d8 e4;have w5:=zH f;clear f;clear q n;refine mV ?_;have b:=b3.o;rw[Xm,Ww (by simp[b4])]at b;rw[b];refine⟨none,0,rfl,av _,Row.WH,?_⟩;have y:=a6.o;exact BEL
   .have n:=nR (λ_=>True) Q (o::V) 1 (e.alloc (.cells #[uI 0,uI 0,uI 0,uI 0,jI 0,zzN] 115)) (e9.o.below (BEL)) oM dC
    rw[take_one]at n;have J5:=a8 o sM;have y2:dP V:=λw1 n5=>a8 w1 (by simp[n5]);(have K2:V.length<=100000:=by simp only[aY]at y4;omega);clear a8 y4;have a8:=y2;clear y2;have B7:=zH (Mr o);refine n.mono ?_;rintro X C ⟨B9,C2,rfl,q,f,d⟩;obtain⟨I0,I1,rfl,J3,B0⟩:=Bys.at_ q (aj _ _) (j:=0) sM;simp only[Nat.add_zero,List.getElem_cons_zero]at B0;have s:=f3.o;have g:bW w C:=by
     refine(a1.o.trans (show Below w.heap.size e (e.alloc (.cells #[uI 0,uI 0,uI 0,uI 0,jI 0,zzN] 115))from BEL)).trans (d.cZ ?_ ?_)
     .have z:=a1.o.size;first|omega|(simp;omega)
     .intro m i h;omega
    have J:Blk C (w.heap.size) 115 #[uI 0,uI 0,uI 0,uI 0,jI 0,zzN]:=jw d;have a3:Blk C (e.heap.size) 115 #[uI 0,uI 0,uI 0,uI 0,jI 0,zzN]:=jw d;obtain⟨n6,o2,n7,o3,n8,o4,n9,o5,o0,o6,o1,o7⟩:=J.c6;have F8:w.heap.size<C.heap.size:=J.lt;have f4:=zH J;clear J;obtain⟨y6,z2,y7,z3,y8,z4,y9,z5,z0,z6,z1,z7⟩:=a3.c6;have K6:e.heap.size<C.heap.size:=a3.lt;have f0:=zH a3;clear a3;have a6:=zH g;clear d g;clear s d3 d9 d4 e0 d5 e1 d6 e2 d7 e3 d8 e4;have w5:=zH f;clear f;clear q n e5;have nq:¬(w.heap.size=e.heap.size):=oM;have L5:¬(e.heap.size=w.heap.size):=oM;go_wp2_with fail;refine Yd (B7.o _) ?_;intro r rfl;cases d2:tF o with
    |false=>
     refine mV ?_;have b:=b3.o;rw[zl,Ww (by simp[b4]),aB (by simp[d2])]at b;rw[b];refine⟨none,0,rfl,av _,Row.WH,?_⟩;have y:=a6.o;exact BEL
    |true=>
     have b:=b3.o;rw[zl,Ww (by simp[b4]),Ww (by simp[d2])]at b;have e7:=zH b;clear b b3 B0;have b:=e7.o;unfold dDp at b;have k:=wG (λ_=>True) Q V (C.setCell ⟨e.heap.size,4,none⟩ (jI o)) (w5.o.far f0.o dC dC) oM a8;have i:=Yo a8;generalize eZ V=R at k i b;obtain⟨t,g1,B1⟩:=R;simp only at k i b;obtain⟨L7,L8,I2,I7,h0,J7,_⟩:=i;clear a8;by_cases c6:g1=0
     .have C3:(g1 !=0)=false:=by simp[c6]
      rw[Ww (by simp[c6])]at b;have b5:=zH b;clear b e7;go_wp2_with fail;refine Yd k ?_;rintro r ⟨f,d⟩;have J:=f4.o;have a3:=f0.o;have g:bW w r:=by
       refine(a6.o.trans (show Below w.heap.size C (C.setCell ⟨e.heap.size,4,none⟩ (jI o))from BEL)).trans (d.cZ ?_ ?_)
       .have z:=a6.o.size;first|omega|(simp;omega)
       .intro m i h;omega
      have K:Blk r (w.heap.size) 115 #[uI 0,uI 0,uI 0,uI 0,jI 0,zzN]:=jw d;have E:Blk r (e.heap.size) 115 #[uI 0,uI 0,uI 0,uI 0,jI o,zzN]:=jw d;obtain⟨o8,p4,o9,p5,p0,p6,p1,p7,p2,p8,p3,p9⟩:=K.c6;have F9:w.heap.size<r.heap.size:=K.lt;have f5:=zH K;clear K;obtain⟨h4,i0,h5,i1,h6,i2,h7,i3,h8,i4,h9,i5⟩:=E.c6;have D8:e.heap.size<r.heap.size:=E.lt;have c1:=zH E;clear E;have b0:=zH g;clear d g;clear J n6 o2 n7 o3 n8 o4 n9 o5 o0 o6 o1 o7 y6 z2 y7 z3 y8 z4 y9 z5 z0 z6 z1 z7 a3;have w6:=zH f;clear f;clear k;have b:=b5.o;unfold dDl at b;have k:=wG (λ_=>True) Q B1 (r.setCell ⟨e.heap.size,0,none⟩ (uI t)) (w6.o.far c1.o dC dC) oM h0;have i:=Yo h0;generalize eZ B1=R at k i b;obtain⟨B,g2,B2⟩:=R;simp only at k i b;obtain⟨L0,L1,I3,I8,h1,J8,_⟩:=i;clear h0;by_cases c7:g2=0
      .have C4:(g2 !=0)=false:=by simp[c7]
       rw[Ww (by simp[c7])]at b;have T:=zH b;clear b b5;go_wp2_with fail;refine Yd k ?_;rintro u ⟨f,d⟩;have K:=f5.o;have E:=c1.o;have g:bW w u:=by
        refine(b0.o.trans (show Below w.heap.size r (r.setCell ⟨e.heap.size,0,none⟩ (uI t))from BEL)).trans (d.cZ ?_ ?_)
        .have z:=b0.o.size;first|omega|(simp;omega)
        .intro m i h;omega
       have L:Blk u (w.heap.size) 115 #[uI 0,uI 0,uI 0,uI 0,jI 0,zzN]:=jw d;have F:Blk u (e.heap.size) 115 #[uI t,uI 0,uI 0,uI 0,jI o,zzN]:=jw d;obtain⟨q0,q6,q1,q7,q2,q8,q3,q9,q4,r0,q5,r1⟩:=L.c6;have G0:w.heap.size<u.heap.size:=L.lt;have f6:=zH L;clear L;obtain⟨i6,j2,i7,j3,i8,j4,i9,j5,j0,j6,j1,j7⟩:=F.c6;have D9:e.heap.size<u.heap.size:=F.lt;have c2:=zH F;clear F;have a7:=zH g;clear d g;clear K o8 p4 o9 p5 p0 p6 p1 p7 p2 p8 p3 p9 h4 i0 h5 i1 h6 i2 h7 i3 h8 i4 h9 i5 E;have w7:=zH f;clear f;clear k;by_cases x9:t<B
       .have D0:decide (t<B)=true:=sO
        have b:=T.o;rw[aB x9]at b;have T:=zH b;clear b;refine mV ?_;rw[T.o];refine⟨none,0,rfl,av _,Row.WH,?_⟩;have y:=a7.o;exact BEL
       .have D0:decide (t<B)=false:=sO
        have b:=T.o;rw[Ww x9]at b;have T:=zH b;clear b;have b:=T.o;unfold dDo at b;have k:=wG (λ_=>True) Q B2 (u.setCell ⟨e.heap.size,1,none⟩ (uI B)) (w7.o.far c2.o dC dC) oM h1;have i:=Yo h1;generalize eZ B2=R at k i b;obtain⟨P,g3,B3⟩:=R;simp only at k i b;obtain⟨L9,L6,I4,I9,h2,J9,_⟩:=i;clear h1;by_cases c8:g3=0
        .have C5:(g3 !=0)=false:=by simp[c8]
         rw[Ww (by simp[c8])]at b;have b6:=zH b;clear b T;go_wp2_with fail;refine Yd k ?_;rintro v ⟨f,d⟩;have L:=f6.o;have F:=c2.o;have g:bW w v:=by
          refine(a7.o.trans (show Below w.heap.size u (u.setCell ⟨e.heap.size,1,none⟩ (uI B))from BEL)).trans (d.cZ ?_ ?_)
          .have z:=a7.o.size;first|omega|(simp;omega)
          .intro m i h;omega
         have M:Blk v (w.heap.size) 115 #[uI 0,uI 0,uI 0,uI 0,jI 0,zzN]:=jw d;have G:Blk v (e.heap.size) 115 #[uI t,uI B,uI 0,uI 0,jI o,zzN]:=jw d;obtain⟨r2,r8,r3,r9,r4,s0,r5,s1,r6,s2,r7,s3⟩:=M.c6;have G1:w.heap.size<v.heap.size:=M.lt;have f7:=zH M;clear M;obtain⟨j8,k4,j9,k5,k0,k6,k1,k7,k2,k8,k3,k9⟩:=G.c6;have E0:e.heap.size<v.heap.size:=G.lt;have c3:=zH G;clear G;have b1:=zH g;clear d g;clear L q0 q6 q1 q7 q2 q8 q3 q9 q4 r0 q5 r1 i6 j2 i7 j3 i8 j4 i9 j5 j0 j6 j1 j7 F;have w8:=zH f;clear f;clear k;have b:=b6.o;unfold dDx at b;have k:=Ba (λ_=>True) Q B3 (v.setCell ⟨e.heap.size,2,none⟩ (uI P)) (w8.o.far c3.o dC dC) oM h2;have i:=sD h2;generalize jU B3=R at k i b;obtain⟨a9,g4,B4⟩:=R;simp only at k i b;obtain⟨L3,L4,I5,J0,h3,K0⟩:=i;clear h2;by_cases c9:g4=0
         .have C6:(g4 !=0)=false:=by simp[c9]
          rw[Ww (by simp[c9])]at b;have b7:=zH b;clear b b6;go_wp2_with fail;refine Yd k ?_;rintro x ⟨f,d⟩;have M:=f7.o;have G:=c3.o;have g:bW w x:=by
           refine(b1.o.trans (show Below w.heap.size v (v.setCell ⟨e.heap.size,2,none⟩ (uI P))from BEL)).trans (d.cZ ?_ ?_)
           .have z:=b1.o.size;first|omega|(simp;omega)
           .intro m i h;omega
          have N:Blk x (w.heap.size) 115 #[uI 0,uI 0,uI 0,uI 0,jI 0,zzN]:=jw d;have H:Blk x (e.heap.size) 115 #[uI t,uI B,uI P,uI 0,jI o,zzN]:=jw d;obtain⟨s4,t0,s5,t1,s6,t2,s7,t3,s8,t4,s9,t5⟩:=N.c6;have G2:w.heap.size<x.heap.size:=N.lt;have f8:=zH N;clear N;obtain⟨l0,l6,l1,l7,l2,l8,l3,l9,l4,m0,l5,m1⟩:=H.c6;have E1:e.heap.size<x.heap.size:=H.lt;have c4:=zH H;clear H;have b2:=zH g;clear d g;clear M r2 r8 r3 r9 r4 s0 r5 s1 r6 s2 r7 s3 j8 k4 j9 k5 k0 k6 k1 k7 k2 k8 k3 k9 G;have w9:=zH f;clear f;clear k;have b:=b7.o;unfold dDn at b;have k:=wG (λ_=>True) Q B4 (x.setCell ⟨e.heap.size,3,none⟩ (uI a9)) (w9.o.far c4.o dC dC) oM h3;have i:=Yo h3;generalize eZ B4=R at k i b;obtain⟨U,g5,B5⟩:=R;simp only at k i b;obtain⟨H7,L2,I6,J1,J6,K1,_⟩:=i;clear h3;by_cases d0:g5=0
          .have C7:(g5 !=0)=false:=by simp[d0]
           rw[Ww (by simp[d0])]at b;have A:=zH b;clear b b7;go_wp2_with fail;refine Yd k ?_;rintro p ⟨f,d⟩;have N:=f8.o;have H:=c4.o;have g:bW w p:=by
            refine(b2.o.trans (show Below w.heap.size x (x.setCell ⟨e.heap.size,3,none⟩ (uI a9))from BEL)).trans (d.cZ ?_ ?_)
            .have z:=b2.o.size;first|omega|(simp;omega)
            .intro m i h;omega
           have O:Blk p (w.heap.size) 115 #[uI 0,uI 0,uI 0,uI 0,jI 0,zzN]:=jw d;have I:Blk p (e.heap.size) 115 #[uI t,uI B,uI P,uI a9,jI o,zzN]:=jw d;obtain⟨t6,v2,t7,v3,t8,v4,t9,v5,v0,v6,v1,v7⟩:=O.c6;have G3:w.heap.size<p.heap.size:=O.lt;have f9:=zH O;clear O;obtain⟨m2,m8,m3,m9,m4,n0,m5,n1,m6,n2,m7,n3⟩:=I.c6;have E2:e.heap.size<p.heap.size:=I.lt;have f1:=zH I;clear I;have W:=zH g;clear d g;clear N s4 t0 s5 t1 s6 t2 s7 t3 s8 t4 s9 t5 l0 l6 l1 l7 l2 l8 l3 l9 l4 m0 l5 m1 H;have x0:=zH f;clear f;clear k;by_cases D1:U<1
           .have D2:decide (U<1)=true:=sO
            have b:=A.o;rw[aB (.inl D1)]at b;have A:=zH b;clear b;refine mV ?_;rw[A.o];refine⟨none,0,rfl,av _,Row.WH,?_⟩;have y:=W.o;exact BEL
           have D2:decide (U<1)=false:=sO;by_cases D3:1500<U
           .have D4:decide (1500<U)=true:=sO
            have b:=A.o;rw[aB (.inr (.inl D3))]at b;have A:=zH b;clear b;refine mV ?_;rw[A.o];refine⟨none,0,rfl,av _,Row.WH,?_⟩;have y:=W.o;exact BEL
           have D4:decide (1500<U)=false:=sO;have K8:0<=4611686018427387903 -U:=oM;by_cases D5:4611686018427387903 -U<P
           .have D6:decide (4611686018427387903 -U<P)=true:=sO
            have b:=A.o;rw[aB (.inr (.inr D5))]at b;have A:=zH b;clear b;refine mV ?_;rw[A.o];refine⟨none,0,rfl,av _,Row.WH,?_⟩;have y:=W.o;exact BEL
           have D6:decide (4611686018427387903 -U<P)=false:=sO;have b:=A.o;rw[Ww oM]at b;obtain⟨v8,rfl⟩:=bH H7;unfold dDt at b;rw[Int.toNat_natCast]at b;have K3:v8<=1500:=oM;have n:=yB (λ_=>True) Q B5 v8 p x0.o oM oM;generalize fQ v8 B5=R at n b;obtain⟨v9,g6,e6⟩:=R;simp only at n b;by_cases d1:g6=0
           .have C8:(g6 !=0)=false:=by simp[d1]
            rw[Ww (by simp[d1])]at b;have a2:=zH b;clear b A;go_wp2_with fail;refine n.mono ?_;rintro X D ⟨c5,g0,rfl,q,f,d,b9⟩;obtain⟨w2,w3⟩:=yx q b9;clear q b9;have O:=f9.o;have I:=f1.o;have g:bW w D:=by
             refine(W.o.trans (show Below w.heap.size p (p)from BEL)).trans (d.cZ ?_ ?_)
             .have z:=W.o.size;first|omega|(simp;omega)
             .intro m i h;omega
            have Z:Blk D (w.heap.size) 115 #[uI 0,uI 0,uI 0,uI 0,jI 0,zzN]:=jw d;have Y:Blk D (e.heap.size) 115 #[uI t,uI B,uI P,uI a9,jI o,zzN]:=jw d;obtain⟨G4,H0,G5,H1,G6,H2,G7,H3,G8,H4,G9,H5⟩:=Z.c6;have H6:w.heap.size<D.heap.size:=Z.lt;have B8:=zH Z;clear Z;obtain⟨E3,E9,E4,F0,E5,F1,E6,F2,E7,F3,E8,F4⟩:=Y.c6;have F5:e.heap.size<D.heap.size:=Y.lt;have x3:=zH Y;clear Y;have c0:=zH g;clear d g;clear O t6 v2 t7 v3 t8 v4 t9 v5 v0 v6 v1 v7 m2 m8 m3 m9 m4 n0 m5 n1 m6 n2 m7 n3 I;have x1:=zH f;clear f;clear n;have w4:=zH (Jd (λ_=>True) Q e6 (D.setCell ⟨e.heap.size,5,none⟩ (.slice c5 v9.length g0)) (x1.o.far x3.o dC dC));by_cases B6:0<e6.length
            .have H8:decide ((0:Int)<(e6.length:Int))=true:=sO
             have b:=a2.o;rw[aB B6]at b;have a2:=zH b;clear b;go_wp2_with fail;refine Yd w4.o ?_;intro M0 rfl;refine mV ?_;rw[a2.o];refine⟨none,0,rfl,av _,Row.WH,?_⟩;have y:=c0.o;exact BEL
            .have H8:decide ((0:Int)<(e6.length:Int))=false:=bJ oM
             have b:=a2.o;rw[Ww B6]at b;have a2:=zH b;clear b;go_wp2_with fail;refine Yg w4.o ?_;refine mV ?_;rw[a2.o];have y:=c0.o;have y1:=w2.o;refine⟨c5,g0,rfl,w3.o,?_,BEL⟩;have K7:Row _ (λm=>p.heap.size<=m/\m<D.heap.size) 5 1 c5 v9.length (v9.flatMap byV):=y1;refine aF (S:=λm=>p.heap.size<=m/\m<D.heap.size) ?_ (λm i=>?_)
             .repeat (refine Row.far_ ?_ (λm i h=>by have J2:p.heap.size<=m:=i.1;omega))
              exact y1
             .simp;omega
           .have C8:(g6 !=0)=true:=by simp[d1]
            rw[aB (by simp[d1])]at b;have a2:=zH b;clear b A;go_wp2_with fail;refine n.mono ?_;rintro X D ⟨c5,g0,rfl,q,f,d,b9⟩;obtain⟨w2,w3⟩:=yx q b9;clear q b9;have O:=f9.o;have I:=f1.o;have g:bW w D:=by
             refine(W.o.trans (show Below w.heap.size p (p)from BEL)).trans (d.cZ ?_ ?_)
             .have z:=W.o.size;first|omega|(simp;omega)
             .intro m i h;omega
            have Z:Blk D (w.heap.size) 115 #[uI 0,uI 0,uI 0,uI 0,jI 0,zzN]:=jw d;have Y:Blk D (e.heap.size) 115 #[uI t,uI B,uI P,uI a9,jI o,zzN]:=jw d;obtain⟨G4,H0,G5,H1,G6,H2,G7,H3,G8,H4,G9,H5⟩:=Z.c6;have H6:w.heap.size<D.heap.size:=Z.lt;have B8:=zH Z;clear Z;obtain⟨E3,E9,E4,F0,E5,F1,E6,F2,E7,F3,E8,F4⟩:=Y.c6;have F5:e.heap.size<D.heap.size:=Y.lt;have x3:=zH Y;clear Y;have c0:=zH g;clear d g;clear O t6 v2 t7 v3 t8 v4 t9 v5 v0 v6 v1 v7 m2 m8 m3 m9 m4 n0 m5 n1 m6 n2 m7 n3 I;have x1:=zH f;clear f;clear n;refine mV ?_;rw[a2.o];refine⟨none,0,rfl,av _,Row.WH,?_⟩;have y:=c0.o;exact BEL
          .have C7:(g5 !=0)=true:=by simp[d0]
           rw[aB (by simp[d0])]at b;have A:=zH b;clear b b7;go_wp2_with fail;refine Yd k ?_;rintro p ⟨f,d⟩;have N:=f8.o;have H:=c4.o;have g:bW w p:=by
            refine(b2.o.trans (show Below w.heap.size x (x.setCell ⟨e.heap.size,3,none⟩ (uI a9))from BEL)).trans (d.cZ ?_ ?_)
            .have z:=b2.o.size;first|omega|(simp;omega)
            .intro m i h;omega
           have O:Blk p (w.heap.size) 115 #[uI 0,uI 0,uI 0,uI 0,jI 0,zzN]:=jw d;have I:Blk p (e.heap.size) 115 #[uI t,uI B,uI P,uI a9,jI o,zzN]:=jw d;obtain⟨t6,v2,t7,v3,t8,v4,t9,v5,v0,v6,v1,v7⟩:=O.c6;have G3:w.heap.size<p.heap.size:=O.lt;have f9:=zH O;clear O;obtain⟨m2,m8,m3,m9,m4,n0,m5,n1,m6,n2,m7,n3⟩:=I.c6;have E2:e.heap.size<p.heap.size:=I.lt;have f1:=zH I;clear I;have W:=zH g;clear d g;clear N s4 t0 s5 t1 s6 t2 s7 t3 s8 t4 s9 t5 l0 l6 l1 l7 l2 l8 l3 l9 l4 m0 l5 m1 H;have x0:=zH f;clear f;clear k;refine mV ?_;rw[A.o];refine⟨none,0,rfl,av _,Row.WH,?_⟩;have y:=W.o;exact BEL
         .have C6:(g4 !=0)=true:=by simp[c9]
          rw[aB (by simp[c9])]at b;have b7:=zH b;clear b b6;go_wp2_with fail;refine Yd k ?_;rintro x ⟨f,d⟩;have M:=f7.o;have G:=c3.o;have g:bW w x:=by
           refine(b1.o.trans (show Below w.heap.size v (v.setCell ⟨e.heap.size,2,none⟩ (uI P))from BEL)).trans (d.cZ ?_ ?_)
           .have z:=b1.o.size;first|omega|(simp;omega)
           .intro m i h;omega
          have N:Blk x (w.heap.size) 115 #[uI 0,uI 0,uI 0,uI 0,jI 0,zzN]:=jw d;have H:Blk x (e.heap.size) 115 #[uI t,uI B,uI P,uI 0,jI o,zzN]:=jw d;obtain⟨s4,t0,s5,t1,s6,t2,s7,t3,s8,t4,s9,t5⟩:=N.c6;have G2:w.heap.size<x.heap.size:=N.lt;have f8:=zH N;clear N;obtain⟨l0,l6,l1,l7,l2,l8,l3,l9,l4,m0,l5,m1⟩:=H.c6;have E1:e.heap.size<x.heap.size:=H.lt;have c4:=zH H;clear H;have b2:=zH g;clear d g;clear M r2 r8 r3 r9 r4 s0 r5 s1 r6 s2 r7 s3 j8 k4 j9 k5 k0 k6 k1 k7 k2 k8 k3 k9 G;have w9:=zH f;clear f;clear k;refine mV ?_;rw[b7.o];refine⟨none,0,rfl,av _,Row.WH,?_⟩;have y:=b2.o;exact BEL
        .have C5:(g3 !=0)=true:=by simp[c8]
         rw[aB (by simp[c8])]at b;have b6:=zH b;clear b T;go_wp2_with fail;refine Yd k ?_;rintro v ⟨f,d⟩;have L:=f6.o;have F:=c2.o;have g:bW w v:=by
          refine(a7.o.trans (show Below w.heap.size u (u.setCell ⟨e.heap.size,1,none⟩ (uI B))from BEL)).trans (d.cZ ?_ ?_)
          .have z:=a7.o.size;first|omega|(simp;omega)
          .intro m i h;omega
         have M:Blk v (w.heap.size) 115 #[uI 0,uI 0,uI 0,uI 0,jI 0,zzN]:=jw d;have G:Blk v (e.heap.size) 115 #[uI t,uI B,uI 0,uI 0,jI o,zzN]:=jw d;obtain⟨r2,r8,r3,r9,r4,s0,r5,s1,r6,s2,r7,s3⟩:=M.c6;have G1:w.heap.size<v.heap.size:=M.lt;have f7:=zH M;clear M;obtain⟨j8,k4,j9,k5,k0,k6,k1,k7,k2,k8,k3,k9⟩:=G.c6;have E0:e.heap.size<v.heap.size:=G.lt;have c3:=zH G;clear G;have b1:=zH g;clear d g;clear L q0 q6 q1 q7 q2 q8 q3 q9 q4 r0 q5 r1 i6 j2 i7 j3 i8 j4 i9 j5 j0 j6 j1 j7 F;have w8:=zH f;clear f;clear k;refine mV ?_;rw[b6.o];refine⟨none,0,rfl,av _,Row.WH,?_⟩;have y:=b1.o;exact BEL
      .have C4:(g2 !=0)=true:=by simp[c7]
       rw[aB (by simp[c7])]at b;have T:=zH b;clear b b5;go_wp2_with fail;refine Yd k ?_;rintro u ⟨f,d⟩;have K:=f5.o;have E:=c1.o;have g:bW w u:=by
        refine(b0.o.trans (show Below w.heap.size r (r.setCell ⟨e.heap.size,0,none⟩ (uI t))from BEL)).trans (d.cZ ?_ ?_)
        .have z:=b0.o.size;first|omega|(simp;omega)
        .intro m i h;omega
       have L:Blk u (w.heap.size) 115 #[uI 0,uI 0,uI 0,uI 0,jI 0,zzN]:=jw d;have F:Blk u (e.heap.size) 115 #[uI t,uI 0,uI 0,uI 0,jI o,zzN]:=jw d;obtain⟨q0,q6,q1,q7,q2,q8,q3,q9,q4,r0,q5,r1⟩:=L.c6;have G0:w.heap.size<u.heap.size:=L.lt;have f6:=zH L;clear L;obtain⟨i6,j2,i7,j3,i8,j4,i9,j5,j0,j6,j1,j7⟩:=F.c6;have D9:e.heap.size<u.heap.size:=F.lt;have c2:=zH F;clear F;have a7:=zH g;clear d g;clear K o8 p4 o9 p5 p0 p6 p1 p7 p2 p8 p3 p9 h4 i0 h5 i1 h6 i2 h7 i3 h8 i4 h9 i5 E;have w7:=zH f;clear f;clear k;refine mV ?_;rw[T.o];refine⟨none,0,rfl,av _,Row.WH,?_⟩;have y:=a7.o;exact BEL
     .have C3:(g1 !=0)=true:=by simp[c6]
      rw[aB (by simp[c6])]at b;have b5:=zH b;clear b e7;go_wp2_with fail;refine Yd k ?_;rintro r ⟨f,d⟩;have J:=f4.o;have a3:=f0.o;have g:bW w r:=by
       refine(a6.o.trans (show Below w.heap.size C (C.setCell ⟨e.heap.size,4,none⟩ (jI o))from BEL)).trans (d.cZ ?_ ?_)
       .have z:=a6.o.size;first|omega|(simp;omega)
       .intro m i h;omega
      have K:Blk r (w.heap.size) 115 #[uI 0,uI 0,uI 0,uI 0,jI 0,zzN]:=jw d;have E:Blk r (e.heap.size) 115 #[uI 0,uI 0,uI 0,uI 0,jI o,zzN]:=jw d;obtain⟨o8,p4,o9,p5,p0,p6,p1,p7,p2,p8,p3,p9⟩:=K.c6;have F9:w.heap.size<r.heap.size:=K.lt;have f5:=zH K;clear K;obtain⟨h4,i0,h5,i1,h6,i2,h7,i3,h8,i4,h9,i5⟩:=E.c6;have D8:e.heap.size<r.heap.size:=E.lt;have c1:=zH E;clear E;have b0:=zH g;clear d g;clear J n6 o2 n7 o3 n8 o4 n9 o5 o0 o6 o1 o7 y6 z2 y7 z3 y8 z4 y9 z5 z0 z6 z1 z7 a3;have w6:=zH f;clear f;clear k;refine mV ?_;rw[b5.o];refine⟨none,0,rfl,av _,Row.WH,?_⟩;have y:=b0.o;exact BEL
  .have C9:(b8 !=1)=true:=by simp[b4]
   go_wp2_with fail;refine n.mono ?_;rintro X e ⟨x5,x7,rfl,q,f,d⟩;obtain⟨C0,C1,rfl,D7,e5⟩:=Bys.at_ q (aj _ _) (j:=0) sM;simp only[Nat.add_zero,List.getElem_cons_zero]at e5;have a4:=f2.o;have g:bW w e:=by
    refine(a5.o.trans (show Below w.heap.size a0 (a0)from BEL)).trans (d.cZ ?_ ?_)
    .have z:=a5.o.size;first|omega|(simp;omega)
    .intro m i h;omega
   have s:Blk e (w.heap.size) 115 #[uI 0,uI 0,uI 0,uI 0,jI 0,zzN]:=jw d;obtain⟨d3,d9,d4,e0,d5,e1,d6,e2,d7,e3,d8,e4⟩:=s.c6;have F7:w.heap.size<e.heap.size:=s.lt;have f3:=zH s;clear s;have a1:=zH g;clear d g;clear a4 z8 A4 z9 A5 A0 A6 A1 A7 A2 A8 A3 A9;have e9:=zH f;clear f;clear q n;refine mV ?_;have b:=b3.o;rw[Sr b4]at b;rw[b];refine⟨none,0,rfl,av _,Row.WH,?_⟩;have y:=a1.o;exact BEL
structure DOk (d:Da):Prop where
 pn0:0<=d.pn
 pn1:d.pn<=4611686018427387903
 zM:0<=d.bn
 Gt:d.bn<=d.pn
 vz:0<=d.off
 off1:d.off<=4611686018427387903 -d.body.length
 bX:Word d.bX
 CW:1<=d.body.length
 xE:d.body.length<=1500
 bok:dP d.body
 ecn:tF d.ecn=true
theorem DOk.may {d:Da} (h:DOk d):sS d=true:=by
 obtain⟨a,b,c,e,f,g⟩:=LX h.pn1 h.Gt h.ecn h.CW h.xE h.off1;simp only[sS,Bool.and_eq_true,decide_eq_true_eq];exact⟨⟨⟨⟨⟨a,b⟩,c⟩,e⟩,f⟩,g⟩
theorem dDt_ok {a bn d e f n:Int} {b:List Int} (hb:dP b) (q:0<=a) (r:a<=4611686018427387903) (m:0<=bn) (o:bn<=a) (p:0<=d) (t:d<=4611686018427387903 -n) (k:Word e) (n0:1<=n) (n1:n<=1500) (i:tF f=true)
  (h:(dDt a bn d e f n b).err=0):DOk (dDt a bn d e f n b).val:=by
 unfold dDt at h|-;split at h
 .next c=>exact Wy h c
 .next c=>
  rw[Ww c];split at h
  .cases h
  .next c2=>
   rw[Ww c2];have g:(fQ n.toNat b).val=b.take n.toNat/\n.toNat<=b.length:=by
    unfold fQ at c|-;split
    .next c3=>rw[aB c3]at c;exact Wy c sM
    .next c3=>exact⟨rfl,oM⟩
   (have j:(fQ n.toNat b).val.length=n.toNat:=by rw[g.1,aT];omega);exact⟨q,r,m,o,p,by simp only;rw[j];omega,k,by simp only;omega,by simp only;omega,by simp only;rw[g.1];exact λs l=>hb s (bf l),i⟩
theorem dDn_ok {a bn f d e:Int} {b:List Int} (hb:dP b) (m:0<=a) (n:a<=4611686018427387903) (j:0<=bn) (k:bn<=a) (l:0<=f) (i:Word d) (g:tF e=true)
  (h:(dDn a bn f d e b).err=0):DOk (dDn a bn f d e b).val:=by
 unfold dDn at h|-;split at h
 .next c=>exact Wy h c
 .next c=>
  rw[Ww c];split at h
  .cases h
  .next c2=>
   rw[Ww c2];exact dDt_ok (Yo hb).2.2.2.2.1 m n j k l oM i oM oM g h
theorem dDx_ok {a bn e d:Int} {b:List Int} (hb:dP b) (k:0<=a) (l:a<=4611686018427387903) (g:0<=bn) (i:bn<=a) (j:0<=e) (f:tF d=true)
  (h:(dDx a bn e d b).err=0):DOk (dDx a bn e d b).val:=by
 unfold dDx at h|-;split at h
 .next c=>exact Wy h c
 .next c=>rw[Ww c];exact dDn_ok (sD hb).2.2.2.2.1 k l g i j ⟨(sD hb).1,(sD hb).2.1⟩ f h
theorem dDo_ok {a bn d:Int} {b:List Int} (hb:dP b) (i:0<=a) (j:a<=4611686018427387903) (f:0<=bn) (g:bn<=a) (e:tF d=true)
  (h:(dDo a bn d b).err=0):DOk (dDo a bn d b).val:=by
 unfold dDo at h|-;split at h
 .next c=>exact Wy h c
 .next c=>rw[Ww c];exact dDx_ok (Yo hb).2.2.2.2.1 i j f g (Yo hb).1 e h
theorem dDl_ok {b:List Int} (hb:dP b) (d:0<=x) (e:x<=4611686018427387903) (a:tF y=true)
  (h:(dDl x y b).err=0):DOk (dDl x y b).val:=by
 unfold dDl at h|-;split at h
 .next c=>exact Wy h c
 .next c=>
  rw[Ww c];split at h
  .cases h
  .next c2=>rw[Ww c2];exact dDo_ok (Yo hb).2.2.2.2.1 d e (Yo hb).1 oM a h
theorem dDp_ok {b:List Int} (hb:dP b) (a:tF x=true) (h:(dDp x b).err=0):DOk (dDp x b).val:=by
 unfold dDp at h|-;split at h
 .next c=>exact Wy h c
 .next c=>rw[Ww c];exact dDl_ok (Yo hb).2.2.2.2.1 (Yo hb).1 (Yo hb).2.1 a h
theorem zm (hb:dP l) (h:(ky l).err=0):DOk (ky l).val:=by
 rcases l with _|⟨e,a⟩
 .rw[JM]at h;cases h
 .rcases a with _|⟨f,a⟩
  .rw[Xm]at h;split at h<;>cases h
  .rw[zl]at h|-
   split at h
   .cases h
   .next c=>
    rw[Ww c];split at h
    .cases h
    .next c2=>rw[Ww c2];exact dDp_ok (λd b=>hb d (by simp[b])) (by simpa using c2) h
theorem DOk.aO {d:Da} (h:DOk d):DOk {d with ecn:=3}:=⟨h.1,h.2,h.3,h.4,h.5,h.6,h.7,h.8,h.9,h.10,rfl⟩
theorem Qi (E:X4) (a:X5) (c:Nat) (l:List Int) (w:World) (h:Bys w E a l) (V:l.length<=100000) (K:dP l):
  Yk 100 #[.slice a l.length c] w λs k=>∃n r,s=.returned (.tuple #[.slice n ((qp l).getD []).length r,bV (qp l).isSome])/\Bys k (λg=>w.heap.size<=g/\g<k.heap.size) n ((qp l).getD [])/\bW w k:=by
 have m:=zH (yY E a c l w h V K);have b:=λh=>zm (l:=l) K h;have M:qp l=if(ky l).err≠0 then none else some (rY {(ky l).val with ecn:=3}):=rfl;rw[M];generalize ky l=X at m b|-;clear M h;obtain⟨T,F⟩:=X;simp only at b m|-;by_cases z:F=0
 .subst z
  rw[Ww sM];have u:=(b rfl).aO;clear b;obtain⟨j,e,i,d,Z,f⟩:=T;simp only at u m|-;have v:=zH (λ(D:X4) (n:X5) (r:Nat) (k:World) (U:zy k D n r ⟨j,e,i,d,3,f⟩)=>QA D n r ⟨j,e,i,d,3,f⟩ k U u.may);simp only at v;have P:=zH u;clear u;obtain⟨Q,A⟩:=eX (rY ⟨j,e,i,d,3,f⟩);(have G:(some (rY ⟨j,e,i,d,3,f⟩):Option (List Int)).getD []=Q:=by rw[A];rfl);have H:(some (rY ⟨j,e,i,d,3,f⟩):Option (List Int)).isSome=true:=rfl;rw[G,H];rw[<-A]at v;clear A G H;go_enter Tryz.func100,Tryz.ntmps100;go_wp2_with fail;refine(m.o).mono ?_;rintro s p ⟨x,y,rfl,L,t,o⟩;have b:=P.o;have O:=zH (show zy p (λg=>w.heap.size<=g/\g<p.heap.size) x y ⟨j,e,i,d,3,f⟩from
   ⟨t,L,⟨b.pn0,by have:=b.pn1;simp only at*;omega⟩,⟨b.zM,by have:=b.pn1;have:=b.Gt;simp only at*;omega⟩,⟨b.vz,by have:=b.off1;simp only at*;omega⟩,b.bX,by have:=b.xE;simp only at*;omega,b.bok⟩)
  have q:=zH o;clear o t b;go_wp2_with fail;refine(v.o _ x y _ (O.o.below (by have B:=aj p.heap.size p;exact BEL))).mono ?_;rintro s a2 ⟨R,S,rfl,a0,I,J⟩;obtain⟨C,N⟩:=yx J I;clear J I;go_wp2;go_ret2;have W:=q.o.size;have a1:=C.o.size;refine⟨R,S,rfl,aF N.o (λg b=>⟨by have:=b.1;simp at this;omega,b.2⟩),?_⟩;have B:=q.o;exact bD (show bW w _ from BEL) (C.o.mono sO)
 .have Y:(F !=0)=true:=by simp[z]
  rw[aB z];go_enter Tryz.func100,Tryz.ntmps100;go_wp2_with fail;refine(m.o).mono ?_;rintro s p ⟨x,y,rfl,L,t,o⟩;have q:=zH o;clear o t;go_wp2;go_ret2;exact⟨none,0,rfl,Row.WH,by have B:=q.o;have W:=B.size;exact BEL⟩
theorem MR (b:Int) (a:List Int):fQ 1 (b::a)=⟨[b],0,a⟩:=by unfold fQ;rw[Ww sM];rfl
theorem SI (S:X4) (a1:X5) (c1:Nat) (a2:X5) (c2:Nat) (k:Ak) (w:World) (h:nu w S a1 c1 a2 c2 k) (c:qA k=false):
  Yk 215 #[.agg #[.slice a1 k.cu.length c1,.slice a2 k.aO.length c2,uI k.dw,uI k.xor,bV k.kZ]] w λd a=>d=.returned (.tuple #[zzN,jI 1])/\bW w a:=by
 have b:=zH (λa (e:bW w a)=>wU S a1 c1 a2 c2 k a (h.below e));rw[c]at b;clear h c;obtain⟨l,j,n,o,m⟩:=k;simp only at*
 go_enter Tryz.func215,Tryz.ntmps215;go_wp2_with fail;refine Yd (b.o _ (BEL)) ?_;intro i f;have g:bW w i:=(show bW w _ from BEL).trans (f.mono sM);go_wp2;go_ret2;exact⟨rfl,g⟩
theorem OI (S:X4) (a1:X5) (c1:Nat) (a2:X5) (c2:Nat) (k:Ak) (w:World) (h:nu w S a1 c1 a2 c2 k) (f:Word k.dw) (g:Word k.xor):
  Yk 215 #[.agg #[.slice a1 k.cu.length c1,.slice a2 k.aO.length c2,uI k.dw,uI k.xor,bV k.kZ]] w λd a=>∃b c,d=.returned (.tuple #[.slice b (if qA k then zP k else[]).length c,jI (if qA k then 0 else 1)])/\(if qA k then zP k else[]).length<=c/\Bys a (λk=>w.heap.size<=k/\k<a.heap.size) b (if qA k then zP k else[])/\bW w a:=by
 cases hm:qA k with
 |true=>exact SH S a1 c1 a2 c2 k w h hm f g
 |false=>
  refine(SI S a1 c1 a2 c2 k w h hm).mono ?_;rintro d a ⟨rfl,e⟩;exact⟨none,0,rfl,av _,Row.WH,e⟩
theorem Gw (x:Iv):(itV x).length=2:=rfl
theorem oO:Elem prog 216 222 2 32 itV:=
 ⟨by kernel_rfl,by
  obtain⟨a,c,d,e,f⟩:=info_parts (show(prog.info? 222).map (λa=>(a.zero,a.size,a.bytes))=some (some (.agg #[uI 0,zzN]),2,32) by kernel_rfl);exact⟨a,_,c,d,e,f,rfl⟩,dC,λ_=>rfl,λi g b=>by simp[itV]at b;rcases b with rfl|rfl<;>rfl⟩
theorem Ivs.at_ {S:X4} {a:X5} {b:List Iv} (h:gW w S 222 2 a b.length c (b.flatMap itV)) {j:Nat} (g:j<b.length):
  ∃d e,a=some ⟨d,e,none⟩/\S d/\d<w.heap.size/\w.cell? ⟨d,e+j*2,none⟩=some (uI b[j].iat)/\w.cell? ⟨d,e+j*2+1,none⟩=some (.slice b[j].a b[j].b.length b[j].c):=by
 obtain⟨d,e,i,k,l,f⟩:=h.row.at_ oM;refine⟨d,e,i,k,l,f _ _ ?_,?_⟩
 .exact mr Gw b j 0 g oM
 .rw[Nat.add_assoc];exact f _ _ (mr Gw b j 1 g oM)
theorem RP {A B:List Value} {c0 c1 u v:Value} (b:A.length=n):((A++[c0,c1]++B).set n u).set (n+1) v=A++[u,v]++B:=by
 subst b
 induction A with
 |nil=>rfl
 |cons a A ih=>simp
theorem Mc (a:List Iv) (x z:Iv) (m:Nat) (c:m<=a.length):
  (((((a++[z]).take (m+1)++((a++[z]).drop m).take ((a++[z]).length -(m+1))).flatMap itV).set (m*2) (uI x.iat)).set (m*2+1) (.slice x.a x.b.length x.c))=(a.take m++x::a.drop m).flatMap itV:=by
 have d:((a++[z]).drop m).take ((a++[z]).length -(m+1))=a.drop m:=by
  rw[List.drop_append_of_le_length c,aU,bO,show a.length+1 -(m+1)=(a.drop m).length by rw[bI];omega];exact List.take_left
 have e:m<(a++[z]).length:=sO;obtain⟨b,f⟩:∃b,(a++[z]).take (m+1)=a.take m++[b]:=⟨(a++[z])[m],by rw[bB e,List.take_append_of_le_length c]⟩;rw[d,f];simp only[iE,List.flatMap_cons,List.flatMap_nil,List.append_nil];have:=RP (A:=(a.take m).flatMap itV) (B:=(a.drop m).flatMap itV) (c0:=uI b.iat) (c1:=.slice b.a b.b.length b.c) (u:=uI x.iat) (v:=.slice x.a x.b.length x.c) (n:=m*2) (by rw[sZ Gw,aT,fJ c]);simpa[itV]using this
def lyT:List (Option TypeId):=[some 218,some 222]
theorem qQ (k:Nat) (d:k<=1000000000) (S:X4) (p:Nat) (q:Pp) (x:Iv) (w:World) (h:rH w S p q) (j3:q.items.length<=2*k+1) (hb:Bys w S x.a x.b) (r:Word x.iat) (o8:∀f5∈q.items,Word f5.iat) (c8:Bd S w):
  Yk 101 #[pT p,.agg #[uI x.iat,.slice x.a x.b.length x.c]] w λd7 l0=>
   d7=.returned (.tuple #[])/\rH l0 (grow S w l0) p {q with items:=uD q.items x.it}/\Mod S lyT w l0:=by
 obtain⟨a7,a9,l4,i3,b,g1,m0,m1,l9,j9⟩:=h.ex;have f9:=h.mem;have o2:=g1.lt;obtain⟨f4,d5,m3⟩:=q;obtain⟨j,s,y,z⟩:=x;simp only at*
 obtain⟨m7,l2,f6,l1,l3⟩:=BF m1 m0 l9 hb j9;(have q7:b.length<=2*k+1:=by rw[j9,bR]at j3;exact j3);have k8:¬(p=w.heap.size):=oM;have f8:=g1.Wu 2;have m4:=zH g1;clear g1 m1 m0 l9 hb j9 h j3 o8;go_enter Tryz.func101,Tryz.ntmps101;go_wp2_with fail;generalize j1:w.alloc (.cells #[uI j,.slice y s.length z] 222)=c6;(have g0:bW w c6:=by rw[<-j1];exact BEL);(have g5:Blk c6 w.heap.size 222 #[uI j,.slice y s.length z]:=by rw[<-j1];exact Wx _ _ _);obtain⟨a8,l7⟩:=eX w.heap.size;rw[<-l7]at g5 k8|-;obtain⟨c7,h7⟩:=yx g0 g5;have k3:=g5.lt;have j6:Blk c6 p 218 #[.slice a7 f4.length a9,jI d5,.slice l4 b.length i3]:=m4.o.below g0 o2;have h3:=zH j6;have j7:=j6.lt;have g6:=zH (m7.o.below g0);have r3:w.heap.size<=a8:=oM;clear j1 g0 g5 f8 j6 l7;go_loopw [4] (λM wr=>∃(a:Nat),a<=b.length/\M=jI a/\X3 (∀f,a<=f->∀g3:f<b.length,j<b[f].iat)/\X3 (∃f2,wr=c6.drewN f2)) (λM _=>(intOf M).toNat);(case atStart=>exact⟨b.length,oM,rfl,(λf F G=>by omega),⟨0,rfl⟩⟩);case round=>
  obtain⟨a,q8,rfl,d0,f7⟩:=hrel;have a4:=zH (show bW c6 wr from by obtain⟨f2,d7⟩:=f7.o;rw[d7];exact aA (aj _ _) f2);have j2:=h7.o.below a4.o k3;have l8:=h3.o.below a4.o j7;obtain⟨l5,l6⟩:=j2.e2 0 1;have f8:=l8.Wu 2;clear j2 l8;rcases Nat.eq_zero_or_pos a with m2|m2
  .subst m2
   have b9:X3 (∀f,f+1=0->∀g3:f<b.length,¬j<b[f].iat):=zH (λf h=>by omega);go_wp2;refine mQ ?_;rintro _ ⟨nq,rfl⟩;have m5:=zH b9;have g4:0<=b.length:=oM;have g8:=zH (Qt ⟨j,s⟩ (b.map Iv.it) (0) sM (λf F G=>by rw[List.getElem_map];exact d0.o f F (by simpa using G)) (λf F G=>by rw[List.getElem_map];have:=b9.o f F (by simpa using G);show¬j<b[f].iat;omega));generalize e5:wr.drewN nq=v;have H:=zH (show bW c6 v by rw[<-e5];exact aA a4.o _);have U:=h3.o.below H.o j7;have b5:=h7.o.below H.o k3;have i2:=U.Wu 2;have o5:=U.lt;have p1:=b5.lt;obtain⟨h6,h9,g7⟩:=Av U b5 (g6.o.below H.o);have f1:w.heap.size<=v.heap.size:=ay c7.o.size H.o.size;have p4:¬(p=v.heap.size):=oM;clear e5 U b5 l5 l6 f8 b9 d0 a4 f7;go_wp2_with (at_builtin;refine oO.DC rfl (.tmp 32) (.tmp 34) rfl (l4) i3 b XG (g7.o.below (BEL)) (λk d=>by have:=c8 k d;simp;omega) (some ⟨v.heap.size,0,none⟩) 1 [(⟨0,[],none,0⟩:Iv)] XG (oO.single (⟨0,[],none,0⟩:Iv) (Wx v 222 _) rfl) sO dC sM ?_;intro g c E C Y;have I:=zH C;have a5:=zH Y;have R:=(h6.o.alloc (.cells #[uI 0,zzN] 222)).mod Y dC;obtain⟨i4,i5⟩:=R.cz 2;have a6:=zH R;have j8:=R.lt;have e6:=(h9.o.alloc (.cells #[uI 0,zzN] 222)).o Y (λh=>by have:=c8 _ h;omega);have d4:=zH e6;clear C Y R e6 i2);obtain⟨e,O⟩:=eX (b.length+1);rw[<-O];(have b3:(b++[(⟨0,[],none,0⟩:Iv)]).length=e:=by rw[O];simp);have C:=I.o;rw[b3]at C;replace I:=zH C;clear C;obtain⟨u,L⟩:=eX (E.setCell ⟨p,2,none⟩ (.slice g e c));rw[<-L];obtain⟨a2,c2⟩:=eX (v.alloc (.cells #[uI 0,zzN] 222));rw[<-c2]at a5 I;(have W:bW v a2:=by rw[c2];exact BEL);(have T:Blk u p 218 #[.slice a7 f4.length a9,jI d5,.slice g e c]:=by rw[L];exact a6.o.bF 2 _);have j5:∀d8,g=some ⟨d8,0,none⟩->True:=λ_ _=>trivial;(have b4:Blk u a8 222 #[uI j,.slice y s.length z]:=by rw[L];exact d4.o.far (Ne.symm k8) _);(have Z:Mod (λk=>k=p) [some 218] E u:=by rw[L];exact(aV (λk=>k=p) [some 218] E).setCell a6.o (λ_=>rfl) sM 2 _);have Q:gW u (grow S a2 E) 222 2 g e c ((b++[(⟨0,[],none,0⟩:Iv)]).flatMap itV):=I.o.keep (Z.aM (ts:=[some 222]) dC) sM;have e1:Mod S lyT w u:=(((aH ((c7.o.trans (H.o.mono c7.o.size)).trans (W.mono f1))).trans (a5.o.mono (λ_ _ h=>h) (by simp[lyT]))).then (Z.mono (λ_ _ h=>h) (by simp[lyT])) (λk _ h=>by subst h;exact f9));have c0:∀k,grow S a2 E k->grow S w u k:=λk d=>d.imp id (λh=>⟨ay (ay f1 W.size) h.1,aC h.2 Z.size⟩);obtain⟨A,N⟩:=eX (grow S a2 E);(have e4:∀k,S k->A k:=λk d=>by rw[N];exact .inl d);have e7:¬A a8:=by
    rw[N];rintro(h|h)
    .have:=c8 _ h;omega
    .have F:=h.1;have G:=W.size;omega
   rw[<-N]at Q c0;obtain⟨h4,h8,h2,h1,d1,m9⟩:=Fy T b4 Q e1 c0 e4;obtain⟨o3,o9,k9,n9⟩:=Hl T.lt b4.lt (T.Wu 2) Q.cap_;obtain⟨p2,c1,k4,c3,k5⟩:=info_parts (show(prog.info? 222).map (λM=>(M.zero,M.size,M.bytes))=some (some (.agg #[uI 0,zzN]),2,32) by kernel_rfl);have e8:∀w,(Instr.slice 216 (.slice g e c) (some (jI 1)) none none).run prog w=.ok (.slice (fE g c 1 2) (e -1) (c -1)) w:=λw=>by
    have h:=gI (P:=prog) oO.ht c1 g e c 1 oM w;rw[c3]at h;simpa using h
   have e9:∀w,(Instr.slice 216 (.slice g e c) (some (jI 0)) none none).run prog w=.ok (.slice (fE g c (0) 2) (e -(0)) (c -(0))) w:=λw=>by
    have h:=gI (P:=prog) oO.ht c1 g e c (0) oM w;rw[c3]at h;simpa using h
   obtain⟨n1,b6⟩:=eX (fE g c 1 2);obtain⟨n2,b7⟩:=eX (fE g c (0) 2);rw[<-b6]at e8;rw[<-b7]at e9;obtain⟨B,g9,i0,i1⟩:=Bq b3 O b6 b7;have i8:0<e:=oM;clear L c2 W T j5 b4 Z Q e1 c0 N e4 c1 k4 c3 k5 b3 O b6 b7 I a5 a6 d4 i4 i5 j8;refine bP 13 kR kR ?_;refine mB ?_;rintro _ ⟨c4,rfl⟩;refine dA rfl rfl ?_;refine oO.LH (.tmp 44) (.tmp 50) rfl g c (b++[(⟨0,[],none,0⟩:Iv)]) (0) (by rw[B.o];exact i8) (by rw[B.o,<-i0.o];simp[Act.eval]) (by rw[B.o,<-i1.o];simp[Act.eval]) (by rw[B.o];exact h2.o.below (BEL)) ?_;intro n a1 a0;rw[B.o]at a1;refine aK ?_;obtain⟨d3,d2⟩:=yx a1 a0;have J:=(h4.o.drewN c4).mod a0 dC;have K:=(h8.o.drewN c4).o a0 e7;obtain⟨h5,n0⟩:=yx J K;have e0:1<((((b++[(⟨0,[],none,0⟩:Iv)]).take (0+1)++((b++[(⟨0,[],none,0⟩:Iv)]).drop (0)).take (e -(0+1))).flatMap itV)).length:=by
    rw[a1.len];omega
   obtain⟨l,m,d6,hA4,b2,o,b8,f0⟩:=d3.o.bF (i:=0) oM;have q0:=J.Wu 2;obtain⟨p8,p9⟩:=K.e2 0 1;obtain⟨u0,o6⟩:∃c5,n.cell? ⟨l,m,none⟩=some c5:=⟨_,(cell_of_row n l _ d6 222 _ o).trans (b8 (0) _ (aL oM))⟩;obtain⟨u1,o7⟩:∃c5,n.cell? ⟨l,m+1,none⟩=some c5:=⟨_,(cell_of_row n l _ d6 222 _ o).trans (b8 (1) _ (aL oM))⟩;have n3:=o.frozen (m);have n4:=o.frozen (m+1);have f3:¬(p=l):=J.ne_ o dC;have p3:¬(a8=l):=λh=>e7 (h▸b2);have n7:0<(e:Int):=oM;have n8:(0:Int)<=0:=oM;subst hA4;obtain⟨m8,h0,c9⟩:=Av f0 e0 o;obtain⟨o4,p0,o0⟩:=FX J.lt K.lt o.lt;clear J K b8 f0 e0 o a1 a0 k9 e8 e9;go_wp2;refine bP 7 kR kR ?_;refine mB ?_;rintro _ ⟨D,rfl⟩;refine dA rfl rfl ?_;go_simp;refine aK ?_;refine mE ?_;obtain⟨t,V⟩:=eX (((n.drewN D).setCell ⟨l,m,none⟩ (uI j)).setCell ⟨l,m+1,none⟩ (.slice y s.length z));rw[<-V];have i9:gW t A 222 2 (some ⟨l,m,none⟩) e c ((b.take (0)++(⟨j,s,y,z⟩:Iv)::b.drop (0)).flatMap itV):=by
    rw[V,<-Mc b ⟨j,s,y,z⟩ (⟨0,[],none,0⟩:Iv) (0) g4,B.o];have i6:=d3.o.below (aA (aj n.heap.size n) D);have j4:=h0.o;obtain⟨n5,p6,_,hA5,_,_,_,k0⟩:=i6.bF (i:=0) oM;injection hA5 with hA5;injection hA5 with b0 b1;subst b0 b1;obtain⟨n6,p7,_,hA6,_,_,_,k2⟩:=(k0 (uI j)).bF (i:=1) (by rw[List.length_set];exact j4);injection hA6 with hA6;injection hA6 with b0 b1;subst b0 b1;exact k2 _
   (have e2:Mod A [some 222] n t:=by rw[V];exact(((aV A [some 222] n).drewN D).setCell (c9.o.drewN D) (λ_=>b2) sM _ _).setCell ((c9.o.drewN D).bF _ _) (λ_=>b2) sM _ _);have e3:Mod S lyT w t:=(h1.o.drewN c4).then ((d2.o.trans e2).mono (λ_ _ h=>h) (by simp[lyT])) (λk d h=>(d1.o k h).elim id (λh=>by have:=h.1;omega));(have j0:Blk t p 218 #[.slice a7 f4.length a9,jI d5,.slice (some ⟨l,m,none⟩) e c]:=by rw[V];exact((h5.o.drewN D).far f3 _).far f3 _);have k1:u.heap.size<=t.heap.size:=ay d2.o.size e2.size;have i7:∀k,A k->grow S w t k:=λk d=>(d1.o k d).imp id (λh=>⟨h.1,aC h.2 k1⟩);(have d9:(b.take (0)++(⟨j,s,y,z⟩:Iv)::b.drop (0)).length=e:=by rw[g9.o,aU,aY,aT,bI];omega);have X:bQ S [some 187,some 5] w t:=e3.aM (ts:=[some 187,some 5]) dC;refine⟨rfl,⟨⟨a7,a9,some ⟨l,m,none⟩,c,b.take (0)++(⟨j,s,y,z⟩:Iv)::b.drop (0),?_,?_,?_,?_,?_⟩,.inl f9⟩,e3⟩
   .rw[d9];exact j0
   .exact(l2.o.keep X sM).mono (λk d=>.inl d)
   .rw[d9];exact i9.mono i7
   .intro x r
    rcases WB.1 r with r|r
    .exact(aG (f6.o x (bf r)) X sM).mono (λk d=>.inl d)
    .rcases bT.1 r with rfl|r
     .exact(aG l1.o X sM).mono (λk d=>.inl d)
     .exact(aG (f6.o x (dW r)) X sM).mono (λk d=>.inl d)
   .show uD m3 _=_
    rw[l3.o,List.map_append,List.map_cons,List.map_take,List.map_drop];exact g8.o
  .obtain⟨a,rfl⟩:∃f,a=f+1:=⟨a -1,oM⟩
   have o1:a<b.length:=oM;obtain⟨d8,p5,rfl,q5,q6,k6,k7⟩:=Ivs.at_ (g6.o.below a4.o) o1;have r2:(0:Int)<((a+1:Nat):Int):=oM;have r0:((a+1:Nat):Int) -1=(a:Int):=oM;have r1:(a:Int)<(b.length:Int):=oM;have q9:(0:Int)<=(a:Int):=oM;by_cases a3:j<b[a].iat
   .have m6:X3 (∀f,a<=f->∀g3:f<b.length,j<b[f].iat):=zH (λf F G=>by
     rcases Nat.eq_or_lt_of_le F with h|h
     .subst h;exact a3
     .exact d0.o f h G)
    (have g2:=bM a3);generalize b[a]=f5 at*
    obtain⟨q2,q3,q1,q4⟩:=f5;simp only at k6 k7 g2 a3;clear a3;go_wp2;refine mQ ?_;rintro _ ⟨nq,rfl⟩;go_wp2;go_roundw;(case rel=>exact⟨a,oM,by go_num,m6,zH (by obtain⟨f2,d7⟩:=f7.o;exact⟨f2+nq,by rw[d7];simp[World.drewN,Nat.add_assoc]⟩)⟩);case measure=>simp[intOf]
   .have b9:X3 (∀f,f+1=a+1->∀g3:f<b.length,¬j<b[f].iat):=zH (λf h g3=>by
     obtain rfl:f=a:=oM;exact a3)
    (have g2:=bJ a3);generalize b[a]=f5 at*
    obtain⟨q2,q3,q1,q4⟩:=f5;simp only at k6 k7 g2 a3;clear a3;go_wp2;refine mQ ?_;rintro _ ⟨nq,rfl⟩;clear k6 k7 g2;have m5:=zH b9;have g4:a+1<=b.length:=oM;have g8:=zH (Qt ⟨j,s⟩ (b.map Iv.it) (a+1) (by simpa using g4) (λf F G=>by rw[List.getElem_map];exact d0.o f F (by simpa using G)) (λf F G=>by rw[List.getElem_map];have:=b9.o f F (by simpa using G);show¬j<b[f].iat;omega));generalize e5:wr.drewN nq=v;have H:=zH (show bW c6 v by rw[<-e5];exact aA a4.o _);have U:=h3.o.below H.o j7;have b5:=h7.o.below H.o k3;have i2:=U.Wu 2;have o5:=U.lt;have p1:=b5.lt;obtain⟨h6,h9,g7⟩:=Av U b5 (g6.o.below H.o);have f1:w.heap.size<=v.heap.size:=ay c7.o.size H.o.size;have p4:¬(p=v.heap.size):=oM;clear e5 U b5 l5 l6 f8 b9 d0 a4 f7;go_wp2_with (at_builtin;refine oO.DC rfl (.tmp 32) (.tmp 34) rfl ((some ⟨d8,p5,none⟩)) i3 b XG (g7.o.below (BEL)) (λk d=>by have:=c8 k d;simp;omega) (some ⟨v.heap.size,0,none⟩) 1 [(⟨0,[],none,0⟩:Iv)] XG (oO.single (⟨0,[],none,0⟩:Iv) (Wx v 222 _) rfl) sO dC sM ?_;intro g c E C Y;have I:=zH C;have a5:=zH Y;have R:=(h6.o.alloc (.cells #[uI 0,zzN] 222)).mod Y dC;obtain⟨i4,i5⟩:=R.cz 2;have a6:=zH R;have j8:=R.lt;have e6:=(h9.o.alloc (.cells #[uI 0,zzN] 222)).o Y (λh=>by have:=c8 _ h;omega);have d4:=zH e6;clear C Y R e6 i2);obtain⟨e,O⟩:=eX (b.length+1);rw[<-O];(have b3:(b++[(⟨0,[],none,0⟩:Iv)]).length=e:=by rw[O];simp);have C:=I.o;rw[b3]at C;replace I:=zH C;clear C;obtain⟨u,L⟩:=eX (E.setCell ⟨p,2,none⟩ (.slice g e c));rw[<-L];obtain⟨a2,c2⟩:=eX (v.alloc (.cells #[uI 0,zzN] 222));rw[<-c2]at a5 I;(have W:bW v a2:=by rw[c2];exact BEL);(have T:Blk u p 218 #[.slice a7 f4.length a9,jI d5,.slice g e c]:=by rw[L];exact a6.o.bF 2 _);have j5:∀d8,g=some ⟨d8,0,none⟩->True:=λ_ _=>trivial;(have b4:Blk u a8 222 #[uI j,.slice y s.length z]:=by rw[L];exact d4.o.far (Ne.symm k8) _);(have Z:Mod (λk=>k=p) [some 218] E u:=by rw[L];exact(aV (λk=>k=p) [some 218] E).setCell a6.o (λ_=>rfl) sM 2 _);have Q:gW u (grow S a2 E) 222 2 g e c ((b++[(⟨0,[],none,0⟩:Iv)]).flatMap itV):=I.o.keep (Z.aM (ts:=[some 222]) dC) sM;have e1:Mod S lyT w u:=(((aH ((c7.o.trans (H.o.mono c7.o.size)).trans (W.mono f1))).trans (a5.o.mono (λ_ _ h=>h) (by simp[lyT]))).then (Z.mono (λ_ _ h=>h) (by simp[lyT])) (λk _ h=>by subst h;exact f9));have c0:∀k,grow S a2 E k->grow S w u k:=λk d=>d.imp id (λh=>⟨ay (ay f1 W.size) h.1,aC h.2 Z.size⟩);obtain⟨A,N⟩:=eX (grow S a2 E);(have e4:∀k,S k->A k:=λk d=>by rw[N];exact .inl d);have e7:¬A a8:=by
     rw[N];rintro(h|h)
     .have:=c8 _ h;omega
     .have F:=h.1;have G:=W.size;omega
    rw[<-N]at Q c0;obtain⟨h4,h8,h2,h1,d1,m9⟩:=Fy T b4 Q e1 c0 e4;obtain⟨o3,o9,k9,n9⟩:=Hl T.lt b4.lt (T.Wu 2) Q.cap_;obtain⟨p2,c1,k4,c3,k5⟩:=info_parts (show(prog.info? 222).map (λM=>(M.zero,M.size,M.bytes))=some (some (.agg #[uI 0,zzN]),2,32) by kernel_rfl);have e8:∀w,(Instr.slice 216 (.slice g e c) (some (jI ((a:Int)+1+1))) none none).run prog w=.ok (.slice (fE g c (a+1+1) 2) (e -(a+1+1)) (c -(a+1+1))) w:=λw=>by
     have h:=gI (P:=prog) oO.ht c1 g e c (a+1+1) oM w;rw[c3]at h;simpa using h
    have e9:∀w,(Instr.slice 216 (.slice g e c) (some (jI ((a:Int)+1))) none none).run prog w=.ok (.slice (fE g c (a+1) 2) (e -(a+1)) (c -(a+1))) w:=λw=>by
     have h:=gI (P:=prog) oO.ht c1 g e c (a+1) oM w;rw[c3]at h;simpa using h
    obtain⟨n1,b6⟩:=eX (fE g c (a+1+1) 2);obtain⟨n2,b7⟩:=eX (fE g c (a+1) 2);rw[<-b6]at e8;rw[<-b7]at e9;obtain⟨B,g9,i0,i1⟩:=Bq b3 O b6 b7;have i8:a+1<e:=oM;clear L c2 W T j5 b4 Z Q e1 c0 N e4 c1 k4 c3 k5 b3 O b6 b7 I a5 a6 d4 i4 i5 j8;refine bP 13 kR kR ?_;refine mB ?_;rintro _ ⟨c4,rfl⟩;refine dA rfl rfl ?_;refine oO.LH (.tmp 44) (.tmp 50) rfl g c (b++[(⟨0,[],none,0⟩:Iv)]) (a+1) (by rw[B.o];exact i8) (by rw[B.o,<-i0.o];simp[Act.eval]) (by rw[B.o,<-i1.o];simp[Act.eval]) (by rw[B.o];exact h2.o.below (BEL)) ?_;intro n a1 a0;rw[B.o]at a1;refine aK ?_;obtain⟨d3,d2⟩:=yx a1 a0;have J:=(h4.o.drewN c4).mod a0 dC;have K:=(h8.o.drewN c4).o a0 e7;obtain⟨h5,n0⟩:=yx J K;have e0:(a+1)*2+1<((((b++[(⟨0,[],none,0⟩:Iv)]).take (a+1+1)++((b++[(⟨0,[],none,0⟩:Iv)]).drop (a+1)).take (e -(a+1+1))).flatMap itV)).length:=by
     rw[a1.len];omega
    obtain⟨l,m,d6,hA4,b2,o,b8,f0⟩:=d3.o.bF (i:=(a+1)*2) oM;have q0:=J.Wu 2;obtain⟨p8,p9⟩:=K.e2 0 1;obtain⟨u0,o6⟩:∃c5,n.cell? ⟨l,m+(a+1)*2,none⟩=some c5:=⟨_,(cell_of_row n l _ d6 222 _ o).trans (b8 ((a+1)*2) _ (aL oM))⟩;obtain⟨u1,o7⟩:∃c5,n.cell? ⟨l,m+(a+1)*2+1,none⟩=some c5:=⟨_,(cell_of_row n l _ d6 222 _ o).trans (b8 ((a+1)*2+1) _ (aL oM))⟩;have n3:=o.frozen (m+(a+1)*2);have n4:=o.frozen (m+(a+1)*2+1);have f3:¬(p=l):=J.ne_ o dC;have p3:¬(a8=l):=λh=>e7 (h▸b2);have n7:((a:Int)+1)<(e:Int):=oM;have n8:(0:Int)<=((a:Int)+1):=oM;subst hA4;obtain⟨m8,h0,c9⟩:=Av f0 e0 o;obtain⟨o4,p0,o0⟩:=FX J.lt K.lt o.lt;clear J K b8 f0 e0 o a1 a0 k9 e8 e9;go_wp2;refine bP 7 kR kR ?_;refine mB ?_;rintro _ ⟨D,rfl⟩;refine dA rfl rfl ?_;go_simp;refine aK ?_;refine mE ?_;obtain⟨t,V⟩:=eX (((n.drewN D).setCell ⟨l,m+(a+1)*2,none⟩ (uI j)).setCell ⟨l,m+(a+1)*2+1,none⟩ (.slice y s.length z));rw[<-V];have i9:gW t A 222 2 (some ⟨l,m,none⟩) e c ((b.take (a+1)++(⟨j,s,y,z⟩:Iv)::b.drop (a+1)).flatMap itV):=by
     rw[V,<-Mc b ⟨j,s,y,z⟩ (⟨0,[],none,0⟩:Iv) (a+1) g4,B.o];have i6:=d3.o.below (aA (aj n.heap.size n) D);have j4:=h0.o;obtain⟨n5,p6,_,hA5,_,_,_,k0⟩:=i6.bF (i:=(a+1)*2) oM;injection hA5 with hA5;injection hA5 with b0 b1;subst b0 b1;obtain⟨n6,p7,_,hA6,_,_,_,k2⟩:=(k0 (uI j)).bF (i:=(a+1)*2+1) (by rw[List.length_set];exact j4);injection hA6 with hA6;injection hA6 with b0 b1;subst b0 b1;exact k2 _
    (have e2:Mod A [some 222] n t:=by rw[V];exact(((aV A [some 222] n).drewN D).setCell (c9.o.drewN D) (λ_=>b2) sM _ _).setCell ((c9.o.drewN D).bF _ _) (λ_=>b2) sM _ _);have e3:Mod S lyT w t:=(h1.o.drewN c4).then ((d2.o.trans e2).mono (λ_ _ h=>h) (by simp[lyT])) (λk d h=>(d1.o k h).elim id (λh=>by have:=h.1;omega));(have j0:Blk t p 218 #[.slice a7 f4.length a9,jI d5,.slice (some ⟨l,m,none⟩) e c]:=by rw[V];exact((h5.o.drewN D).far f3 _).far f3 _);have k1:u.heap.size<=t.heap.size:=ay d2.o.size e2.size;have i7:∀k,A k->grow S w t k:=λk d=>(d1.o k d).imp id (λh=>⟨h.1,aC h.2 k1⟩);(have d9:(b.take (a+1)++(⟨j,s,y,z⟩:Iv)::b.drop (a+1)).length=e:=by rw[g9.o,aU,aY,aT,bI];omega);have X:bQ S [some 187,some 5] w t:=e3.aM (ts:=[some 187,some 5]) dC;refine⟨rfl,⟨⟨a7,a9,some ⟨l,m,none⟩,c,b.take (a+1)++(⟨j,s,y,z⟩:Iv)::b.drop (a+1),?_,?_,?_,?_,?_⟩,.inl f9⟩,e3⟩
    .rw[d9];exact j0
    .exact(l2.o.keep X sM).mono (λk d=>.inl d)
    .rw[d9];exact i9.mono i7
    .intro x r
     rcases WB.1 r with r|r
     .exact(aG (f6.o x (bf r)) X sM).mono (λk d=>.inl d)
     .rcases bT.1 r with rfl|r
      .exact(aG l1.o X sM).mono (λk d=>.inl d)
      .exact(aG (f6.o x (dW r)) X sM).mono (λk d=>.inl d)
    .show uD m3 _=_
     rw[l3.o,List.map_append,List.map_cons,List.map_take,List.map_drop];exact g8.o
theorem My:Elem prog 95 47 1 24 bvV:=
 ⟨by kernel_rfl,by
  obtain⟨a,c,d,e,f⟩:=info_parts (show(prog.info? 47).map (λa=>(a.zero,a.size,a.bytes))=some (some (zzN),1,24) by kernel_rfl);exact⟨a,_,c,d,e,f,rfl⟩,dC,λ_=>rfl,λi g b=>by simp[bvV]at b;rcases b with rfl;rfl⟩
def slLen:Value->Nat| .slice _ n _=>n|_=>0
structure CmAt (w wr:World) (S:X4) (p:Nat) (qF:List Fa) (count:Nat) (items:List It) (now:Int) (n:Nat) (A:X5) (c:Nat) (bv:List Bv) (af:X5) (cf:Nat) (ai:X5) (ci:Nat) (iv:List Iv):Prop where
 o:OwnAt wr (λk=>w.heap.size<=k) 47 1 A bv.length c (bv.flatMap bvV)
 by_:∀x∈bv,Bys wr (λk=>w.heap.size<=k) x.a x.b/\x.b.length<=x.c
 blk:Blk wr p 218 #[.slice af qF.length cf,jI count,.slice ai iv.length ci]
 off:gW wr S 222 2 ai iv.length ci (iv.flatMap itV)
 bys:∀x∈iv,Bys wr S x.a x.b
 come:bv.map (·.b)++iy now (iv.map Iv.it)=iy now items
 rest:iH now (iv.map Iv.it)=iH now items
 len:bv.length+iv.length=n
 md:Mod S [some 218] w wr
 ok:∀x∈iv,x.b.length<=100000
theorem BQ (k:Nat) (i:k<=1000000000) (S:X4) (p:Nat) (q:Pp) (now:Int) (w:World) (h:rH w S p q) (a0:q.items.length<=2*k+1) (c5:∀l∈q.items,Word l.iat/\l.b.length<=100000) (f4:Word now) (e8:Bd S w):
  Yk 84 #[pT p,uI now] w λd7 M=>∃b3 m,∃d:List Bv,
   d7=.returned (.slice b3 d.length m)/\d.map (·.b)=iy now q.items/\OwnAt M (λk=>w.heap.size<=k) 47 1 b3 d.length m (d.flatMap bvV)/\(∀c∈d,Bys M (λk=>w.heap.size<=k) c.a c.b/\c.b.length<=c.c)/\rH M S p {q with items:=iH now q.items}/\Mod S [some 218] w M:=by
 obtain⟨C,D,v,b,z,V,b5,b8,b4,G⟩:=h.ex;have U:=h.mem;have f5:=V.lt;obtain⟨a6,T,c8⟩:=q;simp only at*
 (have f2:z.length<=2*k+1:=by rw[G,bR]at a0;exact a0);have b1:=zH b5;have a8:CmAt w w S p a6 T c8 now z.length none 0 [] C D v b z:=
  ⟨OwnAt.WH,(λc e=>by cases e),V,b8,b4,by rw[G];rfl,by rw[G],sM,aV _ _ _,λc e=>(c5 (Iv.it c) (by rw[G];exact List.mem_map_of_mem e)).2⟩
 have a9:=zH a8;clear V b5 b8 b4 G h a0 c5 a8;go_enter Tryz.func84,Tryz.ntmps84;go_wp2;go_loopw [5] (λn wr=>∃s m,∃d:List Bv,∃v b,∃a5:List Iv,n=.slice s d.length m/\X3 (CmAt w wr S p a6 T c8 now z.length s m d C D v b a5)) (λn _=>z.length -slLen n);(case atStart=>exact⟨none,0,[],v,b,z,rfl,a9⟩);case round=>
  obtain⟨s,m,d,v,b,a5,rfl,g⟩:=hrel;have f3:=g.o.len;have W:=g.o.blk;obtain⟨e4,e7⟩:=W.cz 2;have e1:=W.lt;have c6:w.heap.size<=wr.heap.size:=g.o.md.size;clear W a9;cases a5 with
  |nil=>
   simp only[List.length_nil]at*
   go_wp2_with fail;refine mV ?_;have a:=g.o;refine⟨s,m,d,rfl,?_,a.o,a.by_,⟨⟨C,D,v,b,[],a.blk,?_,a.off,a.bys,?_⟩,U⟩,a.md⟩
   .have:=a.come;simpa[iy]using this
   .exact b1.o.keep (a.md.aM (ts:=[some 187]) dC) sM
   .have:=a.rest;simpa[iH]using this.symm
  |cons l t=>
   obtain⟨H,n,rfl,e9,f1,c9,d0⟩:=Ivs.at_ g.o.off (j:=0) sM;simp only[Nat.zero_mul,Nat.add_zero,List.getElem_cons_zero,aY]at*
   have c7:=g.o.ok l sM;have O:=zH (g.o.bys l sM);by_cases F:l.iat<=now
   .have K:=bM F
    obtain⟨o,f,A,B⟩:=l;simp only at c9 d0 c7 O F K;obtain⟨f8,b7,e2,L,e3⟩:=info_parts (show(prog.info? 222).map (λa4=>(a4.zero,a4.size,a4.bytes))=some (some (.agg #[uI 0,zzN]),2,32) by kernel_rfl);have hcut:∀w,(Instr.slice 216 (.slice (some ⟨H,n,none⟩) (t.length+1) b) (some (jI 1)) none none).run prog w=.ok (.slice (fE (some ⟨H,n,none⟩) b 1 2) t.length (b -1)) w:=λw=>by
     have h:=gI (P:=prog) oO.ht b7 (some ⟨H,n,none⟩) (t.length+1) b 1 oM w;rw[L]at h;simpa using h
    obtain⟨R,X⟩:=eX (fE (some (⟨H,n,none⟩:Addr)) b 1 2);rw[<-X]at hcut;have d3:=zH X;clear b7 e2 L e3 X F;have b0:X3 (o<=now):=zH (by simpa using K);go_wp2_with (at_builtin;first|(refine fe.wpList rfl _ (.tmp 32) rfl wr.heap.size none 0 [] (by rfl) (iq _ _ _ _) A B f XG O.o sO dC (av _) ?_;intro u y r c3 b6;have J:bW wr r:=(aj wr.heap.size wr).grown b6 (av _) XI;have d4:=zH c3;have N:=zH J;have f7:=J.size;clear c3 b6 J)|(refine My.jO (S:=λk=>w.heap.size<=k) rfl (.tmp 25) (.tmp 34) rfl s m d XG (g.o.o.below (show bW wr _ from(by have f0:=N.o;exact BEL))) (some ⟨r.heap.size,0,none⟩) 1 [⟨f,u,y⟩] XG (My.single ⟨f,u,y⟩ (Wx r 47 _) rfl) sO dC ?_;intro d2 d6 a7 c2 a1 e0;have I:=((g.o.blk.below N.o e1).alloc (.cells #[.slice u f.length y] 47)).mod a1 dC;obtain⟨e5,e6⟩:=I.cz 2;have b2:=zH I;have d5:=zH c2;have Q:=zH a1;have f6:=I.lt;clear c2 a1 e0 I));go_roundw;case rel=>
     refine⟨d2,d6,d++[⟨f,u,y⟩],R,b -1,t,sM,?_⟩;have a:=g.o;have J:=N.o;have E:bW wr (r.alloc (.cells #[.slice u f.length y] 47)):=BEL;have b9:=Q.o.aM (S':=λk=>w.heap.size<=k) (ts:=[some 5]) dC;have c1:=Q.o.aM (S':=S) (ts:=[some 5,some 222]) dC;obtain⟨d1,a3⟩:=eX (a7.setCell ⟨p,2,none⟩ (.slice R t.length (b -1)));rw[<-a3];(have a2:Mod (λk=>k=p) [some 218] a7 d1:=by rw[a3];exact(aV (λk=>k=p) [some 218] a7).setCell b2.o (λ_=>rfl) sM 2 _);(have d8:Blk d1 p 218 #[.slice C a6.length D,jI T,.slice R t.length (b -1)]:=by rw[a3];exact b2.o.bF 2 _);have Y:=OwnAt.fresh d4.o;rw[List.nil_append]at Y;have d9:bW r (r.alloc (.cells #[.slice u f.length y] 47)):=BEL;have Z:=a2.aM (S':=λk=>w.heap.size<=k) (ts:=[some 5,some 47]) dC;have c0:=a2.aM (S':=S) (ts:=[some 5,some 222]) dC;have L:=E.size;refine⟨?_,?_,d8,?_,?_,?_,?_,?_,?_,?_⟩
     .refine(d5.o.mono (λk i=>?_)).keep Z sM
      rcases i with i|i
      .exact i
      .exact ay (ay c6 L) i.1
     .intro c e
      rcases WB.1 e with e|e
      .have:=a.by_ c e
       exact⟨aG (aG (aD this.1 E) b9 sM) Z sM,this.2⟩
      .obtain rfl:c=_:=dZ.1 e
       refine⟨aG (aG ((aD Y.row d9).mono (λk i=>ay c6 i.1)) b9 sM) Z sM,Y.cap_⟩
     .have c4:=a.off.tail (k:=1) sM
      rw[<-d3.o]at c4;exact((c4.below E).keep c1 sM).keep c0 sM
     .intro c e
      exact aG (aG (aD (a.bys c (by simp[e])) E) c1 sM) c0 sM
     .have:=a.come
      rw[List.map_cons,Ou (x:=(⟨o,f,A,B⟩:Iv).it) b0.o]at this;rw[List.map_append,List.append_assoc];exact this
     .have:=a.rest
      rw[List.map_cons,Nj (x:=(⟨o,f,A,B⟩:Iv).it) b0.o]at this;exact this
     .simp;omega
     .exact(((a.md.trans (aH E)).nA Q.o (λk i=>i))).then (a2.mono (λ_ _ h=>h) sM) (λk _ h=>by subst h;exact U)
     .exact λc e=>a.ok c (by simp[e])
    case measure=>simp[intOf,slLen];omega
   .have K:=bJ F
    obtain⟨o,f,A,B⟩:=l;simp only at c9 d0 c7 O F K;go_wp2_with fail;refine mV ?_;have a:=g.o;refine⟨s,m,d,rfl,?_,a.o,a.by_,⟨⟨C,D,_,b,_,a.blk,?_,a.off,a.bys,?_⟩,U⟩,a.md⟩
    .have:=a.come;rw[List.map_cons,QW (x:=(⟨o,f,A,B⟩:Iv).it) (show¬o<=now by omega),List.append_nil]at this;exact this
    .exact b1.o.keep (a.md.aM (ts:=[some 187]) dC) sM
    .have:=a.rest;rw[List.map_cons,PE (x:=(⟨o,f,A,B⟩:Iv).it) (show¬o<=now by omega)]at this;exact this.symm
end Go.Proofs.YtiflndepmgnojaaGreat
