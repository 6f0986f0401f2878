import Derived.Test.YtiflndepmgnojaaGreatRnd
namespace Go.Proofs.YtiflndepmgnojaaGreat
open Go.RowKit Tryz
set_option linter.unusedSimpArgs false
set_option linter.unusedVariables false
set_option maxHeartbeats 8000000
set_option maxRecDepth 100000
variable {K:Act->World->Prop} {l:List Int} {p k:Nat} {w w':World} {x:Int} {t:TypeId}
attribute[local go_sem] BW.cell BW.frozen
theorem Jb (a:Ak) (s:Se) (t:List Se):xQ a (s::t)=if s.aS≠4/\s.used=false/\s.bX=a.dw/\oQ a.cu s.pn=true then some s.pn else xQ a t:=rfl
theorem IY {a:Ak} (h:qA a=true):1<=a.cu.length/\a.cu.length<=32/\a.aO.length<=32:=by
 simp only[qA,Bool.and_eq_true,decide_eq_true_eq]at h;exact⟨h.1.1.1.1,h.1.1.1.2,h.1.1.2⟩
def lookO (o:Option Int):Rlo:=match o with|some p=>⟨p,0⟩|none=>⟨0,3⟩
theorem Ql {l:Le} {k:Ak} (a:qA k=true) (b:¬(k.cu.getD 0 ⟨0,0⟩).lo<gT l):jW l k=lookO (xQ k l.kept):=by
 unfold jW;rw[a,Ww sM,Ww b];rfl
theorem Ch (S W:X4) (p:Nat) (l:Le) (a1:X5) (c1:Nat) (a2:X5) (c2:Nat) (k:Ak) (w:World) (h:iJ w S p l) (r:gM l) (x:nu w W a1 c1 a2 c2 k):
  Yk 112 #[pT p,.agg #[.slice a1 k.cu.length c1,.slice a2 k.aO.length c2,uI k.dw,uI k.xor,bV k.kZ]] w λc4 e=>
   c4=.returned (.tuple #[uI (jW l k).val,jI (jW l k).why])/\bW w e:=by
 obtain⟨t,U,T⟩:=Av (λe (a:bW w e)=>wU W a1 c1 a2 c2 k e (x.below a)) (λe (a:bW w e)=>qY S p l e (h.below a) r) (λe (a:bW w e)=>sU S p l e (h.below a) r);(have h8:l.kept.length<=1000:=by have:=r.len;have:=r.lW;omega);obtain⟨u,K⟩:=yx x.cu x.sok;have c6:=x.scap;cases hm:qA k with
 |false=>
  (have G:jW l k=⟨0,1⟩:=by unfold jW;rw[hm];rfl);rw[G];rw[hm]at t;clear G hm h r x U T u K;obtain⟨f,v,o,A,z⟩:=k;simp only at*
  go_enter Tryz.func112,Tryz.ntmps112;go_wp2_with fail;refine Yd (t.o _ (BEL)) ?_;intro i a;have c:bW w i:=pY a;have d:Blk i (w.heap.size) 92 #[.slice a1 f.length c1,.slice a2 v.length c2,uI o,uI A,bV z]:=iK a;obtain⟨a7,b2,a8,b3,a9,b4,b0,b5,b1,b6⟩:=d.c5;have c8:w.heap.size<i.heap.size:=d.lt;have L:=zH d;clear d;have m:=zH c;clear a c;go_wp2;go_ret2;exact⟨rfl,m.o⟩
 |true=>
  rw[hm]at t;obtain⟨c9,d0,d1⟩:=IY hm;have B:0<k.cu.length:=oM;have O:=u.o;(have N:k.cu.getD 0 ⟨0,0⟩=k.cu[0]:=by rw[aW,aL oM];rfl);by_cases s:(k.cu.getD 0 ⟨0,0⟩).lo<gT l
  .have G:jW l k=⟨0,2⟩:=by unfold jW;rw[hm,Ww sM,aB s]
   rw[G];rw[N]at s;clear G hm h r x T K O N;obtain⟨f,v,o,A,z⟩:=k;simp only at c9 d0 d1 B s c6 t u|-;go_enter Tryz.func112,Tryz.ntmps112;go_wp2_with fail;refine Yd (t.o _ (BEL)) ?_;intro i a;have c:bW w i:=pY a;have d:Blk i (w.heap.size) 92 #[.slice a1 f.length c1,.slice a2 v.length c2,uI o,uI A,bV z]:=iK a;obtain⟨a7,b2,a8,b3,a9,b4,b0,b5,b1,b6⟩:=d.c5;have c8:w.heap.size<i.heap.size:=d.lt;have L:=zH d;clear d;have m:=zH c;clear a c;obtain⟨c3,d2,rfl,c,C,D⟩:=Sps.at_ u.o m.o (j:=0) B;simp only[Nat.zero_mul,Nat.add_zero]at C D;(have e2:decide (f[0].lo<gT l)=true:=by simpa using s);have O:(0:Int)<(f.length:Int):=Int.ofNat_lt.2 B;go_wp2;refine bN kR kR ?_;(repeat (go_big_quiet_step (((go_at_call 70;exact dn (U.o _ (aA m.o _)))))));refine aK ?_;rintro _ ⟨nq,rfl⟩;go_wp2;go_ret2;exact⟨rfl,by have a:=m.o;exact BEL⟩
  .rw[Ql hm s]
   rw[N]at s;obtain⟨c0,a4⟩:=eX (xQ k l.kept);rw[<-a4];obtain⟨V,d7⟩:=yx a4 r.pnw_;clear a4 hm h r x O N;generalize l.kept=E at*
   have a3:=zH (λ(g1:Int) e (a:bW w e)=>yZ W a1 c1 k.cu g1 e (aD u.o a) oM K.o);obtain⟨f,v,o,A,z⟩:=k;simp only at c9 d0 d1 B s c6 t u V K a3|-;go_enter Tryz.func112,Tryz.ntmps112;go_wp2_with fail;refine Yd (t.o _ (BEL)) ?_;intro i a;have c:bW w i:=pY a;have d:Blk i (w.heap.size) 92 #[.slice a1 f.length c1,.slice a2 v.length c2,uI o,uI A,bV z]:=iK a;obtain⟨a7,b2,a8,b3,a9,b4,b0,b5,b1,b6⟩:=d.c5;have c8:w.heap.size<i.heap.size:=d.lt;have L:=zH d;clear d;have m:=zH c;clear a c;obtain⟨c3,d2,rfl,c,C,D⟩:=Sps.at_ u.o m.o (j:=0) B;simp only[Nat.zero_mul,Nat.add_zero]at C D;(have e2:decide (f[0].lo<gT l)=false:=by simpa using s);have O:(0:Int)<(f.length:Int):=Int.ofNat_lt.2 B;go_wp2;refine bN kR kR ?_;(repeat (go_big_quiet_step (((go_at_call 70;exact dn (U.o _ (aA m.o _)))))));refine aK ?_;rintro _ ⟨nq,rfl⟩;go_wp2_with fail;refine(T.o _ (by have a:=m.o;exact BEL)).mono ?_;rintro c4 I ⟨h0,h2,rfl,h6,c7,a5⟩;have d8:=zH c7;have d:=L.o;have e0:=m.o;have c:bW w I:=pY a5;have Q:Blk I (w.heap.size) 92 #[.slice (some ⟨c3,d2,none⟩) f.length c1,.slice a2 v.length c2,uI o,uI A,bV z]:=iK a5;obtain⟨e3,e8,e4,e9,e5,f0,e6,f1,e7,f2⟩:=Q.c5;have f3:w.heap.size<I.heap.size:=Q.lt;have d9:=zH Q;clear Q;have b8:=zH c;clear a5 c;clear c7 e0 d L a7 a8 a9 b0 b1 b2 b3 b4 b5 b6 C D e3 e4 e5 e6 e7 e8 e9 f0 f1 f2;go_wp2;go_loopw [26,7,28,29] (λb7 l1 k9 l0 wr=>∃(g:Nat),g<=E.length/\b7=jI g/\X3 (xQ ⟨f,v,o,A,z⟩ (E.drop g)=c0)/\X3 (bW I wr)) (λb7 _ _ _ _=>E.length -(intOf b7).toNat);(case atStart=>exact⟨0,oM,rfl,V.o.symm,aj _ _⟩);case round=>
    obtain⟨g,h7,rfl,b9,q⟩:=hrel;clear V;have j6:=q.o.size;have c5:=b8.o.trans (q.o.mono b8.o.size);have J:=zH c5;have M:=d9.o.below q.o f3;obtain⟨j9,k4,k0,k5,k1,k6,k2,k7,k3,k8⟩:=M.c5;have g8:=zH M;have j7:=M.lt;clear M c5;by_cases a6:g<E.length
    .obtain⟨h1,j8,rfl,h5,C,D,f4,f5,f6,f7,f8,f9⟩:=d8.o.at_ q.o a6
     have b:=b9.o;rw[aR a6,Jb]at b;have e1:=d7.o _ (aN a6);generalize E[g]=g3 at*
     obtain⟨R,g5,g0,Y,g4,g2,g6,X⟩:=g3;simp only at C D f4 f5 f6 f7 f8 f9 b e1;by_cases Z:X=4
     .subst Z
      rw[Ww (λh=>h.1 rfl)]at b;have n:=zH b;clear b;go_wp2;go_roundw;(case rel=>exact⟨g+1,oM,by go_num,n,zH (by have a:=q.o;exact BEL)⟩);case measure=>exact Yl
     (have h3:(X !=4)=true:=by simp[Z]);cases g6 with
     |true=>
      rw[Ww (λh=>by cases h.2.1)]at b;have n:=zH b;clear b;go_wp2;go_roundw;(case rel=>exact⟨g+1,oM,by go_num,n,zH (by have a:=q.o;exact BEL)⟩);case measure=>exact Yl
     |false=>
      by_cases a0:Y=o
      .subst a0
       cases d4:oQ f R with
       |false=>
        rw[Ww (λh=>by rw[d4]at h;cases h.2.2.2)]at b;obtain⟨n,F⟩:=yx b (a3.o R);rw[d4]at F;clear b;go_wp2_with fail;refine Yd (F.o _ (by have a:=J.o;exact BEL)) ?_;intro H y;have d3:=zH y;clear y;go_wp2;go_roundw;(case rel=>exact⟨g+1,oM,by go_num,n,zH (bD (show bW I _ from by have a:=q.o;exact BEL) (d3.o.mono sO))⟩);case measure=>exact Yl
       |true=>
        rw[aB ⟨Z,rfl,rfl,d4⟩]at b;obtain⟨n,F⟩:=yx b (a3.o R);rw[d4]at F;clear b;go_wp2_with fail;refine Yd (F.o _ (by have a:=J.o;exact BEL)) ?_;intro H y;have d5:=zH (show bW w H from bD (by have a:=J.o;exact BEL) (y.mono sO));have c:bW wr H:=pY y;have P:Blk H (wr.heap.size) 177 #[uI R,uI g5,uI g0,uI Y,uI g4,bV g2,bV false,jI X]:=iK y;obtain⟨h9,i7,i0,i8,i1,i9,i2,j0,i3,j1,i4,j2,i5,j3,i6,j4⟩:=P.c8;have j5:wr.heap.size<H.heap.size:=P.lt;have g9:=zH P;clear P;have g7:=zH c;clear y c;go_wp2;go_ret2;rw[<-n.o];exact⟨rfl,d5.o⟩
      .have h4:(Y==o)=false:=by simp[a0]
       rw[Ww (λh=>a0 h.2.2.1)]at b;have n:=zH b;clear b;go_wp2;go_roundw;(case rel=>exact⟨g+1,oM,by go_num,n,zH (by have a:=q.o;exact BEL)⟩);case measure=>exact Yl
    .obtain rfl:g=E.length:=oM
     have b:=b9.o;rw[List.drop_length]at b;have d6:X3 (c0=none):=zH b.symm;clear b;go_wp2;go_ret2;rw[d6.o];exact⟨rfl,J.o⟩
theorem wI {P:Program} {X:Prop} {ops:Array Oper} {o:Oper} {a:Act} {Q:X7}
  (y:o.guard=none) (l c:Operand) (t:TypeId) (B:o.op=Op.makeSlice t l c)
  (base:Nat) (e:TypeId) (i:TypeInfo) (z:Value) (size:Nat) (m:P.underlying t=some (.slice e)) (p:P.info? e=some i) (q:i.zero=some z) (r:i.size=size)
  (kl f:IntKind) (d C:Int) (n:Nat) (A:a.eval l=.int kl d) (x:a.eval c=.int f C) (v:d=(n:Int)) (s:C=(n:Int)) (g:i.bytes*n<=281474976710656) (j:n<=maxLen) (k:base<=w.heap.size)
  (u:∀b,b.ownsRow base e size (.slice (some ⟨w.heap.size,0,none⟩) n n) n (madeCells z.cells (n*size)).toList->w.grownBy b none->K (a.put o.dst (.slice (some ⟨w.heap.size,0,none⟩) n n)) b):
  if Region.wanted o (yielded ops a.tmps)=true then Oper.wp P o a w K Q else X:=by
 (have E:Region.wanted o (yielded ops a.tmps)=true:=by simp[Region.wanted,y]);rw[aB E];obtain⟨b,D,F,G⟩:=run_make_full (P:=P) w base t e i z size m p q r kl f n g j k;subst v;subst s;unfold Oper.wp;simp[execOp,B,A,x,D,Result.andThen];exact u b F G
def fil {a:Type} (z:a) (P:List a) (j:Nat):List a:=P.take j++List.replicate (P.length -j) z
theorem AR {a:Type} (z:a) (P:List a) (j:Nat) (b:j<=P.length):(fil z P j).length=P.length:=by simp[fil];omega
theorem zf {a:Type} (z:a) (P:List a):fil z P 0=List.replicate P.length z:=by simp[fil]
theorem Ml {a:Type} (z:a) (P:List a):fil z P P.length=P:=by simp[fil]
theorem Mk {a:Type} (z:a) (P:List a) (j:Nat) (b:j<P.length):(fil z P j).set j P[j]=fil z P (j+1):=by
 unfold fil;(have c:(P.take j).length=j:=by rw[aT];omega);rw[List.set_append_right _ _ oM,c,Nat.sub_self,show P.length -j=(P.length -(j+1))+1 by omega,List.replicate_succ,List.set_cons_zero,bB b,List.append_assoc];rfl
theorem zR (m:List Sp) (l:List Se):(oo m l).length=l.length:=by simp[oo]
def FN (w:World):Nat->Prop:=λa=>w.heap.size<=a
theorem OM (h:rG l):rG (kI l):=λb a=>by
 rcases bT.1 a with rfl|a
 .exact⟨dC,dC⟩
 .exact Fq l 0 ⟨dC,dC⟩ h b a
theorem Kk (a next:Int) (b:List Se) (p:List Int) (q:List Bool) (c:Sp) (t:List Sp) (x:Int) (o:Bool):DR a next b p q (c::t) x o=
 if c.lo<a\/next<=c.hi then⟨0,false,false⟩else
 if((b.take ((c.hi -a).toNat+1)).drop (c.lo -a).toNat).any (λd=>d.aS==4)then⟨0,false,false⟩else
 DR a next b p q t (WN x (WN (p.getD ((c.hi -a).toNat+1) 0) (p.getD (c.lo -a).toNat 0))) (o !=((q.getD ((c.hi -a).toNat+1) false)!=(q.getD (c.lo -a).toNat false))):=rfl
theorem Jr {a:Type} {l:List a} {i:Nat} {d:a} (h:i<l.length):l.getD i d=l[i]:=by rw[aW,aL h];rfl
theorem DN {F:X4} {d e n j:Nat} {b:List Bool} {c:Bool} (I:d≠e) (A:j<l.length) (z:j<b.length)
  (u:OwnAt w F 30 1 (some ⟨d,0,none⟩) n n ((fil 0 l j).flatMap woV)) (r:OwnAt w F 4 1 (some ⟨e,0,none⟩) n n ((fil false b j).flatMap boV))
  (m:(fil 0 l j).set j x=fil 0 l (j+1)) (o:(fil false b j).set j c=fil false b (j+1)):
  OwnAt ((w.setCell ⟨d,j,none⟩ (uI x)).setCell ⟨e,j,none⟩ (bV c)) F 30 1 (some ⟨d,0,none⟩) n n ((fil 0 l (j+1)).flatMap woV)/\
  OwnAt ((w.setCell ⟨d,j,none⟩ (uI x)).setCell ⟨e,j,none⟩ (bV c)) F 4 1 (some ⟨e,0,none⟩) n n ((fil false b (j+1)).flatMap boV)/\
  Mod F [some 30,some 4] w ((w.setCell ⟨d,j,none⟩ (uI x)).setCell ⟨e,j,none⟩ (bV c)):=by
 have E:(fil 0 l j).length=l.length:=AR _ _ _ oM;have D:(fil false b j).length=b.length:=AR _ _ _ oM;obtain⟨_,H,a,y,q,_,C⟩:=u.bF (i:=j) (by rw[oD,bR,E];exact A);injection a with a;injection a with a;subst a;have s:OwnAt (w.setCell ⟨d,j,none⟩ (uI x)) F 4 1 (some ⟨e,0,none⟩) n n ((fil false b j).flatMap boV):=r.far (λk a=>by injection a with a;injection a with a;omega);obtain⟨_,G,a,v,p,_,B⟩:=s.bF (i:=j) (by rw[oW,bR,D];exact z);injection a with a;injection a with a;subst a;have f:=C (uI x);rw[oD,<-List.map_set,m,<-oD]at f;have g:=B (bV c);rw[oW,<-List.map_set,o,<-oW]at g;refine⟨f.far (λk a=>by injection a with a;injection a with a;omega),g,?_⟩;exact((aV F [some 30,some 4] w).setCell (t:=30) q (λ_=>y) sM j _).setCell (t:=4) p (λ_=>v) sM j _
theorem FU {P:Program} {Q:X7} {a:Act} {l:List Oper} (F:Nat->Nat->Act) (C:Nat->Nat->World->Prop) (e:∀b c d,C b c d->Q .normal (F b c) d) (h:(∀b c d,C b c d->Q .normal (F b c) d)->(Code.region p l.toArray true).wp P Q a w):(Code.region p l.toArray true).wp P Q a w:=h e
theorem RJ (S q2 k2:X4) (p:Nat) (l:Le) (a1:X5) (c1:Nat) (u:List Sp) (a2:X5) (c2:Nat) (d:List Sp) (w:World) (h:iJ w S p l) (K:gM l)
  (h7:Sps w q2 a1 u) (C9:u.length<=c1) (D8:u.length<=1000) (m5:∀E∈u,SpW E) (k6:Sps w k2 a2 d) (D0:d.length<=c2) (D9:d.length<=1000) (m6:∀E∈d,SpW E):
  Yk 186 #[pT p,.slice a1 u.length c1,.slice a2 d.length c2] w λc0 f=>c0=.returned (.tuple #[uI (Bn l u d).val,bV (Bn l u d).odd,bV (Bn l u d).ok])/\bW w f:=by
 obtain⟨e6,l6⟩:=eX (Bn l u d);rw[<-l6];obtain⟨d0,e4,o9,Z,p2,w3⟩:=Fy (qw q2 a1 c1 u w h7 oM m5) (λf (c:bW w f)=>qw k2 a2 c2 d f (aD k6 c) oM m6) (λf (c:bW w f)=>qY S p l f (h.below c) K) (λf (c:bW w f)=>sU S p l f (h.below c) K) (λf (c:bW w f)=>pK S p l f (h.below c)) (λ(A3:Int) f (c:bW w f)=>yZ k2 a2 c2 d A3 f (aD k6 c) oM m6);obtain⟨w9,w5,d3⟩:=Av h7 m5 l6;clear l6 h7 k6 m5 m6;cases hg1:iR u with
 |false=>
  rw[hg1]at d0;have k1:X3 (e6=⟨0,false,false⟩):=zH (by rw[d3.o];unfold Bn;rw[hg1];rfl);clear hg1 d3 h K;go_enter Tryz.func186,Tryz.ntmps186;go_wp2_with fail;refine Yd d0.o ?_;intro v8 c;have V:=zH c;clear c;go_wp2_with fail;refine mV ?_;rw[k1.o];exact⟨rfl,V.o⟩
 |true=>
  rw[hg1]at d0;cases hg2:iR d with
  |false=>
   rw[hg2]at e4;have k1:X3 (e6=⟨0,false,false⟩):=zH (by rw[d3.o];unfold Bn;rw[hg1,hg2];rfl);clear hg1 hg2 d3 h K;go_enter Tryz.func186,Tryz.ntmps186;go_wp2_with fail;refine Yd d0.o ?_;intro v8 c;have V:=zH c;clear c;go_wp2_with fail;refine Yd (e4.o _ V.o) ?_;intro n8 c;have e3:=zH (V.o.trans (c.mono V.o.size));clear c;go_wp2_with fail;refine mV ?_;rw[k1.o];exact⟨rfl,e3.o⟩
  |true=>
   rw[hg2]at e4;have d2:X3 (DR (gT l) l.next l.kept (kI (l.kept.map (·.bX))) (kW (oo d l.kept)) u 0 false=e6):=zH (by rw[d3.o];unfold Bn;rw[hg1,hg2];rfl);have w2:=zH (GA hg1);(have D5:l.kept.length<=256:=by have:=K.len;have:=K.lW;omega);obtain⟨w4,C1⟩:=yx K.ok K.pnw_;have D6:=K.ut;have D7:=K.KN;(have E0:l.next<=4611686018427387904:=by have:=K.nI;have:=K.mh;omega);clear hg1 hg2 d3 h K;generalize gT l=s at*
   obtain⟨E8,C5,next,a⟩:=l;simp only at*
   go_enter Tryz.func186,Tryz.ntmps186;go_wp2_with fail;refine Yd d0.o ?_;intro v8 c;have V:=zH c;clear c;go_wp2_with fail;refine Yd (e4.o _ V.o) ?_;intro n8 c;have e3:=zH (V.o.trans (c.mono V.o.size));clear c V;go_wp2_with fail;refine Yd (o9.o _ e3.o) ?_;rintro F3 ⟨n5,rfl⟩;have g4:=zH (aA e3.o n5);go_wp2_with fail;refine(Z.o _ g4.o).mono ?_;rintro c0 D ⟨x6,C4,rfl,z0,s6,c⟩;obtain⟨W,p5⟩:=yx (g4.o.trans (c.mono g4.o.size)) s6;clear c g4 e3 s6 d0 e4 o9 Z;go_wp2_with fail;refine' FU (F:=_) (λx z N=>x≠z/\X3 (OwnAt N (FN w) 30 1 (some ⟨x,0,none⟩) a.length a.length ((fil 0 (a.map (·.bX)) 0).flatMap woV))/\X3 (OwnAt N (FN w) 4 1 (some ⟨z,0,none⟩) a.length a.length ((fil false (oo d a) 0).flatMap boV))/\(∃g3,X3 (Ses N g3 x6 a))/\X3 (bW w N)) ?tl (λq3=>?mn);case mn=>
    obtain⟨t6,s0,t3,t4,t5⟩:=info_parts Fv;obtain⟨t7,s1,t0,t1,t2⟩:=info_parts Mx;refine wp_region_any kR ?_;(try (change wpAny _ _ _ _ _ _ _ (World.drew _)));refine wpAny_take (i:=0) (v:=?_) rfl kR kR kR (λ_ _ _ h=>h) (Or.inl ⟨by rfl,?_⟩) ?_;rotate_left
    (.exact λw=>gS);refine wpAny_take (i:=1) (v:=?_) rfl kR kR kR (λ_ _ _ h=>h) (Or.inl ⟨by rfl,?_⟩) ?_;rotate_left
    (.exact λw=>gS);refine wpAny_take (i:=3) (v:=?_) rfl kR kR kR (λ_ _ _ h=>h) (Or.inl ⟨by rfl,?_⟩) ?_;rotate_left
    (.exact λw=>gS);refine wpAny_take (i:=4) (v:=?_) rfl kR kR kR (λ_ _ _ h=>h) (Or.inl ⟨by rfl,?_⟩) ?_;rotate_left
    (.exact λw=>gS);(try simp only[Act.put,Array.setIfInBounds]);(try go_simp);refine wpAny_ready (rs:=[2,5]) kR sM ?_;refine AllReady.cons (o:={dst:=some 47,op:=Op.makeSlice 23 (Operand.tmp 46) (Operand.tmp 46),type:=23,pos:= "proof.go:18",after:= #[{on:=1,ground:=Ground.data},{on:=1,ground:=Ground.data}],guard:=none}) rfl (λb7 T=>?_) ?_
    .refine wI rfl (.tmp 46) (.tmp 46) 23 rfl w.heap.size 30 t6 (uI 0) 1 Tryz.underlying23 s0 t3 t4 .i64 .i64 (a.length:Int) (a.length:Int) a.length XG XG rfl rfl (by rw[t5];omega) (by simp only[maxLen];omega) (by have k8:=W.o.size;simp;omega) ?_
     intro a4 f5 f3;have f1:=(aj _ _).grown f3 (av _) (λk5 t=>by cases t);obtain⟨Z,a7⟩:=yx f5 f1;clear f5 f3 f1;(try go_simp);refine T _ _ ?_;clear T b7;refine wpAny_take (i:=6) (v:=?_) rfl kR kR kR (λ_ _ _ h=>h) (Or.inl ⟨by rfl,?_⟩) ?_;rotate_left
     (.exact λw=>gS);(try simp only[Act.put,Array.setIfInBounds]);(try go_simp);refine wpAny_ready (rs:=[5]) kR sM ?_;refine AllReady.cons (o:={dst:=some 50,op:=Op.makeSlice 341 (Operand.tmp 49) (Operand.tmp 49),type:=341,pos:= "proof.go:18",after:= #[{on:=4,ground:=Ground.data},{on:=4,ground:=Ground.data}],guard:=none}) rfl (λb7 T=>?_) ?_
     .refine wI rfl (.tmp 49) (.tmp 49) 341 rfl w.heap.size 4 t7 (bV false) 1 Tryz.underlying341 s1 t0 t1 .i64 .i64 (a.length:Int) (a.length:Int) a.length XG XG rfl rfl (by rw[t2];omega) (by simp only[maxLen];omega) (by have k8:=W.o.size;have k7:=a7.o.size;simp at k7;simp;omega) ?_
      intro a5 f6 f4;have f2:=(aj _ _).grown f4 (av _) (λk5 t=>by cases t);obtain⟨L,I⟩:=yx f6 f2;clear f6 f4 f2;(try go_simp);refine T _ _ ?_;clear T b7;refine wpAny_take (i:=7) (v:=?_) rfl kR kR kR (λ_ _ _ h=>h) (Or.inl ⟨by rfl,?_⟩) ?_;rotate_left
      (.exact λw=>gS);(try simp only[Act.put,Array.setIfInBounds]);(try go_simp);refine wpAny_done kR ?_ _;have B:OwnAt a5 (FN w) 30 1 (some ⟨D.heap.size,0,none⟩) a.length a.length _:=((OwnAt.fresh Z.o).below I.o).mono (λn Y=>Y.1);have A:OwnAt a5 (FN w) 4 1 (some ⟨a4.heap.size,0,none⟩) a.length a.length _:=(OwnAt.fresh L.o).mono (λn Y=>Y.1);have C:=a7.o.trans (I.o.mono a7.o.size);have m4:D.heap.size<a4.heap.size:=(OwnAt.fresh Z.o).lt _ rfl;have c:=(W.o.trans ((bA (aj D.heap.size D)).mono W.o.size)).trans (C.mono W.o.size);have J:=p5.o.below (show bW D a5 from(bA (aj D.heap.size D)).trans (C.mono (av _)));have X:D.heap.size≠a4.heap.size:=oM;clear Z a7 L I C m4;generalize D.heap.size=x at B A c J X|-;generalize a4.heap.size=z at B A c J X|-;generalize a5=N at B A c J|-;generalize l2:(λn=>(n8.drewN n5).heap.size<=n/\n<_)=g3 at J;clear l2;rw[pJ (uI 0) rfl]at B;rw[pJ (bV false) rfl]at A;have P:=zR d a;(have f0:OwnAt N (FN w) 30 1 (some ⟨x,0,none⟩) a.length a.length ((fil 0 (a.map (·.bX)) 0).flatMap woV):=by rw[zf,oD,List.map_replicate,bR];exact B);(have e9:OwnAt N (FN w) 4 1 (some ⟨z,0,none⟩) a.length a.length ((fil false (oo d a) 0).flatMap boV):=by rw[zf,oW,List.map_replicate,P];exact A);obtain⟨d1,c9,b5,R⟩:=Bq f0 e9 J c;clear B A f0 e9 J c;exact q3 _ _ _ ⟨X,d1,c9,⟨_,b5⟩,R⟩
     .exact AllReady.nil
    refine AllReady.cons (o:={dst:=some 50,op:=Op.makeSlice 341 (Operand.tmp 49) (Operand.tmp 49),type:=341,pos:= "proof.go:18",after:= #[{on:=4,ground:=Ground.data},{on:=4,ground:=Ground.data}],guard:=none}) rfl (λb7 T=>?_) ?_
    .refine wI rfl (.tmp 49) (.tmp 49) 341 rfl w.heap.size 4 t7 (bV false) 1 Tryz.underlying341 s1 t0 t1 .i64 .i64 (a.length:Int) (a.length:Int) a.length XG XG rfl rfl (by rw[t2];omega) (by simp only[maxLen];omega) (by have k8:=W.o.size;simp;omega) ?_
     intro a5 f6 f4;have f2:=(aj _ _).grown f4 (av _) (λk5 t=>by cases t);obtain⟨L,I⟩:=yx f6 f2;clear f6 f4 f2;(try go_simp);refine T _ _ ?_;clear T b7;refine wpAny_ready (rs:=[2]) kR sM ?_;refine AllReady.cons (o:={dst:=some 47,op:=Op.makeSlice 23 (Operand.tmp 46) (Operand.tmp 46),type:=23,pos:= "proof.go:18",after:= #[{on:=1,ground:=Ground.data},{on:=1,ground:=Ground.data}],guard:=none}) rfl (λb7 T=>?_) ?_
     .refine wI rfl (.tmp 46) (.tmp 46) 23 rfl w.heap.size 30 t6 (uI 0) 1 Tryz.underlying23 s0 t3 t4 .i64 .i64 (a.length:Int) (a.length:Int) a.length XG XG rfl rfl (by rw[t5];omega) (by simp only[maxLen];omega) (by have k8:=W.o.size;have k7:=I.o.size;simp at k7;simp;omega) ?_
      intro a4 f5 f3;have f1:=(aj _ _).grown f3 (av _) (λk5 t=>by cases t);obtain⟨Z,a7⟩:=yx f5 f1;clear f5 f3 f1;(try go_simp);refine T _ _ ?_;clear T b7;refine wpAny_take (i:=6) (v:=?_) rfl kR kR kR (λ_ _ _ h=>h) (Or.inl ⟨by rfl,?_⟩) ?_;rotate_left
      (.exact λw=>gS);refine wpAny_take (i:=7) (v:=?_) rfl kR kR kR (λ_ _ _ h=>h) (Or.inl ⟨by rfl,?_⟩) ?_;rotate_left
      (.exact λw=>gS);(try simp only[Act.put,Array.setIfInBounds]);(try go_simp);refine wpAny_done kR ?_ _;have A:OwnAt a4 (FN w) 4 1 (some ⟨D.heap.size,0,none⟩) a.length a.length _:=((OwnAt.fresh L.o).below a7.o).mono (λn Y=>Y.1);have B:OwnAt a4 (FN w) 30 1 (some ⟨a5.heap.size,0,none⟩) a.length a.length _:=(OwnAt.fresh Z.o).mono (λn Y=>Y.1);have C:=I.o.trans (a7.o.mono I.o.size);have m4:D.heap.size<a5.heap.size:=(OwnAt.fresh L.o).lt _ rfl;have c:=(W.o.trans ((bA (aj D.heap.size D)).mono W.o.size)).trans (C.mono W.o.size);have J:=p5.o.below (show bW D a4 from(bA (aj D.heap.size D)).trans (C.mono (av _)));have X:a5.heap.size≠D.heap.size:=oM;clear Z a7 L I C m4;generalize a5.heap.size=x at B A c J X|-;generalize D.heap.size=z at B A c J X|-;generalize a4=N at B A c J|-;generalize l2:(λn=>(n8.drewN n5).heap.size<=n/\n<_)=g3 at J;clear l2;rw[pJ (uI 0) rfl]at B;rw[pJ (bV false) rfl]at A;have P:=zR d a;(have f0:OwnAt N (FN w) 30 1 (some ⟨x,0,none⟩) a.length a.length ((fil 0 (a.map (·.bX)) 0).flatMap woV):=by rw[zf,oD,List.map_replicate,bR];exact B);(have e9:OwnAt N (FN w) 4 1 (some ⟨z,0,none⟩) a.length a.length ((fil false (oo d a) 0).flatMap boV):=by rw[zf,oW,List.map_replicate,P];exact A);obtain⟨d1,c9,b5,R⟩:=Bq f0 e9 J c;clear B A f0 e9 J c;exact q3 _ _ _ ⟨X,d1,c9,⟨_,b5⟩,R⟩
     .exact AllReady.nil
    exact AllReady.nil
   case tl=>
    rintro x z N ⟨X,d1,c9,⟨g3,b5⟩,R⟩;have P:=zR d a;go_wp2;go_loopw [53,13,14,55,56,57] (λU F7 F8 G1 G2 G3 wr=>∃(b:Nat),b<=a.length/\U=jI b/\X3 (OwnAt wr (FN w) 30 1 (some ⟨x,0,none⟩) a.length a.length ((fil 0 (a.map (·.bX)) b).flatMap woV))/\X3 (OwnAt wr (FN w) 4 1 (some ⟨z,0,none⟩) a.length a.length ((fil false (oo d a) b).flatMap boV))/\X3 (Mod (FN w) [some 30,some 4] N wr)) (λU _ _ _ _ _ _=>a.length -(intOf U).toNat);(case atStart=>exact⟨0,oM,rfl,d1,c9,zH (aV _ _ _)⟩);case round=>
     clear d1 c9;obtain⟨b,z1,rfl,e5,L,b4⟩:=hrel;have j1:=zH (R.o.trans (b4.o.cZ R.o.size (λn Y h=>by have y8:w.heap.size<=n:=h;omega)));by_cases H:b<a.length
     .have p9:=aG b5.o (b4.o.aM (ts:=[some 177]) dC) sM
      obtain⟨x7,A6,rfl,r4,d7,d8,t8,t9,v0,v1,v2,v3⟩:=Ses.at_ p9 (aj _ _) H;clear p9;have s4:(a.map (·.bX))[b]'(by simpa using H)=a[b].bX:=sM;(have r7:(oo d a)[b]'oM=(a[b].rE&& !oQ d a[b].pn):=by simp[oo]);have l4:=Mk 0 (a.map (·.bX)) b (by simpa using H);have l1:=Mk false (oo d a) b oM;rw[s4]at l4;rw[r7]at l1;(have m1:(fil (0:Int) (a.map (·.bX)) b).length=a.length:=by rw[AR _ _ _ (by rw[bR];omega),bR]);(have m0:(fil false (oo d a) b).length=a.length:=by rw[AR _ _ _ oM,P]);obtain⟨_,y3,t,_,l0,r6,_⟩:=e5.o.bF (i:=b) (by rw[oD,bR,m1];exact H);injection t with t;injection t with t;subst t;obtain⟨_,y2,t,_,k9,r5,_⟩:=L.o.bF (i:=b) (by rw[oW,bR,m0];exact H);injection t with t;injection t with t;subst t;obtain⟨u1,s7⟩:∃n7,y3[b]?=some n7:=⟨_,r6 b _ (aL (by rw[oD,bR,m1];exact H))⟩;obtain⟨u2,s8⟩:∃n7,y2[b]?=some n7:=⟨_,r5 b _ (aL (by rw[oW,bR,m0];exact H))⟩;obtain⟨g6,I,j7,a0⟩:=Bq l0 k9 l4 l1;have f8:=l0.lt;have f7:=k9.lt;clear r6 r5 l0 k9 l4 l1 m1 m0 s4 r7;obtain⟨j5,q0,q1⟩:=Av (w3.o a[b].pn) s7 s8;clear s7 s8;generalize a[b]=E at*
      obtain⟨c6,i8,i5,b9,i7,i6,i9,d5⟩:=E;simp only at d7 d8 t8 t9 v0 v1 v2 v3 j5 j7 a0;go_wp2_with fail;obtain⟨G,h9⟩:=eX (wr.alloc (.cells #[uI c6,uI i8,uI i5,uI b9,uI i7,bV i6,bV i9,jI d5] 177));rw[<-h9];(have b1:bW wr G:=by rw[h9];exact BEL);(have C:Blk G wr.heap.size 177 #[uI c6,uI i8,uI i5,uI b9,uI i7,bV i6,bV i9,jI d5]:=by rw[h9];exact Wx _ _ _);have h6:=((g6.o.below b1 f8).cell b).trans q0.o;have k4:=(g6.o.below b1 f8).frozen b;have h5:=((I.o.below b1 f7).cell b).trans q1.o;have k3:=(I.o.below b1 f7).frozen b;have m9:wr.heap.size<G.heap.size:=C.lt;have n4:¬(x=wr.heap.size):=oM;have A4:¬(z=wr.heap.size):=oM;have A5:¬(x=z):=oM;obtain⟨e2,n9,o0⟩:=C.e3 0 3 5;obtain⟨b2,x3⟩:=yx b1 (show Blk G.drew wr.heap.size 177 _ from C);have d9:=g6.o.below b1 f8;have e0:=I.o.below b1 f7;obtain⟨o3,o2⟩:=yx (show Blk G.drew x _ _ from d9) (show Blk G.drew z _ _ from e0);clear d9 e0;clear h9 b1 C d7 d8 t8 t9 v0 v1 v2 v3;obtain⟨w1,p0,o7,j6⟩:=Bq (show bW w G from j1.o.trans (b2.o.mono j1.o.size)) (e5.o.below b2.o) (L.o.below b2.o) (b4.o.trans (aH b2.o));have v5:x<G.heap.size:=aC f8 b2.o.size;have v4:z<G.heap.size:=aC f7 b2.o.size;(have s3:b<(a.map (·.bX)).length:=by rw[bR];exact H);(have s2:b<(oo d a).length:=by rw[P];exact H);clear e5 L b4 b2 g6 I f8 f7 q0 q1;cases i6 with
      |false=>
       rw[Bool.false_and]at a0;have r:Blk G.drew wr.heap.size 177 _:=x3.o;refine aZ (S:=(λf=>Blk f wr.heap.size 177 #[uI c6,uI i8,uI i5,uI b9,uI i7,bV false,bV i9,jI d5])) kR r (λl3=>?_);clear l3;refine tK 0 58 r ?_;refine tK 1 59 r ?_;refine tK 2 60 r ?_;refine tK 3 61 r ?_;refine tK 4 62 r ?_;refine X6 5 63 r ?_ (y:=by intro w l7;have E9:=l7.Wu 3;exact gS);refine tK 6 64 r ?_;refine X6 7 65 r ?_ (y:=by intro w l7;have F0:=l7.Wu 5;exact gS);refine tK 8 66 r ?_;refine tkU 9 (some 67) r (h:=?_);refine tkU 10 (some 68) r (h:=?_);refine tkU 11 (some 69) r (h:=?_);refine tkU 12 (some 70) r (h:=?_);refine tkU 13 (some 71) r (h:=?_);refine tK 14 72 r ?_;refine tK 15 73 r ?_;refine aI 16 kR ?_;refine fF (op:=_) rfl kR kR 30 (.tmp 73) (.tmp 63) kR x b (uI b9) kR kR rfl kR o3.o (Array.getElem?_eq_some_iff.1 ((o3.o.cell b).symm.trans h6)).1 ?_;intro F1 y4;subst y4;refine⟨r.far (Ne.symm n4) _,?_⟩;refine tk 17 (some 74) (r.far (Ne.symm n4) _) (h:=?_);refine aI 18 kR ?_;refine fF (op:=_) rfl kR kR 4 (.tmp 74) (.tmp 72) kR z b (bV false) kR kR rfl kR (o2.o.far (Ne.symm A5) _) (Array.getElem?_eq_some_iff.1 ((o2.o.cell b).symm.trans h5)).1 ?_;intro F2 y5;subst y5;refine⟨(r.far (Ne.symm n4) _).far (Ne.symm A4) _,?_⟩;refine bg kR ?_ _;all_goals
        clear r;obtain⟨g0,g1,g2⟩:=DN X s3 s2 p0.o o7.o j7.o a0.o;obtain⟨h2,h3,h4⟩:=Av g0 g1 g2;clear g0 g1 g2 e2 n9 o0 h6 k4 h5 k3;go_wp2;go_roundw;(case rel=>exact⟨b+1,oM,by go_num,zH (h2.o.below (bA (aj _ _))),zH (h3.o.below (bA (aj _ _))),zH (j6.o.trans h4.o).drew⟩);case measure=>exact Yl
      |true=>
       rw[Bool.true_and]at a0;obtain⟨Q,r9⟩:=eX (oQ d c6);rw[<-r9]at a0 j5;clear r9;(first|(go_region_held3 (λf=>f.cell? ⟨wr.heap.size,0,none⟩=some (uI c6)/\f.cell? ⟨wr.heap.size,3,none⟩=some (uI b9)/\f.cell? ⟨wr.heap.size,5,none⟩=some (.bool true)) (first|simp[go_sem, *]) (first|(go_at_call 156;refine(j5.o _ (by have C6:=w1.o;exact BEL)).mono ?_;rintro c0 a3 ⟨rfl,O⟩;have x9:a3.cell? ⟨x,b,none⟩=some u1:=(O.cell (p:=⟨x,b,none⟩) v5).trans h6;have y7:a3.frozen? ⟨x,b,none⟩=false:=(O.frozen (p:=⟨x,b,none⟩) v5).trans k4;have x8:a3.cell? ⟨z,b,none⟩=some u2:=(O.cell (p:=⟨z,b,none⟩) v4).trans h5;have y6:a3.frozen? ⟨z,b,none⟩=false:=(O.frozen (p:=⟨z,b,none⟩) v4).trans k3;have B8:a3.cell? ⟨wr.heap.size,0,none⟩=some (uI c6):=(O.cell (p:=⟨wr.heap.size,0,none⟩) m9).trans e2;have B9:a3.cell? ⟨wr.heap.size,3,none⟩=some (uI b9):=(O.cell (p:=⟨wr.heap.size,3,none⟩) m9).trans n9;have C0:a3.cell? ⟨wr.heap.size,5,none⟩=some (.bool true):=(O.cell (p:=⟨wr.heap.size,5,none⟩) m9).trans o0;have r2:bW G a3:=(by have h7:=aj G.heap.size G;exact BEL:bW G _).trans O;have a6:=zH r2;clear O r2)))|fail "no");all_goals
        rename_i l3;clear l3;obtain⟨g0,g1,g2⟩:=DN X s3 s2 (p0.o.below a6.o) (o7.o.below a6.o) j7.o a0.o;obtain⟨h2,h3,h4⟩:=Av g0 g1 g2;clear g0 g1 g2 e2 n9 o0 h6 k4 h5 k3 x9 y7 x8 y6 B8 B9 C0;go_wp2;go_roundw;(case rel=>first|exact⟨b+1,oM,by go_num,zH h2.o,zH h3.o,zH ((j6.o.trans (aH a6.o)).trans h4.o)⟩|exact⟨b+1,oM,by go_num,zH (h2.o.below (bA (aj _ _))),zH (h3.o.below (bA (aj _ _))),zH ((j6.o.trans (aH a6.o)).trans h4.o).drew⟩);case measure=>exact Yl
     .obtain rfl:b=a.length:=oM
      (have c4:a.length=(a.map (·.bX)).length:=by rw[bR]);obtain⟨B,A,e7,e8⟩:=Hl e5.o L.o (Ml 0 (a.map (·.bX))) (Ml false (oo d a));rw[<-c4]at e7;rw[P]at e8;rw[e7]at B;rw[e8]at A;clear e7 e8;clear c4;obtain⟨j2,p6⟩:=yx (R.o.trans (b4.o.cZ R.o.size (λn Y h=>by have y8:w.heap.size<=n:=h;omega))) (aG b5.o (b4.o.aM (ts:=[some 177]) dC) sM);have h8:rG (a.map (·.bX)):=λG6 z4=>by
       obtain⟨E,z2,rfl⟩:=List.mem_map.1 z4;exact(w4.o E z2).bX
      obtain⟨g9,l5⟩:=eX (a.map (·.bX));obtain⟨j0,q6⟩:=eX (oo d a);(have c4:g9.length=a.length:=by rw[l5,bR]);rw[<-q6]at P d2 A;rw[<-l5]at d2 B h8;clear l5 q6;obtain⟨p1,b6⟩:=yx h8 (OL (FN w) (some ⟨x,0,none⟩) a.length g9 wr (by unfold Wos;rw[c4];exact B.row) oM h8);rw[c4]at b6;have a0:=zH A;have m3:=GU g9;have g8:=zH (OM p1.o);have m2:=IM j0;obtain⟨h0,q8⟩:=eX (kI g9);rw[<-q8]at b6 d2 m3 g8;rw[c4]at m3;rw[P]at m2;clear B A h8 b5 e5 L b4 R j1 q8 p1 c4;go_wp2_with fail;refine(b6.o).mono ?_;rintro c0 B2 ⟨x4,y0,rfl,q7,i0⟩;obtain⟨p3,g7⟩:=yx q7 (Qd (FN w) (some ⟨z,0,none⟩) a.length j0 B2 (by unfold Bos;rw[P];exact(a0.o.below i0).row) oM);obtain⟨h1,r0⟩:=eX (kW j0);rw[<-r0]at g7 d2 m2;rw[P]at g7;obtain⟨j3,p7⟩:=yx (j2.o.trans (i0.mono j2.o.size)) (p6.o.below i0);clear q7 i0 b6 r0 P a0;go_wp2_with fail;refine(g7.o).mono ?_;rintro c0 B3 ⟨x5,y1,rfl,q9,i1⟩;obtain⟨w8,w6,o1,p8⟩:=Bq q9 (aD p3.o i1) (j3.o.trans (i1.mono j3.o.size)) (p7.o.below i1);clear q9 i1 g7 p3 p6 p7 j2 j3;go_wp2;go_loopw [82,17,18,20,84,85] (λU B6 B7 F9 G4 G5 B5=>∃(b:Nat) (e1:Int) (f9:Bool),b<=u.length/\U=jI b/\B6=uI e1/\B7=bV f9/\X3 (Word e1)/\X3 (DR s next a h0 h1 (u.drop b) e1 f9=e6)/\X3 (bW B3 B5)) (λU _ _ _ _ _ _=>u.length -(intOf U).toNat);(case atStart=>exact⟨0,0,false,oM,rfl,rfl,rfl,zH ⟨dC,dC⟩,d2,zH (aj _ _)⟩);case round=>
       clear d2;obtain⟨b,e1,f9,z1,rfl,rfl,rfl,b6,k0,j4⟩:=hrel;have a8:=zH (o1.o.trans (j4.o.mono o1.o.size));by_cases H:b<u.length
       .obtain⟨x7,A6,rfl,r4,d7,d8⟩:=Sps.at_ w9.o a8.o H
        have C8:=aC r4 a8.o.size;have g:=k0.o;rw[aR H,Kk]at g;have n0:=w5.o _ (aN H);have r8:=zF.1 (w2.o _ (aN H));generalize u[b]=E at*
        obtain⟨b0,a9⟩:=E;simp only at d7 d8 g r8;obtain⟨D2,D3⟩:=r8;have E3:Word b0:=n0.lo;have E4:Word a9:=n0.hi;clear n0;by_cases d9:b0<s
        .rw[aB (Or.inl d9)]at g
         have M:=zH g;(have A8:=bM d9);clear g;go_wp2;refine mQ ?_;rintro _ ⟨nq,rfl⟩;refine mV ?_;rw[<-M.o];exact⟨rfl,by have c:=a8.o;have C:=c.size;exact BEL⟩
        (have A8:=bJ d9);by_cases e0:next<=a9
        .rw[aB (Or.inr e0)]at g
         have M:=zH g;(have A9:=bM e0);clear g;go_wp2_with fail;generalize c3:wr.alloc (.cells #[uI b0,uI a9] 272)=b8;(have d6:bW wr b8:=by rw[<-c3];exact BEL);(have c5:Blk b8 wr.heap.size 272 #[uI b0,uI a9]:=by rw[<-c3];exact Wx _ _ _);obtain⟨e2,w0⟩:=c5.e2 0 1;have b3:=zH (a8.o.trans (d6.mono a8.o.size));clear c3 d6 c5 d7 d8;refine bN kR kR ?_;(repeat (go_big_quiet_step (((go_at_call 61;exact aJ ((p2.o _ (aA b3.o _)).mono λc0 f h=>⟨h.1,h.2.symm⟩))))));refine aK ?_;rintro _ ⟨nq,rfl⟩;refine mV ?_;rw[<-M.o];exact⟨rfl,by have c:=b3.o;have C:=c.size;exact BEL⟩
        .have A9:=bJ e0
         rw[Ww oM]at g;obtain⟨q,rfl⟩:∃q:Nat,b0=s+q:=⟨(b0 -s).toNat,oM⟩;obtain⟨e,rfl⟩:∃e:Nat,a9=s+e:=⟨(a9 -s).toNat,oM⟩;have D1:q<=e:=oM;have z3:e<a.length:=oM;rw[show(s+(e:Int) -s).toNat=e by omega,show(s+(q:Int) -s).toNat=q by omega]at g;have E1:s+(q:Int) -s=q:=oM;have E2:s+(e:Int) -s=e:=oM;have M:=zH g;clear g;obtain⟨C3,A7,rfl,_⟩:=Ses.at_ p8.o (aj _ _) z3;go_wp2_with fail;generalize c3:wr.alloc (.cells #[uI (s+q),uI (s+e)] 272)=b8;(have d6:bW wr b8:=by rw[<-c3];exact BEL);(have c5:Blk b8 wr.heap.size 272 #[uI (s+q),uI (s+e)]:=by rw[<-c3];exact Wx _ _ _);obtain⟨e2,w0⟩:=c5.e2 0 1;obtain⟨b3,g5⟩:=yx (a8.o.trans (d6.mono a8.o.size)) (j4.o.trans (d6.mono j4.o.size));clear c3 d6 c5 d7 d8;refine bN kR kR ?_;(repeat (go_big_quiet_step (((go_at_call 61;exact aJ ((p2.o _ (aA b3.o _)).mono λc0 f h=>⟨h.1,h.2.symm⟩))))));refine aK ?_;rintro _ ⟨nq,rfl⟩;go_wp2;refine mQ ?_;rintro _ ⟨nq,rfl⟩;go_wp2_with fail;have m8:=pZ.part (k:=q) (m:=e+1) (p8.o.below g5.o) oM oM z0;rw[lD oM]at m8;(have m7:((a.take (e+1)).drop q).length=e+1 -q:=by rw[bI,aT];omega);generalize(a.take (e+1)).drop q=n6 at*
         generalize A7+q*8=E7 at*
         have p4:=zH m8;clear m8 e2 w0;obtain⟨q4,l8⟩:=eX (n6.any (λE=>E.aS==4));rw[<-l8]at M;have d4:=zH l8.symm;clear l8;generalize r1:World.drewN b8 _=q5;(have i2:bW b8 q5:=by rw[<-r1];exact BEL);obtain⟨o4,c7,w7⟩:=Av (b3.o.trans (i2.mono b3.o.size)) (g5.o.trans (i2.mono g5.o.size)) (aD p4.o i2);clear r1 i2 p4 b3 g5 k0;go_loopw [113,24,115,116] (λU G0 F5 F6 B4=>∃(n:Nat),n<=e+1 -q/\U=jI n/\X3 ((n6.drop n).any (λE=>E.aS==4)=q4)/\X3 (bW q5 B4)) (λU _ _ _ _=>(e+1 -q) -(intOf U).toNat);(case atStart=>exact⟨0,oM,rfl,d4,zH (aj _ _)⟩);case round=>
          clear d4;obtain⟨n,Y,rfl,d4,c8⟩:=hrel;have o5:=zH (o4.o.trans (c8.o.mono o4.o.size));have E5:=o5.o.size;by_cases i3:n<e+1 -q
          .obtain⟨C2,E6,l9,C7,z5,z6,z7,z8,z9,A0,A1,A2⟩:=Ses.at_ w7.o c8.o (j:=n) (by rw[m7];exact i3)
           injection l9 with l9;injection l9 with e7 e8;subst e7 e8;have Q:=d4.o;rw[aR (by rw[m7];exact i3),List.any_cons]at Q;generalize n6[n]'(by rw[m7];exact i3)=E at*
           obtain⟨c6,i8,i5,b9,i7,i6,i9,d5⟩:=E;simp only at z5 z6 z7 z8 z9 A0 A1 A2 Q;have D4:(n:Int)<((e+1 -q:Nat):Int):=Int.ofNat_lt.2 i3;by_cases v6:d5=4
           .subst v6
            have x1:X3 (q4=true):=zH (by rw[<-Q];rfl);have g:=M.o;rw[x1.o,aB rfl]at g;have M:=zH g;clear g Q;go_wp2_with fail;refine mV ?_;rw[<-M.o];exact⟨rfl,by have c:=o5.o;have C:=c.size;exact BEL⟩
           .have B0:(d5==4)=false:=by simp[v6]
            rw[B0,Bool.false_or]at Q;have x0:=zH Q;clear Q;go_wp2;go_roundw;(case rel=>exact⟨n+1,oM,by go_num,x0,zH (by have c:=c8.o;have C:=c.size;exact BEL)⟩);case measure=>exact Yl
          .obtain rfl:n=e+1 -q:=oM
           have Q:=d4.o;rw[List.drop_of_length_le oM]at Q;have g:=M.o;rw[<-Q,List.any_nil,Ww dC]at g;have s9:=aD w6.o (c7.o.trans (c8.o.mono c7.o.size));have s5:=aD w8.o (c7.o.trans (c8.o.mono c7.o.size));obtain⟨v7,i4⟩:=eX (WN (h0.getD (e+1) 0) (h0.getD q 0));obtain⟨B1,n1⟩:=eX ((h1.getD (e+1) false !=h1.getD q false));obtain⟨j9,j8⟩:=yx (P5 _ x4 y0 h0 q (e+1) wr s9 oM oM oM g8.o) (λf (c:bW wr f)=>RY _ x5 y1 h1 q (e+1) f (aD s5 c) oM oM oM);rw[<-i4]at j9;rw[<-n1]at j8;rw[<-i4,<-n1]at g;rw[m3,show((e+1:Nat):Int)=(e:Int)+1 by omega]at j9;rw[m2,show((e+1:Nat):Int)=(e:Int)+1 by omega]at j8;have o8:=zH g;have n2:Word v7:=by
            rw[i4];refine wm ?_ ?_
            .rw[Jr oM];exact g8.o _ (aN _)
            .rw[Jr oM];exact g8.o _ (aN _)
           have y9:=yt b6.o n2;obtain⟨v9,n3⟩:=eX (WN e1 v7);have x2:X3 (Word v9):=zH (by rw[n3];exact wm b6.o n2);rw[<-n3]at y9 o8;clear g Q s9 s5 i4 n1 n2 n3 d4 M;have o6:=zH (c7.o.trans (c8.o.mono c7.o.size));go_wp2_with fail;refine Yd j9.o ?_;intro a3 O;have a6:=zH O;clear O;go_wp2_with fail;refine Yd (j8.o _ a6.o) ?_;intro F4 r3;have R:=zH (o6.o.trans ((a6.o.trans (r3.mono a6.o.size)).mono o6.o.size));clear r3;go_wp2;go_roundw;(case rel=>exact⟨b+1,v9,(f9 !=B1),oM,by go_num,rfl,rfl,x2,o8,R⟩);case measure=>exact Yl
       .obtain rfl:b=u.length:=oM
        have g:=k0.o;rw[List.drop_length]at g;have M:X3 (⟨e1,f9,true⟩=e6):=zH g;clear g;go_wp2_with fail;refine mV ?_;rw[<-M.o];exact⟨rfl,a8.o⟩
theorem GQ (next:Int) (s:Sp) (t:List Sp):oZ next (s::t)=if next<=s.hi then some (max s.lo next)else oZ next t:=rfl
theorem Ih (a:List Sp) (s:Se) (t:List Se):xK a (s::t)=if s.aS=4/\oQ a s.pn=true then some s.pn else xK a t:=rfl
def chS (a:Rsu) (k:Ak):Rch:=if a.val≠k.xor then⟨6,0⟩else if a.odd≠k.kZ then⟨7,0⟩else⟨0,0⟩
def chO (a b:Option Int) (c:Rsu) (k:Ak):Rch:=match a with|some p=>⟨4,p⟩|none=>match b with|some p=>⟨5,p⟩|none=>chS c k
theorem OB {l:Le} {k:Ak} (a:qA k=true) (b:¬(k.cu.getD 0 ⟨0,0⟩).lo<gT l):kL l k=chO (oZ l.next k.cu) (xK k.cu l.kept) (Bn l k.cu k.aO) k:=by
 unfold kL;rw[a,Ww sM,Ww b];rfl
theorem Ah (S X:X4) (p:Nat) (l:Le) (a1:X5) (c1:Nat) (a2:X5) (c2:Nat) (k:Ak) (w:World) (h:iJ w S p l) (y:gM l) (n:nu w X a1 c1 a2 c2 k):
  Yk 115 #[pT p,.agg #[.slice a1 k.cu.length c1,.slice a2 k.aO.length c2,uI k.dw,uI k.xor,bV k.kZ]] w λY c=>
   Y=.returned (.tuple #[jI (kL l k).why,uI (kL l k).pn])/\bW w c:=by
 obtain⟨A,b0,a7,b1⟩:=Bq (λc (a:bW w c)=>wU X a1 c1 a2 c2 k c (n.below a)) (λc (a:bW w c)=>qY S p l c (h.below a) y) (λc (a:bW w c)=>sU S p l c (h.below a) y) (λc (a:bW w c)=>pK S p l c (h.below a));(have m5:l.kept.length<=1000:=by have:=y.len;have:=y.lW;omega);obtain⟨B,b2⟩:=yx n.cu n.sok;have g1:=n.scap;cases hm:qA k with
 |false=>
  (have a4:kL l k=⟨1,0⟩:=by unfold kL;rw[hm];rfl);rw[a4];rw[hm]at A;clear a4 hm h y n b0 a7 B b2;obtain⟨d,C,E,v,z⟩:=k;simp only at*
  go_enter Tryz.func115,Tryz.ntmps115;go_wp2_with fail;refine Yd (A.o _ (BEL)) ?_;intro q a;have o:bW w q:=pY a;have i:Blk q (w.heap.size) 92 #[.slice a1 d.length c1,.slice a2 C.length c2,uI E,uI v,bV z]:=iK a;obtain⟨d8,e3,d9,e4,e0,e5,e1,e6,e2,e7⟩:=i.c5;have Q:w.heap.size<q.heap.size:=i.lt;have b4:=zH i;clear i;have r:=zH o;clear a o;go_wp2_with fail;refine mV ?_;exact⟨rfl,r.o⟩
 |true=>
  rw[hm]at A;obtain⟨g5,g6,g7⟩:=IY hm;have P:0<k.cu.length:=oM;have a3:=B.o;(have b7:k.cu.getD 0 ⟨0,0⟩=k.cu[0]:=by rw[aW,aL oM];rfl);by_cases F:(k.cu.getD 0 ⟨0,0⟩).lo<gT l
  .have a4:kL l k=⟨2,0⟩:=by unfold kL;rw[hm,Ww sM,aB F]
   rw[a4];rw[b7]at F;clear a4 hm h y n a7 b2 a3 b7 b1;obtain⟨d,C,E,v,z⟩:=k;simp only at g5 g6 g7 P F g1 A B|-;go_enter Tryz.func115,Tryz.ntmps115;go_wp2_with fail;refine Yd (A.o _ (BEL)) ?_;intro q a;have o:bW w q:=pY a;have i:Blk q (w.heap.size) 92 #[.slice a1 d.length c1,.slice a2 C.length c2,uI E,uI v,bV z]:=iK a;obtain⟨d8,e3,d9,e4,e0,e5,e1,e6,e2,e7⟩:=i.c5;have Q:w.heap.size<q.heap.size:=i.lt;have b4:=zH i;clear i;have r:=zH o;clear a o;obtain⟨f7,g8,rfl,o,t,u⟩:=Sps.at_ B.o r.o (j:=0) P;simp only[Nat.zero_mul,Nat.add_zero]at t u;(have g2:decide (d[0].lo<gT l)=true:=by simpa using F);have a3:(0:Int)<(d.length:Int):=Int.ofNat_lt.2 P;go_wp2;refine bN kR kR ?_;(repeat (go_big_quiet_step (((go_at_call 70;exact dn (b0.o _ (aA r.o _)))))));refine aK ?_;rintro _ ⟨nq,rfl⟩;refine mV ?_;exact⟨rfl,by have a:=r.o;exact BEL⟩
  .rw[OB hm F]
   rw[b7]at F;have c8:=zH (λc (a:bW w c)=>RJ S X X p l a1 c1 k.cu a2 c2 k.aO c (h.below a) y (aD n.cu a) n.scap oM n.sok (aD n.aO a) n.mcap oM n.mok);obtain⟨f4,d0⟩:=eX (oZ l.next k.cu);obtain⟨c9,d1⟩:=eX (xK k.cu l.kept);generalize Bn l k.cu k.aO=h7 at*
   obtain⟨a5,c3,e9⟩:=h7;obtain⟨x,d2⟩:=eX (chO f4 c9 ⟨a5,c3,e9⟩ k);rw[<-d0,<-d1,<-d2];obtain⟨b3,c5,c6,l8⟩:=Bq d2 d0 d1 y.pnw_;clear d2 d0 d1 hm h y n a3 b7;generalize l.kept=R at*
   generalize l.next=next at*
   have f9:=zH (λ(j3:Int) c (a:bW w c)=>yZ X a1 c1 k.cu j3 c (aD B.o a) oM b2.o);obtain⟨d,C,E,v,z⟩:=k;simp only at g5 g6 g7 P F g1 A B b3 b2 f9 c5 c6 c8|-;go_enter Tryz.func115,Tryz.ntmps115;go_wp2_with fail;refine Yd (A.o _ (BEL)) ?_;intro q a;have o:bW w q:=pY a;have i:Blk q (w.heap.size) 92 #[.slice a1 d.length c1,.slice a2 C.length c2,uI E,uI v,bV z]:=iK a;obtain⟨d8,e3,d9,e4,e0,e5,e1,e6,e2,e7⟩:=i.c5;have Q:w.heap.size<q.heap.size:=i.lt;have b4:=zH i;clear i;have r:=zH o;clear a o;obtain⟨f7,g8,rfl,o,t,u⟩:=Sps.at_ B.o r.o (j:=0) P;simp only[Nat.zero_mul,Nat.add_zero]at t u;(have g2:decide (d[0].lo<gT l)=false:=by simpa using F);have a3:(0:Int)<(d.length:Int):=Int.ofNat_lt.2 P;go_wp2;refine bN kR kR ?_;(repeat (go_big_quiet_step (((go_at_call 70;exact dn (b0.o _ (aA r.o _)))))));refine aK ?_;rintro _ ⟨nq,rfl⟩;clear t u b0 a3 g2;generalize d3:World.drewN q _=f0;(have g0:bW w f0:=by rw[<-d3];have a:=r.o;exact BEL);(have b9:Blk f0 w.heap.size 92 #[.slice (some ⟨f7,g8,none⟩) d.length c1,.slice a2 C.length c2,uI E,uI v,bV z]:=by rw[<-d3];exact b4.o.drewN _);clear d3 d8 d9 e0 e1 e2 e3 e4 e5 e6 e7 r b4 Q A;obtain⟨f3,c4⟩:=yx b9 g0;obtain⟨k7,l2,k8,l3,k9,l4,l0,l5,l1,l6⟩:=b9.c5;have Q:=b9.lt;clear b9 g0;go_wp2;go_loopw [31,7,33,34] (λM p0 o6 o7 wr=>∃(e:Nat),e<=d.length/\M=jI e/\X3 (oZ next (d.drop e)=f4)/\X3 (bW f0 wr)) (λM _ _ _ _=>d.length -(intOf M).toNat);(case atStart=>exact⟨0,oM,rfl,c5.o.symm,aj _ _⟩);case round=>
    clear k7 k8 k9 l0 l1 l2 l3 l4 l5 l6;obtain⟨e,i2,rfl,H,g⟩:=hrel;clear c5;have d6:=c4.o.trans (g.o.mono c4.o.size);have f:=zH d6;have i5:=d6.size;have i4:=g.o.size;clear d6;by_cases a0:e<d.length
    .obtain⟨h8,j4,d7,i1,t,u⟩:=Sps.at_ B.o f.o a0
     injection d7 with d7;injection d7 with Z i0;subst Z i0;have b:=H.o;rw[aR a0,GQ]at b;generalize d[e]=e8 at*
     obtain⟨T,N⟩:=e8;simp only at t u b;by_cases D:next<=N
     .rw[aB D]at b
      have m:X3 (x=⟨4,max T next⟩):=zH (by rw[b3.o,<-b];rfl);(have f8:=bM D);clear b;go_wp2_with fail;generalize I:wr.alloc (.cells #[uI T,uI N] 272)=O;(have s:bW wr O:=by rw[<-I];exact BEL);(have L:Blk O wr.heap.size 272 #[uI T,uI N]:=by rw[<-I];exact Wx _ _ _);obtain⟨f1,h2⟩:=L.e2 0 1;have G:=zH (f.o.trans (s.mono f.o.size));clear I s L t u;refine bN kR kR ?_;(repeat (go_big_quiet_step (((go_at_call 61;exact aJ ((b1.o _ (aA G.o _)).mono λY c h=>⟨h.1,h.2.symm⟩))))));refine aK ?_;rintro _ ⟨nq,rfl⟩;go_wp2_with fail;generalize d5:World.drewN O _=f5;have f2:=zH (show bW w f5 from by rw[<-d5];exact aA G.o _);(have p2:f5.cell? ⟨wr.heap.size,0,none⟩=some (uI T):=by rw[<-d5];exact f1);clear d5 f1 h2;refine bN kR kR ?_;(repeat (go_big_quiet_step (((go_at_call 61;exact aJ ((b1.o _ (aA f2.o _)).mono λY c h=>⟨h.1,h.2.symm⟩))))));refine aK ?_;rintro _ ⟨nq,rfl⟩;refine mV ?_;rw[m.o];exact⟨rfl,by have a:=f2.o;have K:=a.size;exact BEL⟩
     .rw[Ww D]at b
      have V:=zH b;(have f8:=bJ D);clear b;go_wp2_with fail;generalize I:wr.alloc (.cells #[uI T,uI N] 272)=O;(have s:bW wr O:=by rw[<-I];exact BEL);(have L:Blk O wr.heap.size 272 #[uI T,uI N]:=by rw[<-I];exact Wx _ _ _);obtain⟨f1,h2⟩:=L.e2 0 1;obtain⟨G,a8⟩:=yx (f.o.trans (s.mono f.o.size)) (g.o.trans (s.mono g.o.size));clear I s L t u;refine bN kR kR ?_;(repeat (go_big_quiet_step (((go_at_call 61;exact aJ ((b1.o _ (aA G.o _)).mono λY c h=>⟨h.1,h.2.symm⟩))))));refine aK ?_;rintro _ ⟨nq,rfl⟩;go_wp2;go_roundw;(case rel=>exact⟨e+1,oM,by go_num,V,zH (by have a:=a8.o;have K:=a.size;exact BEL)⟩);case measure=>exact Yl
    .obtain rfl:e=d.length:=oM
     have b:=H.o;rw[List.drop_length]at b;have c7:X3 (x=chO none c9 ⟨a5,c3,e9⟩ ⟨d,C,E,v,z⟩):=zH (by rw[b3.o,<-b];rfl);clear b b3 H;go_wp2_with fail;refine(a7.o _ f.o).mono ?_;rintro Y h1 ⟨m1,m2,rfl,m4,g3,s⟩;obtain⟨h5,G,a8⟩:=Av g3 (f.o.trans (s.mono f.o.size)) (g.o.trans (s.mono g.o.size));have h6:=zH (f3.o.below a8.o Q);clear g3 s f3 c4 f g a7;go_wp2;go_loopw [49,9,51,52] (λM p1 o8 o9 wr=>∃(e:Nat),e<=R.length/\M=jI e/\X3 (xK d (R.drop e)=c9)/\X3 (bW h1 wr)) (λM _ _ _ _=>R.length -(intOf M).toNat);(case atStart=>exact⟨0,oM,rfl,c6.o.symm,aj _ _⟩);case round=>
      clear c6;obtain⟨e,i2,rfl,H,g⟩:=hrel;have f:=zH (G.o.trans (g.o.mono G.o.size));have i5:=f.o.size;have i4:=g.o.size;have i3:=aC Q a8.o.size;have b5:=h6.o.below g.o i3;obtain⟨j5,j8,j6,j9,j7,k0,g9,k1,h0,k2⟩:=b5.c5;have l9:=zH b5;have g4:=b5.lt;clear b5;by_cases a0:e<R.length
      .obtain⟨h8,j4,rfl,i1,t,u,i6,i7,i8,i9,j0,j1⟩:=h5.o.at_ g.o a0
       have b:=H.o;rw[aR a0,Ih]at b;generalize R[e]=e8 at*
       obtain⟨c0,k5,j2,h9,k4,k3,k6,f6⟩:=e8;simp only at t u i6 i7 i8 i9 j0 j1 b;by_cases D:f6=4
       .subst D
        have a9:=zH (f9.o c0);cases d4:oQ d c0 with
        |false=>
         rw[Ww (λh=>by rw[d4]at h;cases h.2)]at b;have V:=zH b;rw[d4]at a9;clear b d4;go_wp2_with fail;refine Yd (a9.o _ (by have a:=f.o;have K:=a.size;exact BEL)) ?_;intro a6 J;have h3:=zH J;clear J;go_wp2;go_roundw;(case rel=>exact⟨e+1,oM,by go_num,V,zH (bD (show bW h1 _ from by have a:=g.o;have K:=a.size;exact BEL) (h3.o.mono sO))⟩);case measure=>exact Yl
        |true=>
         rw[aB ⟨rfl,d4⟩]at b;have m:X3 (x=⟨5,c0⟩):=zH (by rw[c7.o,<-b];rfl);rw[d4]at a9;clear b d4;go_wp2_with fail;refine Yd (a9.o _ (by have a:=f.o;have K:=a.size;exact BEL)) ?_;intro a6 J;have h4:=zH (show bW w a6 from bD (by have a:=f.o;have K:=a.size;exact BEL) (J.mono sO));have o:bW wr a6:=pY J;have b8:Blk a6 (wr.heap.size) 177 #[uI c0,uI k5,uI j2,uI h9,uI k4,bV k3,bV k6,jI 4]:=iK J;obtain⟨m6,n4,m7,n5,m8,n6,m9,n7,n0,n8,n1,n9,n2,o0,n3,o1⟩:=b8.c8;have o2:wr.heap.size<a6.heap.size:=b8.lt;have m0:=zH b8;clear b8;have l7:=zH o;clear J o;go_wp2;refine mQ ?_;rintro _ ⟨nq,rfl⟩;refine mV ?_;rw[m.o];exact⟨rfl,by have a:=h4.o;have K:=a.size;exact BEL⟩
       .have f8:(f6==4)=false:=by simp[D]
        rw[Ww (λh=>D h.1)]at b;have V:=zH b;clear b;go_wp2;go_roundw;(case rel=>exact⟨e+1,oM,by go_num,V,zH (by have a:=g.o;have K:=a.size;exact BEL)⟩);case measure=>exact Yl
      .obtain rfl:e=R.length:=oM
       have b:=H.o;rw[List.drop_length]at b;have W:X3 (x=chS ⟨a5,c3,e9⟩ ⟨d,C,E,v,z⟩):=zH (by rw[c7.o,<-b];rfl);clear b c7 H;go_wp2_with fail;refine Yd (c8.o _ f.o) ?_;intro o5 b6;have U:=zH (f.o.trans (b6.mono f.o.size));have o3:=(b6.cell (p:=⟨w.heap.size,3,none⟩) g4).trans g9;have o4:=(b6.cell (p:=⟨w.heap.size,4,none⟩) g4).trans h0;clear b6 j5 j6 j7 g9 h0 j8 j9 k0 k1 k2 c8;by_cases Z:a5=v
       .subst Z
        cases c3<;>cases z
        .have m:X3 (x=⟨0,0⟩):=zH (by rw[W.o];simp[chS])
         go_wp2_with fail;refine mV ?_;rw[m.o];exact⟨rfl,by have a:=U.o;exact BEL⟩
        .have m:X3 (x=⟨7,0⟩):=zH (by rw[W.o];simp[chS])
         go_wp2_with fail;refine mV ?_;rw[m.o];exact⟨rfl,by have a:=U.o;exact BEL⟩
        .have m:X3 (x=⟨7,0⟩):=zH (by rw[W.o];simp[chS])
         go_wp2_with fail;refine mV ?_;rw[m.o];exact⟨rfl,by have a:=U.o;exact BEL⟩
        .have m:X3 (x=⟨0,0⟩):=zH (by rw[W.o];simp[chS])
         go_wp2_with fail;refine mV ?_;rw[m.o];exact⟨rfl,by have a:=U.o;exact BEL⟩
       .have m3:(a5 !=v)=true:=by simp[Z]
        have m:X3 (x=⟨6,0⟩):=zH (by rw[W.o];unfold chS;rw[aB Z]);go_wp2_with fail;refine mV ?_;rw[m.o];exact⟨rfl,by have a:=U.o;exact BEL⟩
def atI (k:List Int) (i:Nat):Int:=k.getD i 0
def U32 (k:List Int):Prop:=∀a∈k,0<=a/\a<4294967296
theorem LA {k:List Int} (h:U32 k) (i:Nat):0<=atI k i/\atI k i<4294967296:=by
 unfold atI;by_cases a:i<k.length
 .rw[getD_at a];exact h _ (aN a)
 .rw[aW,List.getElem?_eq_none oM];exact⟨dC,dC⟩
def fV (k:List Int):Cf where
 mss:=1+atI k 0%40
 bn:=2*(1+atI k 0%40)+atI k 1%50
 jD:=2*(1+atI k 0%40)+atI k 1%50+atI k 2%100
 most:=2*(1+atI k 0%40)+atI k 1%50+atI k 2%100+atI k 3%400
 bits:=if atI k 4%4=1 then 1+atI k 4/4%64 else 64
 one:=if 0<atI k 5%4 then 2+atI k 5/4%30 else 0
 ring:=4+atI k 6%40
 dO:=if atI k 7%4=1 then atI k 7/4%60 else 4611686018427387903
 room:=1+atI k 8%300
 pX:=1+atI k 9%2
 first:=1+atI k 10%200000
 jc:=1+atI k 11%2000
 cap:=1+atI k 11%2000+atI k 12%400000
 gD:=1+atI k 0%40+atI k 13%400
 WL:=1+atI k 14%100000
 bE:=atI k 15%5
 every:=1+atI k 16%100000
theorem CS {k:List Int} (h:U32 k):lV (fV k)where
 bits0:=by simp only[fV];split<;>omega
 bits1:=by simp only[fV];split<;>omega
 one:=by
  have a:=(LA h 5).1;simp only[fV];split<;>exact⟨oM,oM⟩
 one1:=by
  have a:=(LA h 5).1;simp only[fV,beq_eq_false_iff_ne];split<;>omega
 wZ:=by simp only[fV];omega
 lW:=by simp only[fV];omega
 limit0:=by simp only[fV];split<;>omega
 mh:=by simp only[fV];split<;>omega
 Af:=by simp only[fV];omega
 qC:=by simp only[fV];omega
 Gj:=by simp only[fV];omega
 Ca:=by simp only[fV];omega
 zM:=by simp only[fV];omega
 Mg:=by simp only[fV];omega
 Mf:=by simp only[fV];omega
 most:=by simp only[fV];omega
 pX:=by simp only[fV];omega
 KY:=by simp only[fV];omega
 Xv:=by simp only[fV];omega
 KW:=by simp only[fV];omega
 QG:=by simp only[fV];omega
 cap0:=by simp only[fV];omega
 cap1:=by simp only[fV];omega
 Rh:=by simp only[fV];omega
 Rf:=by simp only[fV];omega
 Ie:=by simp only[fV];omega
 BA:=by simp only[fV];omega
 chal0:=by simp only[fV];omega
 chal1:=by simp only[fV];omega
 QM:=by simp only[fV];omega
 XB:=by simp only[fV];omega
def yj:List Int:=[9,0,0,0,0,0,0,0,99,0,99,0,5000,50]
def aliveW:Wo:=Bc (mO (fV yj) [] [] [] 0) ⟨1,0,[97,98,99]⟩
def Db:Rw:=zz aliveW ⟨2,7,[]⟩
theorem Rv:Db.aS.fG=0/\Db.aS.dh.fI=1/\Db.qm=3/\Db.aS.bK=7:=by decide+kernel
def co1 (s:Se):Int:=if s.aS=1 then s.len else 0
def flS:List Se->Int
 |[]=>0
 |s::t=>co1 s+flS t
theorem Lr {s:Se} (a:0<=s.len):0<=co1 s/\co1 s<=s.len:=by unfold co1;split<;>omega
theorem xW:∀(b:List Se),(∀a∈b,0<=a.len)->0<=flS b
 |[],_=>bY 0
 |a::t,h=>by
  have e:=Lr (h a sM);have f:=xW t (λd c=>h d (by simp[c]));unfold flS;omega
theorem GG {m:Int}:∀(b:List Se),(∀a∈b,0<=a.len/\a.len<=m)->flS b<=b.length*m
 |[],_=>by simp[flS]
 |a::t,h=>by
  have c:=h a sM;have f:=Lr c.1;have g:=GG t (λe d=>h e (by simp[d]));(have i:((t.length+1:Nat):Int)*m=t.length*m+m:=by rw[Int.natCast_add,Int.add_mul];simp);unfold flS;rw[aY];omega
theorem Jw (s:Se) (t:List Se):flS (s::t)=co1 s+flS t:=rfl
theorem Aw:∀(d:List Se) (b:Int),(∀a∈d,0<=a.len)->b+flS d<18446744073709551616->iT b d=b+flS d
 |[],b,_,_=>by simp[iT,flS]
 |a::t,b,h,hn=>by
  have k:=xW t (λg f=>h g (by simp[f]));have j:=Lr (h a sM);rw[Jw]at hn;have i:(if a.aS=1 then WI b a.len else b)=b+co1 a:=by
   by_cases c:a.aS=1
   .have e:co1 a=a.len:=by unfold co1;rw[aB c]
    rw[aB c,e];unfold WI;rw[aB oM]
   .have e:co1 a=0:=by unfold co1;rw[Ww c]
    rw[Ww c,e];omega
  unfold iT;rw[i,Aw t (b+co1 a) (λg f=>h g (by simp[f])) oM,Jw];omega
theorem gM.yQ {l:Le} (h:gM l):∀a∈l.kept,0<=a.len:=λa b=>(h.ok a b).yQ
theorem Jg {l:Le} (h:gM l):gq l=flS l.kept:=by
 have c:=GG (m:=1500) l.kept (λb a=>⟨(h.ok b a).yQ,(h.ok b a).Dr⟩);have d:=h.len;have e:=h.lW;unfold gq;rw[Aw l.kept 0 h.yQ oM];omega
theorem MQ {g:Gu} {l:Le} {b:List Int} {now:Int} (hb:dP b):(dN g l b now).ack.cu.length<=1000/\Word ((dN g l b now).ack.cu.getLastD ⟨0,0⟩).hi:=by
 rcases Ct g l b now with a|a<;>rw[a]
 .exact⟨dC,⟨dC,dC⟩⟩
 .have:=xY b hb
  exact⟨oM,Cu this.2⟩
theorem RD {e:En} {b:List Int} (h:dG k e):dG (k+1) (sx (dN e.gu e.led b e.now).gu e.told (if(dN e.gu e.led b e.now).ver.dU=true then e.cO+1 else e.cO) {e with led:=(dN e.gu e.led b e.now).led}):=by
 obtain⟨i,d,g,m⟩:=Hl (h.mono (Nat.le_succ k)) (EN (b:=b) h.gu h.le h.now) h.rO h.ni;have f:∀b:Bool,0<=(if b=true then e.cO+1 else e.cO)/\(if b=true then e.cO+1 else e.cO)<=((k+1:Nat):Int):=by
  intro b;cases b
  .exact⟨by simpa using g,by simp;omega⟩
  .exact⟨by simp;omega,by simp;omega⟩
 have a:(dN e.gu e.led b e.now).led.ring=e.c.ring/\(dN e.gu e.led b e.now).led.dO=e.c.dO/\∀l∈(dN e.gu e.led b e.now).led.kept,l.len<=e.c.mss:=by
  rcases Cr e.gu e.led b e.now with c|⟨j,c⟩<;>rw[c]
  .exact⟨h.lr,h.ll,h.lm⟩
  .have:=Ci e.led j
   exact⟨this.1.trans h.lr,this.2.1.trans h.ll,EE h.lm⟩
 exact{i with gu:=d.1,le:=d.2,lr:=a.1,ll:=a.2.1,lm:=a.2.2,rO:=(f _).1,ni:=(f _).2}
theorem Am:∀(c a:List Se) (b:Int),gB b (c++a)=gB (gB b a) c
 |[],a,b=>rfl
 |s::t,a,b=>by
  have d:=Am t a b;simp only[List.cons_append,gB];rw[d]
theorem yR:∀(b:List Se) (a:Int),gB a b<=gB (a+1) b/\gB (a+1) b<=gB a b+1
 |[],a=>by simp only[gB];omega
 |s::t,a=>by
  have c:=yR t a;simp only[gB];split
  .omega
  .exact c
theorem xU {l:Le} (s:Se) (h:gM l) (f:¬l.dO<l.next) (b:¬eu l<1):
  (gG l s).err=0/\(gG l s).val=l.next/\(gG l s).led.next=l.next+1/\eY (gG l s).led=gB (if s.aS=1 then l.next else l.next+1) l.kept:=by
 unfold gG;rw[Ww f,Ww b];refine⟨rfl,rfl,rfl,?_⟩;unfold eY;dsimp only;have e:gB (l.next+1) (l.kept++[{s with pn:=l.next}])=gB (if s.aS=1 then l.next else l.next+1) l.kept:=by
  rw[Am];rfl
 split
 .next c=>
  rw[<-e];have a:=h.len;have j:=h.wZ;cases hk:l.kept with
  |nil=>rw[hk]at a c;simp at c a;omega
  |cons x t=>
   have d:x.aS≠1:=λd=>by
    have i:=h.pn 0 x (by rw[hk];rfl);(have g:eY l=x.pn:=by unfold eY;rw[hk];unfold gB;rw[aB d]);rw[nU]at i;rw[hk]at a c;unfold eu at b;rw[g]at b;have k:=h.pE;simp only[aY]at a c;omega
   rw[List.cons_append,List.drop_succ_cons,List.drop_zero]
   conv=>rhs;unfold gB
   rw[Ww d]
 .exact e
theorem DX {e:En} (h:dG k e) (i:¬e.c.dO<e.led.next) (a:¬eu e.led<1):¬e.c.dO<(eH e).led.next/\¬eu (eH e).led<1/\eu (eH e).led<=eu e.led:=by
 have p:=h.ll;unfold eH;split
 .next c=>
  unfold rQ at c;simp only[Bool.and_eq_true,decide_eq_true_eq]at c;obtain⟨l,m,f,b⟩:=xU {seZ with aS:=4} h.le oM a;have n:=yR e.led.kept e.led.next;have g:=(rP e.led {seZ with aS:=4}).1;rw[Ww dC]at b;have d:=c.1.2;have j:=c.2;show¬e.c.dO<(og e.led).led.next/\¬eu (og e.led).led<1/\eu (og e.led).led<=eu e.led;unfold og;unfold eu at d a|-;rw[f,b,g];have o:eY e.led=gB e.led.next e.led.kept:=rfl;omega
 .exact⟨i,a,bY _⟩
theorem Ea {e:En} {p:Pi} (h:dG k e) (n:iY e.dH e.c.mss=some p) (j:¬e.c.dO<e.led.next) (o:¬eu e.led<1):eu (jH e p).en.led<eu e.led/\(jH e p).en.cO=e.cO:=by
 obtain⟨x,y,z,A,B,C⟩:=nD h.qu n;obtain⟨q,r,D⟩:=DX h j o;have b:=wM h;have i:=(zh e).1;(have m:(eH e).cO=e.cO:=by unfold eH;split<;>rfl);refine⟨?_,m⟩;have v:=h.cf.Ca;have w:=h.qu.qx;unfold jH wN;show eu (jG (eH e).led _).led<_;unfold jG;rw[Ww (by simp only;omega)];have l:=b.ll;obtain⟨s,t,c,a⟩:=xU ({(⟨0,p.off,p.body.length,yP (jg (eH e)) (eH e).c.bits,(WG (WG (eH e))).now,zn (jg (WG (eH e))),false,0⟩:Se)with aS:=1,used:=false}) b.le (by rw[l,i];exact q) r;have d:=(rP (eH e).led ({(⟨0,p.off,p.body.length,yP (jg (eH e)) (eH e).c.bits,(WG (WG (eH e))).now,zn (jg (WG (eH e))),false,0⟩:Se)with aS:=1,used:=false})).1;rw[aB rfl]at a;have f:eY (eH e).led=gB (eH e).led.next (eH e).led.kept:=rfl;rw[<-f]at a;show eu (gG (eH e).led _).led<_;have u:eu (gG (eH e).led ({(⟨0,p.off,p.body.length,yP (jg (eH e)) (eH e).c.bits,(WG (WG (eH e))).now,zn (jg (WG (eH e))),false,0⟩:Se)with aS:=1,used:=false})).led=eu (eH e).led -1:=by
  unfold eu;rw[c,a,d];omega
 have g:eu (gG (eH e).led ({(⟨0,p.off,p.body.length,yP (jg (eH e)) (eH e).c.bits,(WG (WG (eH e))).now,zn (jg (WG (eH e))),false,0⟩:Se)with aS:=1,used:=false})).led<eu e.led:=oM;exact g
def pm (e:En):Int:=e.cO+eu e.led
theorem PU {e:En} (h:dG k e):0<=pm e/\pm e<=e.cO+256:=by
 obtain⟨a,b,c⟩:=FX h.le.room h.rO h.le.lW;unfold pm;omega
theorem Ny {e:En} (h:dG k e) (a:(WQ e).err=0):pm (WQ e).en<pm e:=by
 rw[vk]at a|-;by_cases f:Yn e=true
 (.rw[aB f]at a;exact Wy a (show¬((9:Int)=0) by decide));rw[Ww f]at a|-;by_cases g:0<e.cO
 .rw[aB g]
  show e.cO -1+eu e.led<e.cO+eu e.led;omega
 rw[Ww g]at a|-;unfold uS at a|-;cases hq:iY e.dH e.c.mss with
 |none=>rw[hq]at a;exact Wy a (show¬((10:Int)=0) by decide)
 |some p=>
  rw[hq]at a;dsimp only at a|-;by_cases i:e.fP=false/\e.cc.win.cr<gq e.led+p.body.length
  (.rw[aB i]at a;exact Wy a (show¬((7:Int)=0) by decide));rw[Ww i]at a|-;by_cases b:e.c.dO<e.led.next
  (.rw[aB b]at a;exact Wy a (show¬((8:Int)=0) by decide));rw[Ww b]at a|-;by_cases c:eu e.led<1
  (.rw[aB c]at a;exact Wy a (show¬((7:Int)=0) by decide));rw[Ww c]at a|-;by_cases d:vw e.fM e.c.gD e.now p.body.length=true
  .rw[aB d]
   obtain⟨q,r,s,t,u,v⟩:=nD h.qu hq;have m:Word (p.body.length:Int):=⟨oM,by have:=h.cf.Ca;omega⟩;have l:dG k {e with fM:=WR e.fM e.c.gD e.now p.body.length}:={h with pa:=Yr h.pa h.cf.Ym h.now m d,ra0:=h.ra0,ra1:=h.ra1};have j:=Ea l hq b c;have n:eu (jH {e with fM:=WR e.fM e.c.gD e.now p.body.length} p).en.led<eu e.led:=j.1;have o:(jH {e with fM:=WR e.fM e.c.gD e.now p.body.length} p).en.cO=e.cO:=j.2;unfold pm;omega
  .rw[Ww d]at a;exact Wy a (show¬((7:Int)=0) by decide)
def Quiet (e:En):Prop:=(WQ e).err≠0/\(WQ e).en=e
theorem Zb {e:En} (a:(WQ e).err≠0):Quiet (WQ e).en:=by
 have k:(WQ e).en=e\/Yn (WQ e).en=true:=by
  rw[vk]at a|-;by_cases c:Yn e=true
  (.rw[aB c];exact .inl rfl);rw[Ww c]at a|-;by_cases d:0<e.cO
  (.rw[aB d]at a;exact Wy rfl a);rw[Ww d]at a|-;unfold uS at a|-;cases hq:iY e.dH e.c.mss with
  |none=>exact .inl rfl
  |some p=>
   rw[hq]at a;dsimp only at a|-;by_cases f:e.fP=false/\e.cc.win.cr<gq e.led+p.body.length
   (.rw[aB f];exact .inl rfl);rw[Ww f]at a|-;by_cases g:e.c.dO<e.led.next
   (.rw[aB g];exact .inr rfl);rw[Ww g]at a|-;by_cases i:eu e.led<1
   (.rw[aB i];exact .inl rfl);rw[Ww i]at a|-;by_cases j:vw e.fM e.c.gD e.now p.body.length=true
   .rw[aB j]at a;exact Wy rfl a
   .rw[Ww j];exact .inl rfl
 rcases k with b|b
 .unfold Quiet;rw[b];exact⟨a,b⟩
 .unfold Quiet
  rw[vk (WQ e).en,aB b];exact⟨show¬((9:Int)=0) by decide,rfl⟩
theorem Za {e:En} (g:Gu) (h:Quiet e):Quiet (sx g e.told e.cO e):=by
 obtain⟨b,d⟩:=h;by_cases c:Yn e=true
 .unfold Quiet
  rw[vk,Ta,aB c];exact⟨show¬((9:Int)=0) by decide,rfl⟩
 .have a:¬0<e.cO:=λa=>by
   rw[vk,Ww c,aB a]at b;exact b rfl
  unfold Quiet;rw[Y6 g e.told e.cO e a a];refine⟨b,?_⟩;show sx g e.told e.cO (WQ e).en=_;rw[d]
def GS (e:En):Prop:=e.gu.over=true->e.aS=4
theorem gs_new (c:Cf) (words:List Int):GS (nK c words):=λh=>by cases h
theorem Mi {e:En} (h:GS e) (now:Int):GS (nO e now):=h
theorem QC {e:En} (h:GS e) (b:List Int):GS (fU e b).en:=by
 unfold fU;split
 .exact h
 .exact h
theorem QE {e:En} (h:GS e):GS (kF e).en:=by
 unfold kF;split
 .exact h
 .next c=>
  intro a;have:=h a;exact Wy (by rw[this];decide) c
theorem Zc {e:En} (h:GS e) (c:¬Yn e=true):e.gu.over=false:=by
 cases ho:e.gu.over with
 |false=>rfl
 |true=>exact Wy (by unfold Yn;rw[h ho];rfl) c
theorem Xr (e:En) (l:Int) (b:Bool):(kD e l b).aS=e.aS:=by cases b<;>rfl
theorem zZ:∀(b:List Int) (a:En),(b.foldl jT a).aS=a.aS
 |[],_=>rfl
 |x::t,a=>zZ t (jT a x)
theorem UB (e:En):(iB e).en.aS=e.aS:=zZ (qi e).lost {e with gU:=(qi e).next}
theorem QD {e:En} (h:GS e):GS (jE e):=by
 have f:=(LM e e.now).1;have d:(jE e).aS=e.aS:=by
  rw[Bi];split
  (.rfl);split
  .show(kD _ _ _).aS=_
   rw[Xr,UB]
  split
  .split<;>rfl
  .rfl
 have c:(jE e).gu=e.gu:=by
  have a:=Hr e.gu e.told e.cO e;rw[<-yC]at a;rw[a];rfl
 intro b;rw[c]at b;rw[d];exact h b
theorem Jq {e:En} (h:GS e):GS (WQ e).en:=by
 rw[vk];split
 .exact h
 next c=>
 split
 .exact h
 .have b:=(PT e).1
  intro a;rw[b,Zc h c]at a;cases a
theorem gs_on1 {e:En} (h:GS e) (b:List Int):GS (xw e b).en:=by
 rw[Gc];split
 .exact h
 next c=>
 dsimp only;have d:=Zc h c;intro a;rw[(Qa _ _ _).1]at a;have f:(dN e.gu e.led b e.now).ver.kind=3:=by
  change (dN e.gu e.led b e.now).gu.over=true at a;revert a;unfold dN;rw[d];rw[Ww dC];split
  (.intro a;exact Wy (show false=true from a) dC);split
  (.intro a;exact Wy (show false=true from a) dC);dsimp only;split
  .intro _;rfl
  .intro a;exact Wy (show false=true from a) dC
 unfold onE;rw[aB f]
theorem Y5 {e:En} {b:List Int} (h:GS e) (hb:(jy b).err≠0):
  (xw e b).en=(if Yn e=true then e else sx {e.gu with n:={e.gu.n with dB:=e.gu.n.dB+1}} e.told e.cO e):=by
 rw[Gc];by_cases a:Yn e=true
 .rw[aB a,aB a]
 .rw[Ww a,Ww a]
  have d:=Zc h a;have c:dN e.gu e.led b e.now=⟨⟨1,1,0,false⟩,akZ,{e.gu with n:={e.gu.n with dB:=e.gu.n.dB+1}},e.led⟩:=by
   unfold dN;rw[Ww (by rw[d];decide),aB hb]
  rw[c];rfl
def u3V (x:Int):List Value:=[.int .u32 x]
theorem RB (x:Int):(u3V x).length=1:=rfl
theorem Sc (S:X4) (a:X5) (c:Nat) (k:List Int) (i:Nat) (r:i<=100) (w:World) (h:Row w S t 1 a k.length (k.flatMap u3V)) (e:U32 k):
  Yk 33 #[.slice a k.length c,jI i] w λl o=>l=.returned (uI (atI k i))/\w=o:=by
 have u:¬((i:Int)<0):=oM;by_cases d:i<k.length
 .obtain⟨j,n,rfl,_,v,f⟩:=h.at_ oM
  (have b:atI k i=k[i]:=by unfold atI;rw[getD_at d]);(have z:w.cell? ⟨j,n+i,none⟩=some (.int .u32 k[i]):=by have:=f (i*1) _ (mr RB k i 0 d oM);rw[Nat.mul_one]at this;exact this);obtain⟨p,q⟩:=e _ (aN d);rw[b];generalize k[i]=g at*
  have x:(i:Int)<(k.length:Int):=oM;have m:¬((k.length:Int)<=(i:Int)):=oM;(have y:IntKind.u64.wrap g=g:=by simp[IntKind.wrap,IntKind.bits,IntKind.signed];omega);have s:(0:Int)<=(i:Int):=oM;clear h e f b;go_enter Tryz.func33,Tryz.ntmps33;go_wp2;go_ret;exact⟨rfl,rfl⟩
 .have b:atI k i=0:=by unfold atI;rw[aW,List.getElem?_eq_none oM];rfl
  rw[b];have m:(k.length:Int)<=(i:Int):=oM;clear h e b;go_enter Tryz.func33,Tryz.ntmps33;go_wp2;go_ret;exact⟨rfl,rfl⟩
theorem MZ {tw:TypeId} (S:X4) (a:X5) (c:Nat) (l:List Int) (w:World) (h:Wot tw w S a l) (z:l.length<=c):
  Yk 16 #[.slice a l.length c,jI 60] w λq o=>(∃g,q=.returned (.slice g (l.take 60).length c)/\Wot tw o S g (l.take 60))/\w=o:=by
 obtain⟨D,j,u,n,v⟩:=info_parts (show(prog.info? 30).map (λf=>(f.zero,f.size,f.bytes))=some (some (uI 0),1,8) by kernel_rfl);have i:l.take 60=l.take (min l.length 60):=by
  rcases Nat.le_total l.length 60 with d|d
  .rw[fJ d,dM,List.take_of_length_le d]
  .rw[Nat.min_eq_right d]
 rw[i];have C:min (l.length:Int) 60=((min l.length 60:Nat):Int):=oM;have B:min l.length 60<=c:=oM;have m:min l.length 60<=l.length:=oM;have A:min l.length 60<=60:=oM;generalize min l.length 60=b at*
 (have e:(l.take b).length=b:=by rw[aT];omega);rw[e];have hcut:∀w,(Instr.slice 23 (.slice a l.length c) none (some (jI (b:Int))) none).run prog w=.ok (.slice (fE a c 0 1) b c) w:=λw=>by
  have h:=tY (P:=prog) qH.ht j a l.length c b oM w;rw[n]at h;exact h
 have p:=zH (show Wot tw w S (fE a c 0 1) (l.take b)from by
  have t:=Row.take h (k:=b) m;have s:=t.drop (k:=0) oM (a':=fE a c 0 1) (λ_ x E r=>by
   subst r;unfold fE;split
   .simp
   .simp[Go.WideShapes.add_plain])
  unfold Wot;rw[e,pQ qH.len];simpa using s)
 generalize fE a c 0 1=y at*
 clear h i j u n v e m;go_enter Tryz.func16,Tryz.ntmps16;go_wp2;go_ret;exact⟨⟨_,rfl,p.o⟩,rfl⟩
abbrev cfL (c:Cf):Array Value:= #[jI c.bits,uI c.one,jI c.ring,uI c.dO,jI c.room,uI c.mss,uI c.jD,uI c.bn,uI c.most,jI c.pX,uI c.first,uI c.jc,uI c.cap,uI c.gD,uI c.WL,jI c.bE,uI c.every]
abbrev cfZ:Cf:=⟨0,0,0,0,0,0,0,0,0,0,0,0,0,0,0,0,0⟩
structure Lc (w W:World) (b2 b3:Nat) (C:Cf):Prop where
 h2:Blk W b2 32 (cfL cfZ)
 hb:Blk W b3 32 (cfL C)
 hB:bW w W
 q2:w.heap.size<=b2
 q3:w.heap.size<=b3
 n:b2≠b3
section
variable {w W:World} {b2 b3:Nat} {C:Cf}
theorem Lc.set (h:Lc w W b2 b3 C) (k:Nat) (v:Value) (a:Cf) (e:(cfL C).setIfInBounds k v=cfL a):Lc w (W.setCell ⟨b3,k,none⟩ v) b2 b3 a:=
 ⟨h.h2.far h.n _,e▸h.hb.bF k v,bG h.hB h.q3 _,h.q2,h.q3,h.n⟩
theorem Lc.drewN (h:Lc w W b2 b3 C) (n:Nat):Lc w (W.drewN n) b2 b3 C:=⟨h.h2.drewN n,h.hb.drewN n,aA h.hB n,h.q2,h.q3,h.n⟩
end
theorem JR (S:X4) (a:X5) (c:Nat) (k:List Int) (w:World) (h:Row w S t 1 a k.length (k.flatMap u3V)) (a4:U32 k):
  Yk 9 #[.slice a k.length c] w λj F=>j=.returned (.agg #[jI (fV k).bits,uI (fV k).one,jI (fV k).ring,uI (fV k).dO,jI (fV k).room,uI (fV k).mss,uI (fV k).jD,uI (fV k).bn,uI (fV k).most,jI (fV k).pX,uI (fV k).first,uI (fV k).jc,uI (fV k).cap,uI (fV k).gD,uI (fV k).WL,jI (fV k).bE,uI (fV k).every])/\bW w F:=by
 obtain⟨b,c0⟩:=eX (atI k);have X:=λ(N:Nat) (f9:N<=100) F (f8:bW w F)=>Sc S a c k N f9 F (aD h f8) a4;have a0:=λN=>LA a4 N;obtain⟨c5,I⟩:=eX (fV k);rw[<-I];unfold fV at I;rw[<-c0]at X a0 I;obtain⟨o,Y⟩:=eX ((if b 4%4=1 then 1+b 4/4%64 else 64));obtain⟨p,a1⟩:=eX ((if 0<b 5%4 then 2+b 5/4%30 else 0));obtain⟨r,a3⟩:=eX ((if b 7%4=1 then b 7/4%60 else 4611686018427387903));rw[<-Y,<-a1,<-a3]at I;obtain⟨q,i,c3,b0,b1,b4⟩:=Fy X a0 I Y a1 a3;clear X a0 I Y a1 a3 h a4 c0;go_enter Tryz.func9,Tryz.ntmps9;go_wp2_with fail;obtain⟨e3,L⟩:=eX ((w.alloc (.cells #[jI 0,uI 0,jI 0,uI 0,jI 0,uI 0,uI 0,uI 0,uI 0,jI 0,uI 0,uI 0,uI 0,uI 0,uI 0,jI 0,uI 0] 32)).alloc (.cells #[jI 0,uI 0,jI 0,uI 0,jI 0,uI 0,uI 0,uI 0,uI 0,jI 0,uI 0,uI 0,uI 0,uI 0,uI 0,jI 0,uI 0] 32));rw[<-L];obtain⟨b2,U⟩:=eX w.heap.size;obtain⟨b3,V⟩:=eX (w.heap.size+1);have d:=zH (show Lc w e3 b2 b3 cfZ from⟨by rw[L,U];exact(Wx _ _ _).alloc _,by rw[L,V];exact Blk.qN _ _ _ _,by rw[L];exact BEL,oM,oM,oM⟩);rw[<-V,<-U];clear L U V;refine(q.o 0 oM _ d.o.hB).mono ?_;rintro j u ⟨rfl,rfl⟩;obtain⟨f,g⟩:=i.o 0;have K:_=some (uI (0)):=d.o.hb.cell 5;have M:=d.o.hb.frozen 5;have l:=d.o.hb.lt;have n:0<=1+b 0%40:=oM;have m:1+b 0%40<9223372036854775808:=oM;have u0:1+b 0%40<18446744073709551616:=oM;go_wp2_with fail;generalize e:World.setCell _ ⟨b3,5,none⟩ _=c6;replace d:=zH (show Lc w c6 b2 b3 ⟨0,0,0,0,0,1+b 0%40,0,0,0,0,0,0,0,0,0,0,0⟩from by rw[<-e];exact(d.o.set 5 (uI (1+b 0%40)) ⟨0,0,0,0,0,1+b 0%40,0,0,0,0,0,0,0,0,0,0,0⟩ rfl));clear e l K M n m u0 f g;obtain⟨f,g⟩:=i.o 1;obtain⟨v,x⟩:=i.o 0;obtain⟨y,z⟩:=i.o 1;obtain⟨A,B⟩:=i.o 2;have s:=zH (q.o 1 oM);have T:_=some (uI (0)):=d.o.hb.cell 7;have a9:=d.o.hb.frozen 7;have K:_=some (uI (1+b 0%40)):=d.o.hb.cell 5;have M:=d.o.hb.frozen 5;have l:=d.o.hb.lt;have n:0<=2*(1+b 0%40):=oM;have m:2*(1+b 0%40)<9223372036854775808:=oM;have u0:2*(1+b 0%40)<18446744073709551616:=oM;have G:0<=2*(1+b 0%40)+b 1%50:=oM;have E:2*(1+b 0%40)+b 1%50<9223372036854775808:=oM;have u1:2*(1+b 0%40)+b 1%50<18446744073709551616:=oM;clear v x y z A B;refine bP 8 kR kR ?_;refine mD ?_;(repeat (go_big_quiet_step (((go_at_call 33;exact aJ ((s.o _ (aA d.o.hB _)).mono λj F h=>⟨h.1,h.2.symm⟩))))));refine aK ?_;rintro _ ⟨D,rfl⟩;refine dA rfl rfl ?_;go_simp;refine aK ?_;generalize e:World.setCell _ ⟨b3,7,none⟩ _=d5;replace d:=zH (show Lc w d5 b2 b3 ⟨0,0,0,0,0,1+b 0%40,0,2*(1+b 0%40)+b 1%50,0,0,0,0,0,0,0,0,0⟩from by rw[<-e];exact((d.o.drewN D).set 7 (uI (2*(1+b 0%40)+b 1%50)) ⟨0,0,0,0,0,1+b 0%40,0,2*(1+b 0%40)+b 1%50,0,0,0,0,0,0,0,0,0⟩ rfl));clear e l T a9 K M n m u0 G E u1 f g s;go_wp2_with fail;obtain⟨f,g⟩:=i.o 2;obtain⟨v,x⟩:=i.o 0;obtain⟨y,z⟩:=i.o 1;obtain⟨A,B⟩:=i.o 2;have s:=zH (q.o 2 oM);have R:_=some (uI (0)):=d.o.hb.cell 6;have a8:=d.o.hb.frozen 6;have T:_=some (uI (2*(1+b 0%40)+b 1%50)):=d.o.hb.cell 7;have a9:=d.o.hb.frozen 7;have l:=d.o.hb.lt;have n:0<=2*(1+b 0%40)+b 1%50+b 2%100:=oM;have m:2*(1+b 0%40)+b 1%50+b 2%100<9223372036854775808:=oM;have u0:2*(1+b 0%40)+b 1%50+b 2%100<18446744073709551616:=oM;clear v x y z A B;refine bP 7 kR kR ?_;refine mD ?_;(repeat (go_big_quiet_step (((go_at_call 33;exact aJ ((s.o _ (aA d.o.hB _)).mono λj F h=>⟨h.1,h.2.symm⟩))))));refine aK ?_;rintro _ ⟨D,rfl⟩;refine dA rfl rfl ?_;go_simp;refine aK ?_;generalize e:World.setCell _ ⟨b3,6,none⟩ _=d6;replace d:=zH (show Lc w d6 b2 b3 ⟨0,0,0,0,0,1+b 0%40,2*(1+b 0%40)+b 1%50+b 2%100,2*(1+b 0%40)+b 1%50,0,0,0,0,0,0,0,0,0⟩from by rw[<-e];exact((d.o.drewN D).set 6 (uI (2*(1+b 0%40)+b 1%50+b 2%100)) ⟨0,0,0,0,0,1+b 0%40,2*(1+b 0%40)+b 1%50+b 2%100,2*(1+b 0%40)+b 1%50,0,0,0,0,0,0,0,0,0⟩ rfl));clear e l R a8 T a9 n m u0 f g s;go_wp2_with fail;obtain⟨f,g⟩:=i.o 3;obtain⟨v,x⟩:=i.o 0;obtain⟨y,z⟩:=i.o 1;obtain⟨A,B⟩:=i.o 2;have s:=zH (q.o 3 oM);have f3:_=some (uI (0)):=d.o.hb.cell 8;have g8:=d.o.hb.frozen 8;have R:_=some (uI (2*(1+b 0%40)+b 1%50+b 2%100)):=d.o.hb.cell 6;have a8:=d.o.hb.frozen 6;have l:=d.o.hb.lt;have n:0<=2*(1+b 0%40)+b 1%50+b 2%100+b 3%400:=oM;have m:2*(1+b 0%40)+b 1%50+b 2%100+b 3%400<9223372036854775808:=oM
 have u0:2*(1+b 0%40)+b 1%50+b 2%100+b 3%400<18446744073709551616:=oM;clear v x y z A B;refine bP 7 kR kR ?_;refine mD ?_;(repeat (go_big_quiet_step (((go_at_call 33;exact aJ ((s.o _ (aA d.o.hB _)).mono λj F h=>⟨h.1,h.2.symm⟩))))));refine aK ?_;rintro _ ⟨D,rfl⟩;refine dA rfl rfl ?_;go_simp;refine aK ?_;generalize e:World.setCell _ ⟨b3,8,none⟩ _=d7;replace d:=zH (show Lc w d7 b2 b3 ⟨0,0,0,0,0,1+b 0%40,2*(1+b 0%40)+b 1%50+b 2%100,2*(1+b 0%40)+b 1%50,2*(1+b 0%40)+b 1%50+b 2%100+b 3%400,0,0,0,0,0,0,0,0⟩from by rw[<-e];exact((d.o.drewN D).set 8 (uI (2*(1+b 0%40)+b 1%50+b 2%100+b 3%400)) ⟨0,0,0,0,0,1+b 0%40,2*(1+b 0%40)+b 1%50+b 2%100,2*(1+b 0%40)+b 1%50,2*(1+b 0%40)+b 1%50+b 2%100+b 3%400,0,0,0,0,0,0,0,0⟩ rfl));clear e l f3 g8 R a8 n m u0 f g s;obtain⟨f,g⟩:=i.o 0;have O:_=some (jI (0)):=d.o.hb.cell 0;have a5:=d.o.hb.frozen 0;have l:=d.o.hb.lt;go_wp2_with fail;generalize e:World.setCell _ ⟨b3,0,none⟩ _=d8;replace d:=zH (show Lc w d8 b2 b3 ⟨64,0,0,0,0,1+b 0%40,2*(1+b 0%40)+b 1%50+b 2%100,2*(1+b 0%40)+b 1%50,2*(1+b 0%40)+b 1%50+b 2%100+b 3%400,0,0,0,0,0,0,0,0⟩from by rw[<-e];exact(d.o.set 0 (jI (64)) ⟨64,0,0,0,0,1+b 0%40,2*(1+b 0%40)+b 1%50+b 2%100,2*(1+b 0%40)+b 1%50,2*(1+b 0%40)+b 1%50+b 2%100+b 3%400,0,0,0,0,0,0,0,0⟩ rfl));clear e l O a5 f g;refine(q.o 4 oM _ d.o.hB).mono ?_;rintro j u ⟨rfl,rfl⟩;obtain⟨f,g⟩:=i.o 4;go_upto_if 35 with fail;clear f g;go_cut [] (λwx=>X3 (Lc w wx b2 b3 ⟨o,0,0,0,0,1+b 0%40,2*(1+b 0%40)+b 1%50+b 2%100,2*(1+b 0%40)+b 1%50,2*(1+b 0%40)+b 1%50+b 2%100+b 3%400,0,0,0,0,0,0,0,0⟩));case first=>
  by_cases b6:b 4%4=1
  .have H:(b 4%4==1)=true:=sO
   go_wp2_with fail;clear H;refine(q.o 4 oM _ d.o.hB).mono ?_;rintro j u ⟨rfl,rfl⟩;obtain⟨f,g⟩:=i.o 4;have O:_=some (jI (64)):=d.o.hb.cell 0;have a5:=d.o.hb.frozen 0;have l:=d.o.hb.lt;have n:0<=b 4/4%64:=oM;have m:b 4/4%64<9223372036854775808:=oM;have u0:b 4/4%64<18446744073709551616:=oM;have G:0<=1+b 4/4%64:=oM;have E:1+b 4/4%64<9223372036854775808:=oM;have u1:1+b 4/4%64<18446744073709551616:=oM;go_wp2_with fail;generalize e:World.setCell _ ⟨b3,0,none⟩ _=d9;replace d:=zH (show Lc w d9 b2 b3 ⟨1+b 4/4%64,0,0,0,0,1+b 0%40,2*(1+b 0%40)+b 1%50+b 2%100,2*(1+b 0%40)+b 1%50,2*(1+b 0%40)+b 1%50+b 2%100+b 3%400,0,0,0,0,0,0,0,0⟩from by rw[<-e];exact(d.o.set 0 (jI (1+b 4/4%64)) ⟨1+b 4/4%64,0,0,0,0,1+b 0%40,2*(1+b 0%40)+b 1%50+b 2%100,2*(1+b 0%40)+b 1%50,2*(1+b 0%40)+b 1%50+b 2%100+b 3%400,0,0,0,0,0,0,0,0⟩ rfl));clear e l O a5 n m u0 G E u1 f g;(try go_wp2_with fail);go_meet;have j:=b0.o;rw[aB oM]at j;rw[j];exact d
  .have H:(b 4%4==1)=false:=sO
   go_wp2;go_meet;have j:=b0.o;rw[Ww oM]at j;rw[j];exact d
 case rest=>
  clear d;have d:=hcut;clear hcut;go_wp2_with fail;refine Yd (q.o 5 oM _ d.o.hB) ?_;intro u rfl;obtain⟨f,g⟩:=i.o 5;go_upto_if 46 with fail;clear f g;go_cut [] (λwx=>X3 (Lc w wx b2 b3 ⟨o,p,0,0,0,1+b 0%40,2*(1+b 0%40)+b 1%50+b 2%100,2*(1+b 0%40)+b 1%50,2*(1+b 0%40)+b 1%50+b 2%100+b 3%400,0,0,0,0,0,0,0,0⟩));case first=>
   by_cases b6:0<b 5%4
   .have H:(decide (0<b 5%4))=true:=sO
    go_wp2_with fail;clear H;refine(q.o 5 oM _ d.o.hB).mono ?_;rintro j u ⟨rfl,rfl⟩;obtain⟨f,g⟩:=i.o 5;have e5:_=some (uI (0)):=d.o.hb.cell 1;have g0:=d.o.hb.frozen 1;have l:=d.o.hb.lt;have n:0<=2+b 5/4%30:=oM;have m:2+b 5/4%30<9223372036854775808:=oM;have u0:2+b 5/4%30<18446744073709551616:=oM;go_wp2_with fail;generalize e:World.setCell _ ⟨b3,1,none⟩ _=e0;replace d:=zH (show Lc w e0 b2 b3 ⟨o,2+b 5/4%30,0,0,0,1+b 0%40,2*(1+b 0%40)+b 1%50+b 2%100,2*(1+b 0%40)+b 1%50,2*(1+b 0%40)+b 1%50+b 2%100+b 3%400,0,0,0,0,0,0,0,0⟩from by rw[<-e];exact(d.o.set 1 (uI (2+b 5/4%30)) ⟨o,2+b 5/4%30,0,0,0,1+b 0%40,2*(1+b 0%40)+b 1%50+b 2%100,2*(1+b 0%40)+b 1%50,2*(1+b 0%40)+b 1%50+b 2%100+b 3%400,0,0,0,0,0,0,0,0⟩ rfl));clear e l e5 g0 n m u0 f g;(try go_wp2_with fail);go_meet;have j:=b1.o;rw[aB oM]at j;rw[j];exact d
   .have H:(decide (0<b 5%4))=false:=sO
    go_wp2;go_meet;have j:=b1.o;rw[Ww oM]at j;rw[j];exact d
  case rest=>
   clear d;have d:=hcut;clear hcut;go_wp2_with fail;refine Yd (q.o 6 oM _ d.o.hB) ?_;intro u rfl;obtain⟨f,g⟩:=i.o 6;have f1:_=some (jI (0)):=d.o.hb.cell 2;have g6:=d.o.hb.frozen 2;have Q:_=some (uI (0)):=d.o.hb.cell 3;have a7:=d.o.hb.frozen 3;have l:=d.o.hb.lt;have n:0<=b 6%40:=oM;have m:b 6%40<9223372036854775808:=oM;have u0:b 6%40<18446744073709551616:=oM;have G:0<=4+b 6%40:=oM;have E:4+b 6%40<9223372036854775808:=oM;have u1:4+b 6%40<18446744073709551616:=oM;go_wp2_with fail;generalize e:World.setCell (World.setCell _ ⟨b3,2,none⟩ _) ⟨b3,3,none⟩ _=e1;replace d:=zH (show Lc w e1 b2 b3 ⟨o,p,4+b 6%40,4611686018427387903,0,1+b 0%40,2*(1+b 0%40)+b 1%50+b 2%100,2*(1+b 0%40)+b 1%50,2*(1+b 0%40)+b 1%50+b 2%100+b 3%400,0,0,0,0,0,0,0,0⟩from by rw[<-e];exact((d.o.set 2 (jI (4+b 6%40)) ⟨o,p,4+b 6%40,0,0,1+b 0%40,2*(1+b 0%40)+b 1%50+b 2%100,2*(1+b 0%40)+b 1%50,2*(1+b 0%40)+b 1%50+b 2%100+b 3%400,0,0,0,0,0,0,0,0⟩ rfl).set 3 (uI (4611686018427387903)) ⟨o,p,4+b 6%40,4611686018427387903,0,1+b 0%40,2*(1+b 0%40)+b 1%50+b 2%100,2*(1+b 0%40)+b 1%50,2*(1+b 0%40)+b 1%50+b 2%100+b 3%400,0,0,0,0,0,0,0,0⟩ rfl));clear e l f1 g6 Q a7 n m u0 G E u1 f g;refine(q.o 7 oM _ d.o.hB).mono ?_;rintro j u ⟨rfl,rfl⟩;obtain⟨f,g⟩:=i.o 7;go_upto_if 63 with fail;clear f g;go_cut [] (λwx=>X3 (Lc w wx b2 b3 ⟨o,p,4+b 6%40,r,0,1+b 0%40,2*(1+b 0%40)+b 1%50+b 2%100,2*(1+b 0%40)+b 1%50,2*(1+b 0%40)+b 1%50+b 2%100+b 3%400,0,0,0,0,0,0,0,0⟩));case first=>
    by_cases b6:b 7%4=1
    .have H:(b 7%4==1)=true:=sO
     go_wp2_with fail;clear H;refine(q.o 7 oM _ d.o.hB).mono ?_;rintro j u ⟨rfl,rfl⟩;obtain⟨f,g⟩:=i.o 7;have Q:_=some (uI (4611686018427387903)):=d.o.hb.cell 3;have a7:=d.o.hb.frozen 3;have l:=d.o.hb.lt;have n:0<=b 7/4%60:=oM;have m:b 7/4%60<9223372036854775808:=oM;have u0:b 7/4%60<18446744073709551616:=oM;go_wp2_with fail;generalize e:World.setCell _ ⟨b3,3,none⟩ _=e2;replace d:=zH (show Lc w e2 b2 b3 ⟨o,p,4+b 6%40,b 7/4%60,0,1+b 0%40,2*(1+b 0%40)+b 1%50+b 2%100,2*(1+b 0%40)+b 1%50,2*(1+b 0%40)+b 1%50+b 2%100+b 3%400,0,0,0,0,0,0,0,0⟩from by rw[<-e];exact(d.o.set 3 (uI (b 7/4%60)) ⟨o,p,4+b 6%40,b 7/4%60,0,1+b 0%40,2*(1+b 0%40)+b 1%50+b 2%100,2*(1+b 0%40)+b 1%50,2*(1+b 0%40)+b 1%50+b 2%100+b 3%400,0,0,0,0,0,0,0,0⟩ rfl));clear e l Q a7 n m u0 f g;(try go_wp2_with fail);go_meet;have j:=b4.o;rw[aB oM]at j;rw[j];exact d
    .have H:(b 7%4==1)=false:=sO
     go_wp2;go_meet;have j:=b4.o;rw[Ww oM]at j;rw[j];exact d
   case rest=>
    clear d;have d:=hcut;clear hcut;go_wp2_with fail;refine Yd (q.o 8 oM _ d.o.hB) ?_;intro u rfl;obtain⟨f,g⟩:=i.o 8;have f2:_=some (jI (0)):=d.o.hb.cell 4;have g7:=d.o.hb.frozen 4;have l:=d.o.hb.lt;have n:0<=b 8%300:=oM;have m:b 8%300<9223372036854775808:=oM;have u0:b 8%300<18446744073709551616:=oM;have G:0<=1+b 8%300:=oM;have E:1+b 8%300<9223372036854775808:=oM;have u1:1+b 8%300<18446744073709551616:=oM;go_wp2_with fail;generalize e:World.setCell _ ⟨b3,4,none⟩ _=c7;replace d:=zH (show Lc w c7 b2 b3 ⟨o,p,4+b 6%40,r,1+b 8%300,1+b 0%40,2*(1+b 0%40)+b 1%50+b 2%100,2*(1+b 0%40)+b 1%50,2*(1+b 0%40)+b 1%50+b 2%100+b 3%400,0,0,0,0,0,0,0,0⟩from by rw[<-e];exact(d.o.set 4 (jI (1+b 8%300)) ⟨o,p,4+b 6%40,r,1+b 8%300,1+b 0%40,2*(1+b 0%40)+b 1%50+b 2%100,2*(1+b 0%40)+b 1%50,2*(1+b 0%40)+b 1%50+b 2%100+b 3%400,0,0,0,0,0,0,0,0⟩ rfl));clear e l f2 g7 n m u0 G E u1 f g;refine(q.o 9 oM _ d.o.hB).mono ?_;rintro j u ⟨rfl,rfl⟩;obtain⟨f,g⟩:=i.o 9;have f4:_=some (jI (0)):=d.o.hb.cell 9;have g9:=d.o.hb.frozen 9;have l:=d.o.hb.lt;have n:0<=b 9%2:=oM;have m:b 9%2<9223372036854775808:=oM;have u0:b 9%2<18446744073709551616:=oM;have G:0<=1+b 9%2:=oM;have E:1+b 9%2<9223372036854775808:=oM;have u1:1+b 9%2<18446744073709551616:=oM;go_wp2_with fail;generalize e:World.setCell _ ⟨b3,9,none⟩ _=c8;replace d:=zH (show Lc w c8 b2 b3 ⟨o,p,4+b 6%40,r,1+b 8%300,1+b 0%40,2*(1+b 0%40)+b 1%50+b 2%100,2*(1+b 0%40)+b 1%50,2*(1+b 0%40)+b 1%50+b 2%100+b 3%400,1+b 9%2,0,0,0,0,0,0,0⟩from by rw[<-e];exact(d.o.set 9 (jI (1+b 9%2)) ⟨o,p,4+b 6%40,r,1+b 8%300,1+b 0%40,2*(1+b 0%40)+b 1%50+b 2%100,2*(1+b 0%40)+b 1%50,2*(1+b 0%40)+b 1%50+b 2%100+b 3%400,1+b 9%2,0,0,0,0,0,0,0⟩ rfl));clear e l f4 g9 n m u0 G E u1 f g;refine(q.o 10 oM _ d.o.hB).mono ?_;rintro j u ⟨rfl,rfl⟩;obtain⟨f,g⟩:=i.o 10;have e6:_=some (uI (0)):=d.o.hb.cell 10;have g1:=d.o.hb.frozen 10;have l:=d.o.hb.lt;have n:0<=1+b 10%200000:=oM;have m:1+b 10%200000<9223372036854775808:=oM;have u0:1+b 10%200000<18446744073709551616:=oM;go_wp2_with fail;generalize e:World.setCell _ ⟨b3,10,none⟩ _=c9;replace d:=zH (show Lc w c9 b2 b3 ⟨o,p,4+b 6%40,r,1+b 8%300,1+b 0%40,2*(1+b 0%40)+b 1%50+b 2%100,2*(1+b 0%40)+b 1%50,2*(1+b 0%40)+b 1%50+b 2%100+b 3%400,1+b 9%2,1+b 10%200000,0,0,0,0,0,0⟩from by rw[<-e];exact(d.o.set 10 (uI (1+b 10%200000)) ⟨o,p,4+b 6%40,r,1+b 8%300,1+b 0%40,2*(1+b 0%40)+b 1%50+b 2%100,2*(1+b 0%40)+b 1%50,2*(1+b 0%40)+b 1%50+b 2%100+b 3%400,1+b 9%2,1+b 10%200000,0,0,0,0,0,0⟩ rfl));clear e l e6 g1 n m u0 f g;refine(q.o 11 oM _ d.o.hB).mono ?_;rintro j u ⟨rfl,rfl⟩;obtain⟨f,g⟩:=i.o 11;have P:_=some (uI (0)):=d.o.hb.cell 11;have a6:=d.o.hb.frozen 11;have l:=d.o.hb.lt;have n:0<=1+b 11%2000:=oM;have m:1+b 11%2000<9223372036854775808:=oM;have u0:1+b 11%2000<18446744073709551616:=oM;go_wp2_with fail;generalize e:World.setCell _ ⟨b3,11,none⟩ _=d0;replace d:=zH (show Lc w d0 b2 b3 ⟨o,p,4+b 6%40,r,1+b 8%300,1+b 0%40,2*(1+b 0%40)+b 1%50+b 2%100,2*(1+b 0%40)+b 1%50,2*(1+b 0%40)+b 1%50+b 2%100+b 3%400,1+b 9%2,1+b 10%200000,1+b 11%2000,0,0,0,0,0⟩from by rw[<-e];exact(d.o.set 11 (uI (1+b 11%2000)) ⟨o,p,4+b 6%40,r,1+b 8%300,1+b 0%40,2*(1+b 0%40)+b 1%50+b 2%100,2*(1+b 0%40)+b 1%50,2*(1+b 0%40)+b 1%50+b 2%100+b 3%400,1+b 9%2,1+b 10%200000,1+b 11%2000,0,0,0,0,0⟩ rfl));clear e l P a6 n m u0 f g;obtain⟨f,g⟩:=i.o 12;obtain⟨v,x⟩:=i.o 0;obtain⟨y,z⟩:=i.o 1;obtain⟨A,B⟩:=i.o 2;have s:=zH (q.o 12 oM);obtain⟨f5,f6⟩:=i.o 11;have e7:_=some (uI (0)):=d.o.hb.cell 12;have g2:=d.o.hb.frozen 12;have P:_=some (uI (1+b 11%2000)):=d.o.hb.cell 11;have a6:=d.o.hb.frozen 11;have l:=d.o.hb.lt;have n:0<=1+b 11%2000+b 12%400000:=oM;have m:1+b 11%2000+b 12%400000<9223372036854775808:=oM;have u0:1+b 11%2000+b 12%400000<18446744073709551616:=oM;clear v x y z A B f5 f6;refine bP 7 kR kR ?_;refine mD ?_;(repeat (go_big_quiet_step (((go_at_call 33;exact aJ ((s.o _ (aA d.o.hB _)).mono λj F h=>⟨h.1,h.2.symm⟩))))));refine aK ?_;rintro _ ⟨D,rfl⟩;refine dA rfl rfl ?_;go_simp;refine aK ?_;generalize e:World.setCell _ ⟨b3,12,none⟩ _=d1;replace d:=zH (show Lc w d1 b2 b3 ⟨o,p,4+b 6%40,r,1+b 8%300,1+b 0%40,2*(1+b 0%40)+b 1%50+b 2%100,2*(1+b 0%40)+b 1%50,2*(1+b 0%40)+b 1%50+b 2%100+b 3%400,1+b 9%2,1+b 10%200000,1+b 11%2000,1+b 11%2000+b 12%400000,0,0,0,0⟩from by rw[<-e];exact((d.o.drewN D).set 12 (uI (1+b 11%2000+b 12%400000)) ⟨o,p,4+b 6%40,r,1+b 8%300,1+b 0%40,2*(1+b 0%40)+b 1%50+b 2%100,2*(1+b 0%40)+b 1%50,2*(1+b 0%40)+b 1%50+b 2%100+b 3%400,1+b 9%2,1+b 10%200000,1+b 11%2000,1+b 11%2000+b 12%400000,0,0,0,0⟩ rfl))
    clear e l e7 g2 P a6 n m u0 f g s;go_wp2_with fail;obtain⟨f,g⟩:=i.o 13;obtain⟨v,x⟩:=i.o 0;obtain⟨y,z⟩:=i.o 1;obtain⟨A,B⟩:=i.o 2;have s:=zH (q.o 13 oM);have e8:_=some (uI (0)):=d.o.hb.cell 13;have g3:=d.o.hb.frozen 13;have K:_=some (uI (1+b 0%40)):=d.o.hb.cell 5;have M:=d.o.hb.frozen 5;have l:=d.o.hb.lt;have n:0<=1+b 0%40+b 13%400:=oM;have m:1+b 0%40+b 13%400<9223372036854775808:=oM;have u0:1+b 0%40+b 13%400<18446744073709551616:=oM;clear v x y z A B;refine bP 7 kR kR ?_;refine mD ?_;(repeat (go_big_quiet_step (((go_at_call 33;exact aJ ((s.o _ (aA d.o.hB _)).mono λj F h=>⟨h.1,h.2.symm⟩))))));refine aK ?_;rintro _ ⟨D,rfl⟩;refine dA rfl rfl ?_;go_simp;refine aK ?_;generalize e:World.setCell _ ⟨b3,13,none⟩ _=d2;replace d:=zH (show Lc w d2 b2 b3 ⟨o,p,4+b 6%40,r,1+b 8%300,1+b 0%40,2*(1+b 0%40)+b 1%50+b 2%100,2*(1+b 0%40)+b 1%50,2*(1+b 0%40)+b 1%50+b 2%100+b 3%400,1+b 9%2,1+b 10%200000,1+b 11%2000,1+b 11%2000+b 12%400000,1+b 0%40+b 13%400,0,0,0⟩from by rw[<-e];exact((d.o.drewN D).set 13 (uI (1+b 0%40+b 13%400)) ⟨o,p,4+b 6%40,r,1+b 8%300,1+b 0%40,2*(1+b 0%40)+b 1%50+b 2%100,2*(1+b 0%40)+b 1%50,2*(1+b 0%40)+b 1%50+b 2%100+b 3%400,1+b 9%2,1+b 10%200000,1+b 11%2000,1+b 11%2000+b 12%400000,1+b 0%40+b 13%400,0,0,0⟩ rfl));clear e l e8 g3 K M n m u0 f g s;go_wp2_with fail;refine Yd (q.o 14 oM _ d.o.hB) ?_;intro u rfl;obtain⟨f,g⟩:=i.o 14;have e9:_=some (uI (0)):=d.o.hb.cell 14;have g4:=d.o.hb.frozen 14;have l:=d.o.hb.lt;have n:0<=1+b 14%100000:=oM;have m:1+b 14%100000<9223372036854775808:=oM;have u0:1+b 14%100000<18446744073709551616:=oM;go_wp2_with fail;generalize e:World.setCell _ ⟨b3,14,none⟩ _=d3;replace d:=zH (show Lc w d3 b2 b3 ⟨o,p,4+b 6%40,r,1+b 8%300,1+b 0%40,2*(1+b 0%40)+b 1%50+b 2%100,2*(1+b 0%40)+b 1%50,2*(1+b 0%40)+b 1%50+b 2%100+b 3%400,1+b 9%2,1+b 10%200000,1+b 11%2000,1+b 11%2000+b 12%400000,1+b 0%40+b 13%400,1+b 14%100000,0,0⟩from by rw[<-e];exact(d.o.set 14 (uI (1+b 14%100000)) ⟨o,p,4+b 6%40,r,1+b 8%300,1+b 0%40,2*(1+b 0%40)+b 1%50+b 2%100,2*(1+b 0%40)+b 1%50,2*(1+b 0%40)+b 1%50+b 2%100+b 3%400,1+b 9%2,1+b 10%200000,1+b 11%2000,1+b 11%2000+b 12%400000,1+b 0%40+b 13%400,1+b 14%100000,0,0⟩ rfl));clear e l e9 g4 n m u0 f g;refine(q.o 15 oM _ d.o.hB).mono ?_;rintro j u ⟨rfl,rfl⟩;obtain⟨f,g⟩:=i.o 15;have f0:_=some (jI (0)):=d.o.hb.cell 15;have g5:=d.o.hb.frozen 15;have l:=d.o.hb.lt;have n:0<=b 15%5:=oM;have m:b 15%5<9223372036854775808:=oM;have u0:b 15%5<18446744073709551616:=oM;go_wp2_with fail;generalize e:World.setCell _ ⟨b3,15,none⟩ _=d4;replace d:=zH (show Lc w d4 b2 b3 ⟨o,p,4+b 6%40,r,1+b 8%300,1+b 0%40,2*(1+b 0%40)+b 1%50+b 2%100,2*(1+b 0%40)+b 1%50,2*(1+b 0%40)+b 1%50+b 2%100+b 3%400,1+b 9%2,1+b 10%200000,1+b 11%2000,1+b 11%2000+b 12%400000,1+b 0%40+b 13%400,1+b 14%100000,b 15%5,0⟩from by rw[<-e];exact(d.o.set 15 (jI (b 15%5)) ⟨o,p,4+b 6%40,r,1+b 8%300,1+b 0%40,2*(1+b 0%40)+b 1%50+b 2%100,2*(1+b 0%40)+b 1%50,2*(1+b 0%40)+b 1%50+b 2%100+b 3%400,1+b 9%2,1+b 10%200000,1+b 11%2000,1+b 11%2000+b 12%400000,1+b 0%40+b 13%400,1+b 14%100000,b 15%5,0⟩ rfl));clear e l f0 g5 n m u0 f g;refine(q.o 16 oM _ d.o.hB).mono ?_;rintro j u ⟨rfl,rfl⟩;obtain⟨f,g⟩:=i.o 16;have n:0<=1+b 16%100000:=oM;have m:1+b 16%100000<9223372036854775808:=oM;have u0:1+b 16%100000<18446744073709551616:=oM;obtain⟨C,Z⟩:=eX ((⟨o,p,4+b 6%40,r,1+b 8%300,1+b 0%40,2*(1+b 0%40)+b 1%50+b 2%100,2*(1+b 0%40)+b 1%50,2*(1+b 0%40)+b 1%50+b 2%100+b 3%400,1+b 9%2,1+b 10%200000,1+b 11%2000,1+b 11%2000+b 12%400000,1+b 0%40+b 13%400,1+b 14%100000,b 15%5,1+b 16%100000⟩:Cf));obtain⟨f7,c4⟩:=yx (show(cfL ⟨o,p,4+b 6%40,r,1+b 8%300,1+b 0%40,2*(1+b 0%40)+b 1%50+b 2%100,2*(1+b 0%40)+b 1%50,2*(1+b 0%40)+b 1%50+b 2%100+b 3%400,1+b 9%2,1+b 10%200000,1+b 11%2000,1+b 11%2000+b 12%400000,1+b 0%40+b 13%400,1+b 14%100000,b 15%5,0⟩).setIfInBounds 16 (uI (1+b 16%100000))=cfL C from by rw[Z];rfl) (show c5=C from by rw[Z,c3.o]);clear Z;repeat ((fail_if_success (with_reducible apply eG));first|(refine qR 30 (.tmp 119) (.tmp 118) rfl rfl rfl b3 16 (uI (1+b 16%100000)) kR kR rfl kR d.o.hb (by show 16<17;omega) ?_;intro e4 b9;have J:=zH (show Lc w e4 b2 b3 C from by rw[b9];exact d.o.set 16 _ _ f7.o);clear b9)|(refine kP 32 (.tmp 3) rfl rfl (some 120) rfl b3 kR (cfL C) J.o.hb _ Tryz.underlying32 kR kR ?_)|(refine iG 32 (.tmp 2) (.tmp 120) rfl rfl rfl b2 0 (cfL C) kR kR (J.o.h2.there _ (av 17)) kR (by simp[cfL,Value.oneCell']) ?_;intro b5 a2;have b7:Blk b5 b2 32 (cfL C):=(by rw[a2];exact Blk.gF J.o.h2 (cfL C).toList rfl);have c1:=zH b7;have b8:bW w b5:=(by rw[a2];exact Below.bZ J.o.q2 _ _ _ J.o.hB);have c2:=zH b8;clear a2 b7 b8)|go_values|go_skip|go_guarded|go_step|go_upon|go_back|go_simp)
    (try simp only[Exit.inBlock,Exit.then])
    refine iZ 2 32 b2 (cfL C) kR kR c1.o _ Tryz.underlying32 kR kR rfl ?_;exact⟨by rw[c4.o],c2.o⟩
theorem YF:∀(i:Nat) (c:Int) (d:List Sp) (a:List Int),∃k,k<=a.length/\(Wq i c d a).left=a.drop k
 |0,c,d,a=>⟨0,jV _,rfl⟩
 |i+1,c,d,a=>by
  rw[yE];obtain⟨b,j,e⟩:=YH a;obtain⟨g,p,l⟩:=YH (eZ a).left;(have r:(eZ a).left.length=a.length -b:=by rw[e,bI]);(have f:(eZ (eZ a).left).left=a.drop (b+g):=by rw[l,e,List.drop_drop]);split
  (.exact⟨b,j,e⟩);split
  (.exact⟨b,j,e⟩);split
  (.exact⟨b+g,oM,f⟩);split
  .exact⟨b+g,oM,f⟩
  .obtain⟨o,n,m⟩:=YF i (c+(eZ a).val+(eZ (eZ a).left).val+2) (d++[⟨c+(eZ a).val,c+(eZ a).val+(eZ (eZ a).left).val⟩]) (eZ (eZ a).left).left
   refine⟨b+g+o,by rw[f,bI]at n;omega,?_⟩;rw[m,f,List.drop_drop]
theorem YI (l:List Int) (k:Nat) (g:k<=l.length) (bn:Int):∃c:Nat,(kJ (l.drop k) bn).left=l.drop c/\c<=l.length/\(l.length:Int) -(kJ (l.drop k) bn).left.length=(c:Int):=by
 have h:∃a,a<=(l.drop k).length/\(kJ (l.drop k) bn).left=(l.drop k).drop a:=by
  rcases l.drop k with _|⟨e,f⟩
  .exact⟨0,av _,rfl⟩
  .rw[Aa]
   split
   .exact⟨1,sM,rfl⟩
   .obtain⟨a,d,b⟩:=YF e.toNat 0 [] f
    exact⟨a+1,by simp only[aY];omega,b⟩
 obtain⟨a,d,b⟩:=h;rw[bI]at d;refine⟨k+a,by rw[b,List.drop_drop],oM,?_⟩;rw[b,List.drop_drop,bI];omega
abbrev YG (a1:X5) (n1 c1:Nat) (a2:X5) (n2 c2:Nat) (t x:Int) (p:Bool):Array Value:= #[.slice a1 n1 c1,.slice a2 n2 c2,uI t,uI x,bV p]
abbrev YW:Array Value:=jK
def GkD (w:World) (l:List Int) (e:Ending) (w':World):Prop:=
 ∃b g d c i f k m j a,e=.returned (.tuple #[.agg (YG b g d c i f k m j),jI a])/\((jy l).err=0->a=0)/\bW w w'
theorem GkD.bad (h:(jy l).err≠0) (hb:bW w w'):GkD w l (.returned (.tuple #[.agg YW,jI x])) w':=
 ⟨none,0,0,none,0,0,0,0,false,x,rfl,λa=>Wy a h,hb⟩
structure GkI (w W:World) (z q:Nat) (cs:Array Value):Prop where
 hz:Blk W z 92 YW
 hq:Blk W q 92 cs
 m:bW w W
 lz:w.heap.size<=z
 lq:w.heap.size<=q
 ne:q≠z
section
variable {w W W':World} {z q:Nat} {cs:Array Value}
theorem GkI.below (h:GkI w W z q cs) (hb:bW W W'):GkI w W' z q cs:=
 ⟨h.hz.below hb h.hz.lt,h.hq.below hb h.hq.lt,h.m.trans (hb.mono h.m.size),h.lz,h.lq,h.ne⟩
theorem GkI.set (h:GkI w W z q cs) (i:Nat) (u:Value):GkI w (W.setCell ⟨q,i,none⟩ u) z q (cs.setIfInBounds i u):=
 ⟨h.hz.far h.ne.symm _,h.hq.bF i u,h.m.setCell h.lq _,h.lz,h.lq,h.ne⟩
theorem GkI.sps (h:GkI w W z q cs) {S:X4} {a:X5} {l:List Sp} (b:Sps W S a l) (i:Nat) (u:Value):Sps (W.setCell ⟨q,i,none⟩ u) S a l:=
 aG b (ts:=[some 272]) (bQ.setCell h.hq dC i u) sM
end
theorem YZ {tb:TypeId} (S:X4) (a:X5) (c:Nat) (l:List Int) (w:World) (h:Byt tb w S a l) (i8:l.length<=140737488355328) (c4:dP l):
  Yk 28 #[.slice a l.length c] w (GkD w l):=by
 have a1:=zH (λm5 (l6:bW w m5)=>aD h l6);rcases hle:l with _|⟨U,g9⟩
 .subst hle
  go_enter Tryz.func28,Tryz.ntmps28;refine mV ?_;exact GkD.bad dC BEL
 .rw[<-hle]
  (have l9:l.length=g9.length+1:=by rw[hle];rfl);have f5:=c4 U (by rw[hle];exact kT);(have f7:l.drop 1=g9:=by rw[hle];rfl);(have c5:(jy l).err=(if U≠2 then(⟨akZ,4⟩:Rak)else dAs g9).err:=by rw[hle,Fb]);obtain⟨n2,n8,rfl,l8,c7⟩:=h.at_ (aj _ _) (j:=0) oM;(have i9:l[0]'oM=U:=by simp[hle]);rw[i9,Nat.add_zero]at c7;have m8:=f5.1;have m9:=f5.2;have l5:((l.length:Int)==0)=false:=beq_false_of_ne oM;have f1:0<l.length:=oM;by_cases c1:U=2
  .have i5:(U !=2)=false:=by simp[c1]
   obtain⟨h3,T,I⟩:=Av (show(jy l).err=(dAs (l.drop 1)).err by rw[c5,Ww oM,f7]) i8 c4;clear c5 f7 c4 h c1;go_enter Tryz.func28,Tryz.ntmps28;go_upto_region 7 with fail;obtain⟨z,g8⟩:=eX w.heap.size;obtain⟨M,f2⟩:=eX ((w.alloc (.cells YW 92)).alloc (.cells YW 92));obtain⟨q,g5⟩:=eX (z+1);rw[<-g8,<-f2,<-g5];have e3:X3 (GkI w M z q YW):=zH (by rw[f2,g5,g8];exact⟨(Wx w 92 YW).alloc _,by have:=Wx (w.alloc (.cells YW 92)) 92 YW;simpa using this,BEL,av _,Nat.le_succ _,oM⟩);clear g5 f2 g8 c7 l5 i5 m8 m9 l8 hle l9 f5 i9;obtain⟨b6,a6⟩:=eX (kJ (l.drop 1) 1);have d6:=zH (YT S _ c l 1 1 M (a1.o _ e3.o.m) T.o I.o f1 dC);rw[<-a6]at d6;obtain⟨c8,g1,j1,g2⟩:=YI l 1 f1 1;rw[<-a6]at g1 g2;have f9:=Yv (l:=l.drop 1) (bn:=1) (λh2 g6=>I.o h2 (dW g6));rw[<-a6]at f9;have c6:=h3.o;unfold dAs at c6;rw[<-a6]at c6;obtain⟨e5,e1,h4,b3⟩:=Bq g1 g2 f9 c6;clear g1 g2 f9 c6 a6 h3 i8 f1;go_wp2_with fail;refine(d6.o).mono ?_;rintro l4 m6 ⟨k,O,m0,rfl,p,j8,c3⟩;obtain⟨h6,L,b5⟩:=Av j8 p (e3.o.below c3);clear j8 p c3 d6 e3;obtain⟨m,n⟩:=b5.o.hq.cz 0;go_upto_if 25 with fail;obtain⟨N,c2⟩:=eX (m6.setCell ⟨q,0,none⟩ (.slice k b6.val.length O));rw[<-c2];have J:X3 (GkI w N z q (YG k b6.val.length O none 0 0 0 0 false)):=zH (by rw[c2];exact b5.o.set 0 _);have e7:=zH (show Sps N (λe=>M.heap.size<=e) k b6.val by rw[c2];exact b5.o.sps h6.o 0 _);clear c2 m n h6 b5;obtain⟨g,d2,n0⟩:=b6;dsimp only at L e5 e1 h4 b3 J e7|-;by_cases Z:d2=0
   .have m1:(d2 !=0)=false:=by simp[Z]
    have X:=b3.o;rw[Ww oM]at X;have p:=L.o Z;rw[e1.o]at p;subst p;rw[e5.o]at X;obtain⟨b7,a7⟩:=eX (kJ (l.drop c8) 0);have d7:=zH (YT S _ c l c8 0 N (a1.o _ J.o.m) T.o I.o j1 dC);rw[<-a7]at d7;obtain⟨c9,g3,j2,g4⟩:=YI l c8 j1 0;rw[<-a7]at g3 g4;have g0:=Yv (l:=l.drop c8) (bn:=0) (λh2 g6=>I.o h2 (dW g6));rw[<-a7]at g0;unfold dAm at X;rw[<-a7]at X;obtain⟨e6,e2,h5,b4⟩:=Bq g3 g4 g0 X;clear g3 g4 g0 X a7 b3 L e5 e1 Z;go_wp2_with fail;refine(d7.o).mono ?_;rintro l4 m7 ⟨s,V,m0,rfl,p,j9,f3⟩;obtain⟨h7,L,a2,h8⟩:=Bq j9 p (J.o.below f3) (aD e7.o f3);clear j9 p f3 d7 J e7;obtain⟨m,n⟩:=a2.o.hq.cz 1;go_upto_if 37 with fail;obtain⟨a3,a8⟩:=eX (m7.setCell ⟨q,1,none⟩ (.slice s b7.val.length V));rw[<-a8];have r:X3 (GkI w a3 z q (YG k g.length O s b7.val.length V 0 0 false)):=zH (by rw[a8];exact a2.o.set 1 _);obtain⟨e8,e9⟩:=yx (show Sps a3 (λe=>M.heap.size<=e) k g by rw[a8];exact a2.o.sps h8.o 1 _) (show Sps a3 (λe=>N.heap.size<=e) s b7.val by rw[a8];exact a2.o.sps h7.o 1 _);clear a8 m n h7 h8 a2;obtain⟨o,d3,n1⟩:=b7;dsimp only at L e6 e2 h5 b4 r e8 e9|-;by_cases a0:d3=0
    .have m2:(d3 !=0)=false:=by simp[a0]
     have P:=b4.o;rw[Ww oM]at P;have p:=L.o a0;rw[e2.o]at p;subst p;rw[e6.o]at P;unfold dAt at P;obtain⟨d0,j3,j5,j4⟩:=Y0 (l:=l) c9 j2;have u:=zH (YP S _ c l c9 a3 (a1.o _ r.o.m) T.o I.o j2);rw[j4]at u;rw[j3]at P;obtain⟨d1,a9⟩:=eX ((jU (l.drop c9)).val);obtain⟨d4,a5⟩:=eX ((jU (l.drop c9)).err);rw[<-a9,<-a5]at u P;have d8:=zH P;clear P a9 a5 j3 j4 b4 L e6 e2 a0;obtain⟨m,n⟩:=r.o.hq.cz 2;go_wp2_with fail;refine Yd u.o ?_;intro h1 Q;rw[Q];clear Q h1 u;go_upto_if 49 with fail;obtain⟨a4,d⟩:=eX (a3.setCell ⟨q,2,none⟩ (uI d1));rw[<-d];have v:X3 (GkI w a4 z q (YG k g.length O s o.length V d1 0 false)):=zH (by rw[d];exact r.o.set 2 _);obtain⟨h9,i2⟩:=yx (show Sps a4 (λe=>M.heap.size<=e) k g by rw[d];exact r.o.sps e8.o 2 _) (show Sps a4 (λe=>N.heap.size<=e) s o by rw[d];exact r.o.sps e9.o 2 _);clear d m n r e8 e9;by_cases b0:d4=0
     .have m3:(d4 !=0)=false:=by simp[b0]
      have Y:=d8.o;rw[Ww oM]at Y;unfold dAx at Y;obtain⟨i,j6,n6,j7⟩:=Y0 (l:=l) d0 j5;have u:=zH (YP S _ c l d0 a4 (a1.o _ v.o.m) T.o I.o j5);rw[j7]at u;rw[j6]at Y;obtain⟨h0,a9⟩:=eX ((jU (l.drop d0)).val);obtain⟨d5,a5⟩:=eX ((jU (l.drop d0)).err);rw[<-a9,<-a5]at u Y;have d9:=zH Y;clear Y a9 a5 j6 j7 d8 b0;obtain⟨m,n⟩:=v.o.hq.cz 3;go_wp2_with fail;refine Yd u.o ?_;intro h1 Q;rw[Q];clear Q h1 u;go_upto_if 61 with fail;obtain⟨b8,d⟩:=eX (a4.setCell ⟨q,3,none⟩ (uI h0));rw[<-d];have f:X3 (GkI w b8 z q (YG k g.length O s o.length V d1 h0 false)):=zH (by rw[d];exact v.o.set 3 _);obtain⟨i0,i3⟩:=yx (show Sps b8 (λe=>M.heap.size<=e) k g by rw[d];exact v.o.sps h9.o 3 _) (show Sps b8 (λe=>N.heap.size<=e) s o by rw[d];exact v.o.sps i2.o 3 _);clear d m n v h9 i2;by_cases b1:d5=0
      .have m4:(d5 !=0)=false:=by simp[b1]
       have t:=d9.o;rw[Ww oM]at t;have n5:IntKind.i64.wrap ((l.length:Int) -(i:Int))=(l.length:Int) -(i:Int):=eP _ ⟨by have:=T.o;omega,by have:=T.o;omega⟩;clear d9 b1;by_cases f0:i<l.length
       .have l0:decide ((l.length:Int)<=(i:Int))=false:=bJ oM
        have l1:decide (l.length<=i)=false:=bJ oM;rw[aR f0,QS]at t;obtain⟨n3,n9,f4,-,c7⟩:=Byt.at_ (tb:=tb) (S:=S) (a1.o _ f.o.m) (aj _ _) f0;injection f4 with f4;injection f4 with l7 c3;subst l7 c3;have g7:=I.o _ (aN f0);have n7:(l.drop (i+1)).length=l.length -(i+1):=bI;generalize l[i]=b2 at*
        generalize l.drop (i+1)=o0 at*
        have o2:=g7.1;have o3:=g7.2;unfold dAe at t;by_cases c0:1<b2
        .have l2:decide (1<b2)=true:=bM c0
         rw[aB c0]at t;obtain⟨x,y,A,B,C,D,E,F,G,H⟩:=f.o.hz.c5;have b:X3 ((jy l).err≠0):=zH (by rw[t];decide);refine mV ?_;exact GkD.bad b.o (by have:=f.o.m;have:=f.o.lz;exact BEL)
        have l2:decide (1<b2)=false:=bJ c0;rw[Ww c0]at t;obtain⟨m,n⟩:=f.o.hq.cz 4;have e0:=zH t;clear t g7;go_upto_if 85 with fail;obtain⟨b9,d⟩:=eX (b8.setCell ⟨q,4,none⟩ (bV (b2==1)));rw[<-d];have R:X3 (GkI w b9 z q (YG k g.length O s o.length V d1 h0 (b2==1))):=zH (by rw[d];exact f.o.set 4 _);obtain⟨i1,i4⟩:=yx (show Sps b9 (λe=>M.heap.size<=e) k g by rw[d];exact f.o.sps i0.o 4 _) (show Sps b9 (λe=>N.heap.size<=e) s o by rw[d];exact f.o.sps i3.o 4 _);clear d m n f i0 i3 c7;by_cases n4:i+1<l.length
        .have l3:decide ((1:Int)<(l.length:Int) -(i:Int))=true:=bM oM
         obtain⟨x,y,A,B,C,D,E,F,G,H⟩:=R.o.hz.c5;have b:X3 ((jy l).err≠0):=zH (by rw[e0.o,aB oM];decide);refine mV ?_;exact GkD.bad b.o (by have:=R.o.m;have:=R.o.lz;exact BEL)
        have l3:decide ((1:Int)<(l.length:Int) -(i:Int))=false:=bJ oM;have f6:=e0.o;rw[Ww oM]at f6;have e4:=zH (YY _ _ s V o k O g b9 i4.o (by have:=h5.o.2.1;omega) i1.o (by have:=h4.o.2.1;omega));obtain⟨k0,f8⟩:=eX (YV o g);rw[<-f8]at e4;have k9:X3 (k0=false->(jy l).err≠0):=zH (λi7=>by
         have Q:jA o g=false:=by
          cases hc:jA o g with
          |false=>rfl
          |true=>
           unfold jA at hc;have:=YJ o g g (λ_ h=>h) (by simp only[Bool.and_eq_true]at hc;exact hc.2);rw[f8,this]at i7;cases i7
         rw[f6,Q];exact(by decide:(5:Int)≠0))
        clear f6 f8 e0;obtain⟨m,n,k1,k2,k3,k4,k5,k6,k7,k8⟩:=R.o.hq.c5;go_wp2_with fail;refine Yd e4.o ?_;intro o1 i6;have K:=zH (R.o.below i6);clear i6 R e4 i1 i4 m n k1 k2 k3 k4 k5 k6 k7 k8;cases k0 with
        |false=>
         obtain⟨x,y,A,B,C,D,E,F,G,H⟩:=K.o.hz.c5;have b:X3 ((jy l).err≠0):=zH (k9.o rfl);refine mV ?_;exact GkD.bad b.o (by have:=K.o.m;have:=K.o.lz;exact BEL)
        |true=>
         obtain⟨m,n,k1,k2,k3,k4,k5,k6,k7,k8⟩:=K.o.hq.c5;obtain⟨x,y,A,B,C,D,E,F,G,H⟩:=K.o.hz.c5;refine mV ?_;exact⟨_,_,_,_,_,_,_,_,_,0,rfl,λ_=>rfl,by have:=K.o.m;have:=K.o.lz;exact BEL⟩
       .have l0:decide ((l.length:Int)<=(i:Int))=true:=bM oM
        have l1:decide (l.length<=i)=true:=bM oM;rw[List.drop_of_length_le oM,Ss]at t;obtain⟨x,y,A,B,C,D,E,F,G,H⟩:=f.o.hz.c5;have b:X3 ((jy l).err≠0):=zH (by rw[t];decide);refine mV ?_;exact GkD.bad b.o (by have:=f.o.m;have:=f.o.lz;exact BEL)
      .have m4:(d5 !=0)=true:=by simp[b1]
       obtain⟨x,y,A,B,C,D,E,F,G,H⟩:=f.o.hz.c5;have b:X3 ((jy l).err≠0):=zH (by rw[d9.o,aB b1];exact b1);refine mV ?_;exact GkD.bad b.o (by have:=f.o.m;have:=f.o.lz;exact BEL)
     .have m3:(d4 !=0)=true:=by simp[b0]
      obtain⟨x,y,A,B,C,D,E,F,G,H⟩:=v.o.hz.c5;have b:X3 ((jy l).err≠0):=zH (by rw[d8.o,aB b0];exact b0);refine mV ?_;exact GkD.bad b.o (by have:=v.o.m;have:=v.o.lz;exact BEL)
    .have m2:(d3 !=0)=true:=by simp[a0]
     obtain⟨x,y,A,B,C,D,E,F,G,H⟩:=r.o.hz.c5;have b:X3 ((jy l).err≠0):=zH (by rw[b4.o,aB a0];exact a0);refine mV ?_;exact GkD.bad b.o (by have:=r.o.m;have:=r.o.lz;exact BEL)
   .have m1:(d2 !=0)=true:=by simp[Z]
    obtain⟨x,y,A,B,C,D,E,F,G,H⟩:=J.o.hz.c5;have b:X3 ((jy l).err≠0):=zH (by rw[b3.o,aB Z];exact Z);refine mV ?_;exact GkD.bad b.o (by have:=J.o.m;have:=J.o.lz;exact BEL)
  .have i5:(U !=2)=true:=by simp[c1]
   (have j0:(jy l).err≠0:=by rw[c5,aB c1];decide);clear c5 f7 c4;have b:=zH j0;clear j0 h;go_enter Tryz.func28,Tryz.ntmps28;refine mV ?_;exact GkD.bad b.o BEL
end Go.Proofs.YtiflndepmgnojaaGreat
