import Derived.Shelf.SlSortCmp.NoneTotal
import Derived.Lib.SlBytesConst
import Derived.NoCompilerSame
import Derived.Test.YtiflndepmgnojaaGreatRkc
import Derived.Test.YtiflndepmgnojaaGreatShelg
namespace Go.Proofs.YtiflndepmgnojaaGreat
open Go.RowKit Tryz
set_option linter.unusedSimpArgs false
set_option linter.unusedVariables false
set_option maxHeartbeats 8000000
set_option maxRecDepth 100000
variable {L l:List Int} {W w w':World} {b c k n m p:Nat} {K:Act->World->Prop} {V:List Value} {e t:TypeId} {C:Array Value} {f g i:Value}
instance:Inhabited Pv:=⟨⟨0,[],none,0⟩⟩
def Ei (x y:Pv):Int:=if x.off<y.off then-1 else if y.off<x.off then 1 else 0
theorem pvLt (x y:Pv):Go.Proofs.ltOf Ei x y=decide (x.off<y.off):=by
 unfold Go.Proofs.ltOf Ei;by_cases a:x.off<y.off
 .simp[a]
 .by_cases b:y.off<x.off<;>simp[a,b]
theorem pvSWO:Go.Sort.SWO (Go.Proofs.ltOf Ei)where
 irrefl x:=by rw[pvLt];simp
 trans x y z h1 h2:=by rw[pvLt]at*;simp at*;omega
 ntrans x y z h1 h2:=by rw[pvLt]at*;simp at*;omega
theorem Nt (x y:Pv) (e:World):Yk 104 #[.agg (pvV x).toArray,.agg (pvV y).toArray] e λi l=>i=.returned (jI (Ei x y))/\∃k j,l=Go.Sort.grow (e.drewN k) j:=by
 obtain⟨c,n,m,o⟩:=x;obtain⟨d,q,p,r⟩:=y;unfold Ei pvV;simp only;by_cases a:c<d
 .have f:=bM a
  rw[aB a];clear a;go_enter Tryz.func104,Tryz.ntmps104;go_wp2;go_ret;exact⟨rfl,0,_,by rw[Go.Sort.alloc_eq_grow,Go.Sort.alloc_eq_grow,Go.Sort.grow_grow];rfl⟩
 .have f:=bJ a
  rw[Ww a];clear a;by_cases b:d<c
  .have g:=bM b
   rw[aB b];clear b;go_enter Tryz.func104,Tryz.ntmps104;go_wp2;go_ret;exact⟨rfl,0,_,by rw[Go.Sort.alloc_eq_grow,Go.Sort.alloc_eq_grow,Go.Sort.grow_grow];rfl⟩
  .have g:=bJ b
   rw[Ww b];clear b;go_enter Tryz.func104,Tryz.ntmps104;go_wp2;go_ret;exact⟨rfl,0,_,by rw[Go.Sort.alloc_eq_grow,Go.Sort.alloc_eq_grow,Go.Sort.grow_grow];rfl⟩
theorem FW (x:Pv):(pvV x).length=2:=rfl
def PvRow (w:World) (b:Nat) (l:List Pv):Prop:=∀a (c:a<l.length),w.cell? ⟨b,a*2,none⟩=some (uI l[a].off)/\w.cell? ⟨b,a*2+1,none⟩=some (.slice l[a].a l[a].b.length l[a].c)
theorem KC (a v:Nat) (l:List Pv) (w:World) (N:l.length<4611686018427387904) (P:PvRow w a l) (L:∀d,w.frozen? ⟨a,d,none⟩=false) (hb:a<w.heap.size):
  Yk 103 #[.slice (some ⟨a,0,none⟩) l.length v,.func (.func 104) #[] #[]] w λf g=>f=.returned (.tuple #[])/\∃s:List Pv,l.Perm s/\s.Pairwise (λm t=>m.off<=t.off)/\PvRow g a s/\Below a w g/\a<g.heap.size:=by
 have I:∀u w,(callFunc 104 u).run prog w=.ok (.enter 104 u) w:=enters_of Tryz.func104 kR rfl;have x:Go.Sort.HoldsK pvV 2 w a 0 l.toArray:=by
  intro e q;rw[Go.Sort.size_flatK]at q;(have j:e/2<l.length:=by simp at q;omega);refine⟨?_,L _⟩;rw[Go.Sort.get_flatK _ _ _ _ q];obtain⟨U,V⟩:=P (e/2) j;(have F:l.toArray[e/2]! =l[e/2]:=by rw[getElem!_pos _ _ (by simpa using j)];simp);rw[F];rcases Nat.mod_two_eq_zero_or_one e with h|h
  .have f:0+e=e/2*2:=oM
   rw[f,h,U];rfl
  .have f:0+e=e/2*2+1:=oM
   rw[f,h,V];rfl
 have z:=Go.Proofs.AnyQ.slices_SortFunc Tryz.Pn 2 (λw=>rfl) (λw=>rfl) pvV FW (λm Y A=>by simp[pvV]at A;rcases A with rfl|rfl<;>rfl) Ei pvSWO 104 #[] a 0 v l.toArray w I (λ_ _ _ _ m t=>Nt m t _) x hb (by simpa using N);change Yk 103 _ _ _ at z;refine z.mono ?_;rintro f g ⟨K,b,S,T,O,Q,r⟩;obtain⟨D,X,E⟩:=O;(have R:b.size=l.length:=by simpa using D);have y:Go.Sort.HoldsK pvV 2 g a 0 b:=by
  rw[r];exact Go.Sort.holdsK_grow pvV 2 _ T a 0 b (by rw[Go.Sort.putRowK,Go.Sort.size_putRow];exact hb) (Go.Sort.holdsK_putRowK pvV 2 _ a 0 l.toArray b x (by simpa using R))
 refine⟨K,b.toList,?_,?_,?_,?_,?_⟩
 .have G:(l.toArray.extract 0 l.toArray.size).toList=l:=sM
  (have H:(b.extract 0 l.toArray.size).toList=b.toList:=by rw[<-D];simp);rw[G,H]at E;exact E.symm
 .rw[List.pairwise_iff_getElem]
  intro B d j k M;have:=Q B d (jV _) M (by simp at k;simp;omega);rw[pvLt,getElem!_pos b d (by simpa using k),getElem!_pos b B (by simpa using j)]at this;simp only[decide_eq_false_iff_not,Array.getElem_toList]at this|-;omega
 .intro d k
  (have p:d<b.size:=by simpa using k);have n:=(y.cell (i:=d) (c:=0) p dC).1;have o:=(y.cell (i:=d) (c:=1) p dC).1;rw[getElem!_pos b d p]at n o;rw[Nat.zero_add]at n o;exact⟨by simpa[pvV]using n,by simpa[pvV]using o⟩
 .rw[r]
  refine⟨rfl,rfl,rfl,?_,λC W=>?_⟩
  .simp[Go.Proofs.sortWorldK,Go.Sort.putRowK]
  .have J:C<(Go.Sort.putRowK pvV 2 (Go.Sort.ahead w S) a 0 b).heap.size:=by rw[Go.Sort.putRowK,Go.Sort.size_putRow];show C<w.heap.size;omega
   rw[Go.Proofs.sortWorldK,Go.Sort.heap_grow_old _ _ J];simp[Go.Sort.putRowK,Go.Sort.putRow,Go.Sort.mapBlock,Array.getElem?_modify];intro f;omega
 .rw[r]
  simp[Go.Proofs.sortWorldK,Go.Sort.putRowK];omega
theorem Iy (p:X5) (a:Nat) (w:World):Yk 103 #[.slice p 0 a,.func (.func 104) #[] #[]] w λb c=>b=.returned (.tuple #[])/\c=w:=by
 have h:=Go.Proofs.AnyF.slices_SortFunc_none Tryz.Pn p a (.func (.func 104) #[] #[]) w;change Yk 103 _ _ _ at h;exact h
theorem Iz (S:X4) (a:X5) (c:Nat) (l:List Pv) (w:World) (h:Row w S 203 2 a l.length (l.flatMap pvV)) (B:l.length<=1000000000) (e:a=none->c=0):
  Yk 102 #[.slice a l.length c] w λt f=>∃g i,t=.returned (.slice g l.length i)/\OwnAt f (λo=>w.heap.size<=o/\o<f.heap.size) 203 2 g l.length i (l.flatMap pvV)/\bW w f:=by
 have s:=zH h;rcases a with _|d
 .have b:l.length=0:=by
   rcases Nat.eq_zero_or_pos l.length with b|b
   .exact b
   .obtain⟨_,_,h,_⟩:=h.at_ b
    cases h
  have u:l=[]:=dV b;obtain rfl:=u;obtain rfl:=e rfl;clear h b e;have v:∀w,(binOp BinOp.eql 224 (Value.slice none 0 0) (Value.slice none 0 0)).run prog w=.ok (bV true) w:=λw=>by
   first|rfl|(simp[binOp,go_sem];done)|(simp[binOp,go_sem];rfl)
  go_enter Tryz.func102,Tryz.ntmps102;go_wp2;go_ret;exact⟨none,0,rfl,OwnAt.WH,aj _ _⟩
 .clear h e
  have v:∀w,(binOp BinOp.eql 224 (Value.slice (some d) l.length c) (Value.slice none 0 0)).run prog w=.ok (bV false) w:=λw=>by
   obtain⟨z,C,D⟩:=d;first|rfl|(simp[binOp,go_sem];done)|(simp[binOp,go_sem];rfl)
  go_enter Tryz.func102,Tryz.ntmps102;have n:(w.alloc (.cells #[] 203)).ownsRow w.heap.size 203 2 (.slice (some ⟨w.heap.size,0,none⟩) ([]:List Pv).length 0) ([]:List Pv).length (([]:List Pv).flatMap pvV):=⟨sM,.inr ⟨w.heap.size,0,#[],rfl,av _,Wx w 203 #[],av _,dC,rfl,rfl⟩⟩;have r:=zH n;clear n;go_wp2_with (at_builtin;refine qc.wpList rfl (.tmp 5) (.tmp 6) rfl w.heap.size (some ⟨w.heap.size,0,none⟩) 0 [] (by rfl) r.o (some d) c l (by rfl) (aD s.o BEL) sO dC sM ?_;intro y A x m j;have p:=zH m;have q:=zH (show bW w x from(show bW w (w.alloc (.cells #[] 203))from BEL).grown j sM XI);clear m j);go_ret;have k:=p.o;rw[List.nil_append]at k;exact⟨_,_,rfl,OwnAt.fresh k,q.o⟩
theorem Dp {n:Int} {x:Pi} {t:List Pi} (h:x.off=n):iM n (x::t)=iM (n+x.body.length) t:=by rw[iM,aB h]
theorem Dn {n:Int} {x:Pi} {t:List Pi} (h:¬x.off=n):iM n (x::t)=n:=by rw[iM,Ww h]
structure SmI (S:X4) (w:World) (blk:Nat) (m:List Pv) (W:World) (a:X5) (c:Nat) (acc:List Int):Prop where
 b:bW w W
 row:PvRow W blk m
 lo:w.heap.size<=blk
 hi:blk<W.heap.size
 by_:∀x∈m,Bys W S x.a x.b
 own:W.ownsRow (blk+1) 5 1 (.slice a acc.length c) acc.length (acc.flatMap byV)
theorem SmI.step {S:X4} {m:List Pv} {a a':X5} (h:SmI S w b m w' a c l) (g:Bd S w) (hb:Below (b+1) w' W) (j:W.ownsRow (b+1) 5 1 (.slice a' L.length k) L.length (L.flatMap byV)):SmI S w b m W a' k L:=
 ⟨h.b.trans (hb.mono (by have:=h.lo;omega)),λd e=>⟨(hb.cell (p:=⟨b,d*2,none⟩) (Nat.lt_succ_self _)).trans (h.row d e).1,(hb.cell (p:=⟨b,d*2+1,none⟩) (Nat.lt_succ_self _)).trans (h.row d e).2⟩,h.lo,aC h.hi hb.size,
  λq o=>aG (h.by_ q o) (ts:=[some 5]) (λf r i n _=>(hb.block f (by have:=g f i;have:=h.lo;omega)).trans n) sM,j⟩
theorem FY (S:X4) (p k n:Nat) (q:Pe) (w:World) (h:ic w S p k q) (b9:Bd S w) (o:jN n 32 32 q) (g7:n<=100000):
  Yk 41 #[pT p] w λf6 f7=>∃s u,∃a3:List Int,f6=.returned (.slice s a3.length u)/\(a3.length:Int)=yL q/\a3.length<=1000000000000/\bW w f7:=by
 obtain⟨f9,g3,g1,g5,h1,g0,g4,b4,b6,j,U,e2,e3,e4,e5,e6,V,b8,L,_⟩:=h.ex;have b5:=U.Wu 11;have g8:=U.lt;have f0:j.length<=150000000:=by
  have l:=o.plen;have b7:=o.yh;rw[L,bR]at l;omega
 have c2:b4=none->b6=0:=λv=>by
  subst v;rcases V.own.2 with⟨z,_⟩|⟨y,e1,C,z,_⟩
  .injection z
  .injection z with l;cases l
 obtain⟨T,b0,d6,a9,b1,d8⟩:=Fy (Iz S b4 b6 j w V.row oM c2) (λc (e9:q.pieces.Perm c) f2=>Kl (p:=q) o.pieces (m:=c) e9 f2) b8 L b9 (show∀f∈j,f.b.length<=1500 from λf e=>(o.pok f.pi (by rw[L];exact List.mem_map.2 ⟨f,e,rfl⟩)).2.1);clear h U e2 e3 e4 e5 e6 V b8 L o c2 b9;go_enter Tryz.func41,Tryz.ntmps41;go_wp2_with fail;refine(T.o).mono ?_;rintro v a5 ⟨b3,K,rfl,F,W⟩;have R:=zH W;rcases Nat.eq_zero_or_pos j.length with D|D
 .have f1:j=[]:=dV D
  subst f1;have c4:yL q=0:=by
   have:=b0.o [] (by rw[a9.o];exact List.Perm.refl _) List.Pairwise.nil;rw[<-this];rfl
  have d9:=zH c4;clear W F D c4 T b5;have J:=zH (λw=>Iy b3 K w);simp only[List.length_nil];go_wp2_with fail;refine Yd (J.o _) ?_;intro a6 rfl;go_wp2;go_loopw [18,4] (λH a4 wr=>H=jI 0/\a4=.slice none 0 0/\X3 (bW w wr)) (λ_ _ _=>0);(case atStart=>exact⟨rfl,rfl,R⟩);case round=>
   obtain⟨rfl,rfl,d5⟩:=hrel;go_wp2;go_ret;exact⟨none,0,[],rfl,d9.o.symm,sM,d5.o⟩
 .obtain⟨i,C,rfl,c5,Y⟩:∃i C,b3=some ⟨i,0,none⟩/\w.heap.size<=i/\Blk a5 i 203 C:=by
   rcases F.own.2 with⟨z,h0⟩|⟨y,e1,C,z,_,e8,_⟩
   .omega
   .injection z with l
    exact⟨y,C,l,(F.mem y l).1,e8⟩
  have c7:PvRow a5 i j:=λa a0=>by
   obtain⟨g2,h2,v,_,_,c1⟩:=F.row.at_ D;injection v with v;injection v with l b7;subst l b7;have d1:=c1 _ _ (mr FW j a 0 a0 oM);have d2:=c1 _ _ (mr FW j a 1 a0 oM);simp only[Nat.zero_add,Nat.add_zero]at d1 d2;exact⟨d1,d2⟩
  have J:=zH (KC i K j a5 oM c7 (λa=>Y.frozen a) Y.lt);clear c7 F Y W T b5;go_wp2_with fail;refine Yd J.o ?_;rintro a6 ⟨c,G,c9,c8,c0,Z⟩;have X:bW w a6:=R.o.trans (c0.mono c5);have g:=zH (show SmI S w i c a6 none 0 []from⟨X,c8,c5,Z,λf e=>aD (d6.o f (G.mem_iff.2 e)) X,iq _ _ _ _⟩);have a1:c.length=j.length:=G.length_eq.symm;obtain⟨e0,a8⟩:=yx (show∀f∈c,f.b.length<=1500 from λf e=>d8.o f (G.mem_iff.2 e)) (show iM 0 (c.map Pv.pi)=yL q from b0.o _ (by rw[a9.o];exact G.map _) (by rw[List.pairwise_map];exact c9));rw[<-a1];rw[<-a1]at f0;clear a1 G c9 c8 c0 Z X J D;go_wp2;go_loopw [18,4] (λH a4 wr=>∃(a:Nat) (b:List Int) (s:X5) (u:Nat),a<=c.length/\H=jI a/\a4=.slice s b.length u/\b.length<=1500*a/\X3 (SmI S w i c wr s u b)/\X3 (iM b.length ((c.drop a).map Pv.pi)=yL q)) (λH _ _=>c.length -(intOf H).toNat);(case atStart=>exact⟨0,[],none,0,oM,rfl,rfl,sM,g,a8⟩);case round=>
   clear g a8 R;obtain⟨a,b,s,u,a0,rfl,rfl,g6,g,a7⟩:=hrel;have Z:=g.o.hi;by_cases O:a<c.length
   .obtain⟨f4,f5⟩:=g.o.row a O
    have N:=g.o.by_ _ (aN O);have f3:=e0.o _ (aN O);have d:=a7.o;rw[aR O,List.map_cons]at d;generalize c[a]=f at*
    obtain⟨A,I,P,Q⟩:=f;simp only at f4 f5 N f3;have f8:=zH N;have g9:IntKind.u64.wrap (b.length:Int)=b.length:=Wz _ oM;obtain⟨d0,a2⟩:=eX (wr.alloc (.cells #[uI A,.slice P I.length Q] 203));(have M:bW wr d0:=by rw[a2];exact BEL);obtain⟨r,d4,b2⟩:=Av (g.o.step b1.o (M.mono oM) (IL g.o.own (λy d=>M.block y (zI g.o.own y (by rw[d];rfl))))) (aD N M) a2;clear N M a2;by_cases e:A=(b.length:Int)
    .have e7:(A !=(b.length:Int))=false:=by simpa using e
     have E:=Dp (x:=(⟨A,I,P,Q⟩:Pv).pi) (t:=(c.drop (a+1)).map Pv.pi) (n:=(b.length:Int)) e;rw[E]at d;have B:=zH d;clear d E e;go_wp2_with (at_builtin;rw[<-b2.o];refine fe.wpList rfl (.tmp 28) (.tmp 30) rfl (i+1) s u b (by rfl) r.o.own P Q I (by rfl) d4.o oM dC (by have:=r.o.hi;omega) ?_;intro d3 K h3 c6 c3;have d7:=zH (r.o.step b1.o ((aj (i+1) d0).grown c3 (by have:=r.o.hi;omega) (λk o=>jM r.o.own k o)) c6);clear c6 c3);go_roundw;(case rel=>exact⟨a+1,b++I,d3,K,oM,by go_num,sM,by simp;omega,d7,by simpa[aU,Pv.pi]using B⟩);case measure=>exact Yl
    .have e7:(A !=(b.length:Int))=true:=by simpa using e
     have E:=Dn (x:=(⟨A,I,P,Q⟩:Pv).pi) (t:=(c.drop (a+1)).map Pv.pi) (n:=(b.length:Int)) e;rw[E]at d;have B:=zH d;clear d E e;go_wp2;go_ret;rw[<-b2.o];exact⟨_,_,b,rfl,B.o,oM,r.o.b⟩
   .obtain rfl:a=c.length:=oM
    have d:=a7.o;rw[List.drop_length,List.map_nil]at d;have B:=zH d;clear d;go_wp2;go_ret;exact⟨_,_,b,rfl,B.o,oM,g.o.b⟩
abbrev zzRow (y:Rw) (e:Int):Array Value:= #[jI y.aS.aS,uI y.aS.now,uI y.aS.cr,uI y.aS.dL,uI y.aS.jS,uI y.aS.bK,uI y.aS.gU,uI y.aS.next,uI y.aS.low,uI y.aS.fG,uI y.aS.gP,uI y.aS.dh.dB,uI y.aS.dh.eT,uI y.aS.dh.fI,uI y.aS.dh.bE,uI y.aS.dh.late,uI y.sent,uI y.eO,uI y.told,uI y.tJ,uI y.qm,jI e]
attribute[local go_sem] BW.cell BW.frozen
section
variable {own:Nat->Nat} {w W:World} {p k:Nat} {r:Wp} {x:Wo}
theorem dD.aS (h:dD own w p r k x W) (d:dG n x.en):Yk 24 #[(pT r.e)] W λb f=>b=.returned (.agg #[jI (cK x.en).aS,uI (cK x.en).now,uI (cK x.en).cr,uI (cK x.en).dL,uI (cK x.en).jS,uI (cK x.en).bK,uI (cK x.en).gU,uI (cK x.en).next,uI (cK x.en).low,uI (cK x.en).fG,uI (cK x.en).gP,uI (cK x.en).dh.dB,uI (cK x.en).dh.eT,uI (cK x.en).dh.fI,uI (cK x.en).dh.bE,uI (cK x.en).dh.late])/\bW W f:=by
 obtain⟨e,g,c⟩:=h.ex;exact CB n (Own W e 1) r.e x.en W c.e d
theorem dD.bytes (h:dD own w p r k x W):Yk 40 #[(pT r.pe)] W λb d=>b=.returned (uI x.pe.bytes)/\bW W d:=by
 obtain⟨f,g,e⟩:=h.ex;exact(IG (Own W f 2) r.pe k x.pe W e.pe).mono λb d c=>⟨c.1,by rw[<-c.2];exact aj _ _⟩
theorem dD.stream (h:dD own w p r k x W) (f:jN n 32 32 x.pe) (g:n<=100000):Yk 41 #[(pT r.pe)] W λd j=>∃a c,∃b:List Int,d=.returned (.slice a b.length c)/\(b.length:Int)=yL x.pe/\b.length<=1000000000000/\bW W j:=by
 obtain⟨i,l,e⟩:=h.ex;exact FY (Own W i 2) r.pe k n x.pe W e.pe qX f g
end
section
variable {P:Program} {Q:X7} {a:Act} {w:World}
theorem VI {l:List Oper} (F:Option Addr->Nat->Nat->Act) (C:Nat->World->Prop) (g:∀e c f d,C c d->Q .normal (F e c f) d) (h:(∀e c f d,C c d->Q .normal (F e c f) d)->(Code.region b l.toArray true).wp P Q a w):(Code.region b l.toArray true).wp P Q a w:=h g
end
theorem GV (own:Nat->Nat) (d2 w:World) (p k n m:Nat) (r:Wp) (x:Wo) (h:dD own d2 p r k x w) (a4:dG m x.en) (a7:jN n 32 32 x.pe) (c9:n<=100000) (d9:x.sent<=1000000000) (d7:x.heard<=1000000000):
  Yk 14 #[pT p] w λc4 G=>c4=.returned (.agg (zzRow (woRow x) ((woRow x).err)))/\bW w G:=by
 obtain⟨M,R,N,T,O,U,E⟩:=h.blk;obtain⟨b7,c0⟩:=yx a4 a7;have a6:=E.lt;obtain⟨b,b3⟩:=eX (cK x.en);have L:=zH b3;have d1:w.heap.size≠p:=oM;have e0:IntKind.u64.wrap (x.sent:Int)=x.sent:=Wz _ oM;have e1:IntKind.u64.wrap (x.heard:Int)=x.heard:=Wz _ oM;obtain⟨l,u⟩:=eX (w.alloc (.cells Yj 41));(have z:bW w l:=by rw[u];exact BEL);obtain⟨j,A,b6,H,c1⟩:=BF (E.below z a6) (show Blk l w.heap.size 41 Yj by rw[u];exact Wx _ _ _) (h.below z) z u;have d8:=j.o.lt;have e3:=A.o.lt;clear h a4 a7 E b3 u z a6;go_enter Tryz.func14,Tryz.ntmps14;go_upto_region 3 with fail;rw[<-c1.o];refine' VI (F:=_) (λe W=>X3 (bW w W)/\X3 (Blk W w.heap.size 41 #[jI b.aS,uI b.now,uI b.cr,uI b.dL,uI b.jS,uI b.bK,uI b.gU,uI b.next,uI b.low,uI b.fG,uI b.gP,uI b.dh.dB,uI b.dh.eT,uI b.dh.fI,uI b.dh.bE,uI b.dh.late,uI x.sent,uI x.eO,uI x.heard,uI x.pe.bytes,uI e,jI 0])/\(e:Int)=yL x.pe) ?tl (λc3=>?mn);case mn=>
  have q:bW l l.drew:=bA (aj _ _);have I:=zH (b6.o.below q);have Y:=H.o.trans (q.mono H.o.size);have a3:=A.o.below q A.o.lt;refine aZ (S:=λG=>Blk G p 110 (woC x r M x.fu R N x.heard T O x.sent U)) kR (j.o.below q j.o.lt) (λc7=>?_);clear c7;have c:Blk l.drew p 110 (woC x r M x.fu R N x.heard T O x.sent U):=j.o.below q j.o.lt;refine tK 0 6 c ?_;refine tK 1 7 c ?_;refine tK 2 8 c ?_;refine X6 3 9 c ?_ (y:=by intro t f;have s:=f.Wu 0;exact gS);refine nrm 35 15 ?_;refine tK 5 11 c ?_;refine tK 6 12 c ?_;refine tK 7 13 c ?_;refine X6 8 14 c ?_ (y:=by intro t f;have s:=f.Wu 9;exact gS);refine nrm 35 495 ?_;refine tK 9 15 c ?_;refine tK 10 16 c ?_;refine tK 11 17 c ?_;refine tK 12 18 c ?_;refine nrm 35 8175 ?_;refine tK 13 19 c ?_;refine X6 14 20 c ?_ (y:=by intro t f;have s:=f.Wu 6;exact gS);refine tK 15 21 c ?_;refine tK 16 22 c ?_;refine nrm 35 131055 ?_;refine tK 17 23 c ?_;refine X6 18 24 c ?_ (y:=by intro t f;have s:=f.Wu 8;exact gS);refine tK 19 25 c ?_;refine tK 20 26 c ?_;refine nrm 35 2097135 ?_;refine tK 21 27 c ?_;refine tK 22 28 c ?_;refine tK 23 29 c ?_;refine X6 24 30 c ?_ (y:=by intro t f;have s:=f.Wu 1;exact gS);refine nrm 35 33554415 ?_;refine tK 26 32 c ?_;refine tK 27 33 c ?_;refine tK 28 34 c ?_;refine X6 29 35 c ?_ (y:=by intro t f;have s:=f.Wu 1;exact gS);refine nrm 35 1040187375 ?_;refine aI 4 kR ?_;refine opC 10 24 #[(pT r.e)] ((I.o.aS b7.o).mono ?_);rintro X e4 ⟨g,d⟩;rw[<-L.o]at g;have J:=zH (I.o.below d);have B:=c.below d c.lt;have a0:=Y.trans (d.mono Y.size);have b1:=a3.below d a3.lt;refine⟨_,g,B,?_⟩;clear g d;refine mP ?_;refine aI 25 kR ?_;refine opC 31 40 #[(pT r.pe)] ((J.o.bytes).mono ?_);rintro X e5 ⟨g,d⟩;have K:=zH (J.o.below d);have C:=B.below d B.lt;have a1:=a0.trans (d.mono a0.size);have a8:=b1.below d b1.lt;refine⟨_,g,C,?_⟩;clear g d;refine mP ?_;refine aI 30 kR ?_;refine opC 36 41 #[(pT r.pe)] ((K.o.stream c0.o c9).mono ?_);rintro X d3 ⟨b4,V,d0,g,D,c8,d⟩;generalize d0.length=e at g D c8;have b9:=zH D;clear D;have e2:IntKind.u64.wrap (e:Int)=e:=Wz _ oM;have d5:=zH (K.o.below d);have o:=C.below d C.lt;have c6:=a1.trans (d.mono a1.size);have a9:=a8.below d a8.lt;refine⟨_,g,o,?_⟩;clear g d;refine Yf 31 37 o ?_;refine tK 32 38 o ?_;refine tk (v:=.agg #[jI b.aS,uI b.now,uI b.cr,uI b.dL,uI b.jS,uI b.bK,uI b.gU,uI b.next,uI b.low,uI b.fG,uI b.gP,uI b.dh.dB,uI b.dh.eT,uI b.dh.fI,uI b.dh.bE,uI b.dh.late,uI x.sent,uI x.eO,uI x.heard,uI x.pe.bytes,uI e,jI 0]) 33 (some 39) o (h:=?_);refine nrm 35 17179869183 ?_;have a2:=Blk.gy (Ne.symm d1) [jI b.aS,uI b.now,uI b.cr,uI b.dL,uI b.jS,uI b.bK,uI b.gU,uI b.next,uI b.low,uI b.fG,uI b.gP,uI b.dh.dB,uI b.dh.eT,uI b.dh.fI,uI b.dh.bE,uI b.dh.late,uI x.sent,uI x.eO,uI x.heard,uI x.pe.bytes,uI e,jI 0] 0 _ o;refine dJ (i:=34) 41 (.tmp 2) (.tmp 39) w.heap.size 0 #[jI b.aS,uI b.now,uI b.cr,uI b.dL,uI b.jS,uI b.bK,uI b.gU,uI b.next,uI b.low,uI b.fG,uI b.gP,uI b.dh.dB,uI b.dh.eT,uI b.dh.fI,uI b.dh.bE,uI b.dh.late,uI x.sent,uI x.eO,uI x.heard,uI x.pe.bytes,uI e,jI 0] rfl kR kR kR kR kR kR (a9.there _ sM) kR XF (a2) ?_;intro d4 b2;have b0:=Blk.gF a9 [jI b.aS,uI b.now,uI b.cr,uI b.dL,uI b.jS,uI b.bK,uI b.gU,uI b.next,uI b.low,uI b.fG,uI b.gP,uI b.dh.dB,uI b.dh.eT,uI b.dh.fI,uI b.dh.bE,uI b.dh.late,uI x.sent,uI x.eO,uI x.heard,uI x.pe.bytes,uI e,jI 0] rfl;have Z:bW w (d3.setCells w.heap.size 0 [jI b.aS,uI b.now,uI b.cr,uI b.dL,uI b.jS,uI b.bK,uI b.gU,uI b.next,uI b.low,uI b.fG,uI b.gP,uI b.dh.dB,uI b.dh.eT,uI b.dh.fI,uI b.dh.bE,uI b.dh.late,uI x.sent,uI x.eO,uI x.heard,uI x.pe.bytes,uI e,jI 0]):=Below.bZ (av _) _ _ _ c6;rw[<-show d4=_ from b2]at b0 a2 Z;clear b2;refine mP ?_;refine bg kR ?_ _;exact c3 b4 e V _ ⟨zH Z,zH b0,b9.o⟩
 case tl=>
  intro b4 e V d6 c5;obtain⟨b5,c2,a5⟩:=c5;have b8:=zH a5;clear a5;(try simp only[]);refine mW ?_
  (try simp only[Exit.inBlock,Exit.then])
  refine iZ 2 41 w.heap.size #[jI b.aS,uI b.now,uI b.cr,uI b.dL,uI b.jS,uI b.bK,uI b.gU,uI b.next,uI b.low,uI b.fG,uI b.gP,uI b.dh.dB,uI b.dh.eT,uI b.dh.fI,uI b.dh.bE,uI b.dh.late,uI x.sent,uI x.eO,uI x.heard,uI x.pe.bytes,uI e,jI 0] kR kR c2.o _ Tryz.underlying41 kR kR rfl ?_;refine⟨?_,b5.o⟩;rw[L.o,b8.o];rfl
def Cy (a b c d e:Nat):Nat->Nat:=λf=>if f<a then 9 else if f<b then 1 else if f<c then 2 else if f<d then 3 else if f<e then 4 else 0
theorem OT {tw:TypeId} (c:Cf) (G H I:X4) (t:X5) (a2:Nat) (words:List Int) (r:X5) (J:Nat) (f:List Fa) (s:X5) (K:Nat) (g:List Fa) (u:Int) (w:World) (X:lV c) (a0:Wot tw w G t words) (a1:words.length<=1000000)
  (O:Row w H 187 4 r f.length (f.flatMap faV)) (Q:f.length<=1000000000) (hb:Row w I 187 4 s g.length (g.flatMap faV)) (W:g.length<=1000000000):
  Yk 30 #[.agg (cfV c),.slice t words.length a2,.slice r f.length J,.slice s g.length K,uI u] w λi a=>∃a4 b8 a3,i=.returned (.tuple #[pT a4,jI 0])/\iW a a3 a4 b8 0 (mO c words f g u)/\(∀d,d<w.heap.size->a3 d=9)/\bW w a:=by
 obtain⟨b1,b3,a6,a9⟩:=Bq (λa (j:bW w a)=>JH G t a2 words c a X (aD a0 j) a1) (λa=>Nz u a) (λa (j:bW w a)=>Em H r J f a (aD O j) Q) (λa (j:bW w a)=>Em I s K g a (aD hb j) W);obtain⟨m,n⟩:=eX (w.alloc (.cells (cfV c) 32));(have R:bW w m:=by rw[n];exact BEL);obtain⟨b4,e,F⟩:=Av (show Blk m w.heap.size 32 (cfV c) by rw[n];exact Wx _ _ _) R n;clear X a0 a1 O Q hb W n R;go_enter Tryz.func30,Tryz.ntmps30;go_upto_region 1 with fail;rw[<-F.o];go_wp2_with (refine kP 32 (.tmp 5) rfl rfl (some 15) rfl w.heap.size kR (cfV c) b4.o _ Tryz.underlying32 kR kR ?_);refine(b1.o _ e.o).mono ?_;rintro i b9 ⟨A,rfl,Y,S⟩;obtain⟨b0,l⟩:=yx Y S;clear Y S;go_wp2_with fail;refine(b3.o _).mono ?_;rintro i c0 ⟨B,rfl,c6,Z,v⟩;obtain⟨b2,C,p⟩:=Av Z v (e.o.trans ((l.o.mono e.o.size).trans (v.mono (ay e.o.size l.o.size))));clear Z v;go_wp2_with fail;refine(a6.o _ p.o).mono ?_;rintro i c1 ⟨y,rfl,P,x⟩;obtain⟨a5,D,a7⟩:=Av P x (p.o.trans (x.mono p.o.size));clear P x;go_wp2_with fail;refine(a9.o _ a7.o).mono ?_;rintro i k ⟨z,rfl,U,T⟩;obtain⟨a8,E⟩:=yx U T;clear U T;go_wp2;go_ret2;(have c8:m.heap.size=w.heap.size+1:=by rw[F.o];simp);obtain⟨c2,c3,c4,c5⟩:=Ju l.o.size C.o.size D.o.size E.o.size;obtain⟨q,o⟩:=eX (k.alloc (.cells #[pT A,pT B,pT y,pT z,uI 0,bV false,uI 0,zzN,zzN,zzN] 110));rw[<-o];(have V:bW k q:=by rw[o];exact BEL);(have b6:Blk q k.heap.size 110 #[pT A,pT B,pT y,pT z,uI 0,bV false,uI 0,zzN,zzN,zzN]:=by rw[o];exact Wx _ _ _);(have c9:q.heap.size=k.heap.size+1:=by rw[o];simp);have N:=E.o.trans (V.mono c5);have M:=D.o.trans (N.mono c4);have L:=C.o.trans (M.mono c3);have b5:=l.o.trans (L.mono c2);refine⟨_,⟨A,B,y,z⟩,Cy m.heap.size b9.heap.size c0.heap.size c1.heap.size k.heap.size,rfl,⟨⟨⟨none,0,none,0,none,0,[],[],[],b6,OwnAt.WH,OwnAt.WH,OwnAt.WH,(λc7 b7=>by cases b7),rfl,rfl,rfl⟩,⟨oM,?_⟩⟩,?_,?_,?_,?_⟩,?_,e.o.trans (b5.mono e.o.size)⟩
 .unfold Cy;rw[Ww oM,Ww oM,Ww oM,Ww oM,Ww oM]
 .exact(b0.o.below L).mono (λd b=>⟨oM,by unfold Cy;rw[Ww oM,aB b.2]⟩)
 .exact(b2.o.below M).mono (λd b=>⟨oM,by unfold Cy;rw[Ww oM,Ww oM,aB b.2]⟩)
 .exact(a5.o.below N).mono (λd b=>⟨oM,by unfold Cy;rw[Ww oM,Ww oM,Ww oM,aB b.2]⟩)
 .exact(a8.o.below V).mono (λd b=>⟨oM,by unfold Cy;rw[Ww oM,Ww oM,Ww oM,Ww oM,aB b.2]⟩)
 .intro d b
  unfold Cy;rw[aB oM]
theorem Bf {n m f:Nat}:∀(e:List (List Int)) (b:Nat) {w:Wo},WdX n m f (e.length+b) w->(∀d∈e,dP d)->WdX n m f b (e.foldl je w)
 |[],b,w,h,_=>by rw[List.length_nil,Nat.zero_add]at h;exact h
 |d::t,b,w,h,hb=>Bf t b (Fx (by rw[aY]at h;rw[show t.length+b+1=t.length+1+b by omega];exact h) (hb d sM)) (λx g=>hb x (by simp[g]))
theorem Bg {n m f:Nat}:∀(e:List (List Int)) (b:Nat) {w:Wo},WdX n m (e.length+b) f w->(∀d∈e,dP d)->WdX n m b f (e.foldl jZ w)
 |[],b,w,h,_=>by rw[List.length_nil,Nat.zero_add]at h;exact h
 |d::t,b,w,h,hb=>Bg t b (Xx (by rw[aY]at h;rw[show t.length+b+1=t.length+1+b by omega];exact h) (hb d sM)) (λx g=>hb x (by simp[g]))
structure Came (own:Nat->Nat) (w W:World) (a:X5) (c:Nat) (bv:List Bv):Prop where
 row:Row W (λk=>4<own k/\k<w.heap.size) 47 1 a bv.length (bv.flatMap bvV)
 bys:∀y∈bv,Bys W (λk=>4<own k/\k<w.heap.size) y.a y.b
section
variable {own:Nat->Nat} {w W W':World} {p k k':Nat} {r:Wp} {x x':Wo} {a:X5} {c:Nat} {bv:List Bv}
theorem Came.to (h:Came own w w a c bv) (d:dD own w p r k x W):Came own w W a c bv:=
 ⟨aG h.row (ts:=[some 47]) (d.m.iD (λk b e=>by have:=b.1;omega)) sM,λg f=>aG (h.bys g f) (ts:=[some 5]) (d.m.iD (λk b e=>by have:=b.1;omega)) sM⟩
theorem Came.at_ (h:Came own w W a c bv) {j:Nat} (e:j<bv.length):∃b d,a=some ⟨b,d,none⟩/\b<W.heap.size/\W.cell? ⟨b,d+j,none⟩=some (.slice bv[j].a bv[j].b.length bv[j].c)/\Bys W (λk=>4<own k/\k<w.heap.size) bv[j].a bv[j].b:=by
 obtain⟨b,d,g,n,l,i⟩:=h.row.at_ oM;refine⟨b,d,g,l,?_,h.bys _ (aN e)⟩;have:=i (j*1+0) _ (mr (f:=bvV) (m:=1) (λ_=>rfl) bv j 0 e oM);simpa using this
theorem dD.QY (h:dD own w p r k x W) (v:n<=1000000000) (g:vY n x.ahead) (y:Word x.now):
  Yk 84 #[(pT r.a),uI x.now] W λj b=>∃a c,∃bv:List Bv,∃i,j=.returned (.slice a bv.length c)/\bv.map (·.b)=iy x.now x.ahead.items/\Came i b b a c bv/\iW b i p r k {x with ahead:={x.ahead with items:=iH x.now x.ahead.items}}/\(∀k,k<w.heap.size->i k=own k)/\dD own w p r k {x with ahead:={x.ahead with items:=iH x.now x.ahead.items}} b:=by
 obtain⟨A,l,o⟩:=h.ex;refine(o.QY v (by have:=g.items;omega) (λe d=>⟨(g.ok e d).1,(g.ok e d).2.2⟩) y).mono ?_;rintro j b ⟨a,c,bv,t,u,z,q,m,s⟩;have B:=h.m.size;refine⟨a,c,bv,ext W A 9,t,u,⟨z.lt_,λe d=>(q e d).1.lt_⟩,m,λk f=>(nE oM).trans (l k f),?_⟩;exact h.via l ⟨⟨_,λ_ f=>nE f,m⟩,s⟩
theorem dD.QX (h:dD own w p r k x W) (v:n<=1000000000) (g:vY n x.back) (y:Word x.now):
  Yk 84 #[(pT r.b),uI x.now] W λj b=>∃a c,∃bv:List Bv,∃i,j=.returned (.slice a bv.length c)/\bv.map (·.b)=iy x.now x.back.items/\Came i b b a c bv/\iW b i p r k {x with back:={x.back with items:=iH x.now x.back.items}}/\(∀k,k<w.heap.size->i k=own k)/\dD own w p r k {x with back:={x.back with items:=iH x.now x.back.items}} b:=by
 obtain⟨A,l,o⟩:=h.ex;refine(o.QX v (by have:=g.items;omega) (λe d=>⟨(g.ok e d).1,(g.ok e d).2.2⟩) y).mono ?_;rintro j b ⟨a,c,bv,t,u,z,q,m,s⟩;have B:=h.m.size;refine⟨a,c,bv,ext W A 9,t,u,⟨z.lt_,λe d=>(q e d).1.lt_⟩,m,λk f=>(nE oM).trans (l k f),?_⟩;exact h.via l ⟨⟨_,λ_ f=>nE f,m⟩,s⟩
theorem dD.hear (h:dD own w p r k x W) (d:dG n x.en) (q:n<=90000000) (o:x.heard<=1000000000) {b:List Int} (c:Nat) (hb:Bys W (λk=>4<own k/\k<w.heap.size) a b) (j:b.length<=100000) (l:dP b) (s:Word x.now):
  Yk 35 #[pT p,.slice a b.length c] W λe g=>e=.returned (.tuple #[])/\dD own w p r k (je x b) g:=by
 obtain⟨u,f,i⟩:=h.ex;refine(DF u W p k n r x a c b i d q o (aF hb (λk d=>by rw[f k d.2];exact d.1)) j l s).mono ?_;rintro e g ⟨m,t⟩;exact⟨m,h.via f t⟩
theorem dD.told {R:Rpe} (h:dD own w p r k {x with pe:=R.pe} W) (j:n<1000000000) (l:vY n x.back) {b:X4} (c:Nat) (hb:Bys W b a R.b) (f:R.b.length<=100000) (g:dP R.b) (o:Word x.now):
  Yk 85 #[pT p,.slice a R.b.length c,bV R.ok] W λd e=>d=.returned (.tuple #[])/\dD own w p r k (jP x R) e:=by
 refine(MI own w W p k n r {x with pe:=R.pe} b a c R.b R.ok h j l hb f g o).mono ?_;rintro d e ⟨i,m⟩;refine⟨i,?_⟩;unfold jP;exact m
end
theorem kV:Elem prog 107 115 6 64 (λb:Six=>b.1):=Ii kR (z:=.agg #[uI 0,uI 0,uI 0,uI 0,jI 0,zzN]) kR rfl
theorem dD.cells {e:Nat->Nat} {c:Wp} {x:Wo} (h:dD e w p c k x w'):w'.cell? ⟨p,0,none⟩=some ((pT c.e))/\w'.cell? ⟨p,1,none⟩=some ((pT c.pe))/\w'.cell? ⟨p,2,none⟩=some ((pT c.a))/\w'.cell? ⟨p,3,none⟩=some ((pT c.b))/\
  w'.cell? ⟨p,4,none⟩=some (uI x.now)/\w'.cell? ⟨p,6,none⟩=some (uI x.eO)/\p<w'.heap.size/\∀d,w'.frozen? ⟨p,d,none⟩=false:=by
 obtain⟨f,j,g,l,i,m,b⟩:=h.blk;exact⟨b.cell 0,b.cell 1,b.cell 2,b.cell 3,b.cell 4,b.cell 6,b.lt,λd=>b.frozen d⟩
theorem Elem.wpOD {j:Type} {f:j->List Value} {P:Program} {size l:Nat} {S n:X4} {ts:TypeId} {o:Oper} {a:Act} {Q:X7} (E:Elem P t e size l f) (d:Option Tmp) (q:o.dst=d) (s x:Operand) (r:o.op=.call {callee:=.builtin .append,args:= #[s,x],argTypes:= #[t,t]})
  (A:X5) (i:Nat) (xs:List j) (y:a.eval s=.slice A xs.length i) (u:OwnAt w S e size A xs.length i (xs.flatMap f))
  (B:X5) (c:Nat) (b:List j) (z:a.eval x=.slice B b.length c) (v:Row w n ts size B b.length (b.flatMap f)) (p:xs.length+b.length<=1000000000000) (hb:l<=140)
  (h:∀k m g,OwnAt g (grow S w g) e size k (xs++b).length m ((xs++b).flatMap f)->Mod S [some e] w g->w.grownBy g (Value.slice A xs.length i).ownBlock->K (a.put d (.slice k (xs++b).length m)) g):o.wp P a w K Q:=by
 subst q;exact E.wpO s x r A i xs y u B c b z v p hb h
theorem zY (x:Wo) (R:Rpe):(jP x R).eO=x.eO:=by unfold jP;split<;>rfl
theorem SX (x:Wo) (R:Rpe):(jP x R).now=x.now:=by unfold jP;split<;>rfl
section
variable {P:Program} {Q:X7} {a:Act} {w:World}
theorem yJ {l:List Oper} (F:Option Addr->Nat->Nat->Act) (C:Option Addr->Nat->Nat->World->Prop) (f:∀b d c e,C b d c e->Q .normal (F b d c) e) (h:(∀b d c e,C b d c e->Q .normal (F b d c) e)->(Code.region p l.toArray true).wp P Q a w):(Code.region p l.toArray true).wp P Q a w:=h f
theorem yH {l:List Oper} (F:Option Addr->Nat->Act) (C:World->Prop) (e:∀c d b,C b->Q .normal (F c d) b) (h:(∀c d b,C b->Q .normal (F c d) b)->(Code.region p l.toArray true).wp P Q a w):(Code.region p l.toArray true).wp P Q a w:=h e
theorem FQ {l:List Oper} (F:Nat->Option Addr->Nat->Act) (C:World->Prop) (f:∀d c e b,C b->Q .normal (F d c e) b) (h:(∀d c e b,C b->Q .normal (F d c e) b)->(Code.region p l.toArray true).wp P Q a w):(Code.region p l.toArray true).wp P Q a w:=h f
end
theorem wk4 (g:Nat->Nat) (w:World) (p n:Nat) (i:Wp) (x R:Wo) (wc:World) (c:X3 (dD g w p i x.eO.toNat x wc)) (k:X3 (dG n x.en)) (s:Word x.now) (m:X3 (R={x with en:=kr x.en x.now}))
  (B:V.length=111:=by exact rfl):
  let Q':X7:=bodyPost prog Tryz.f34 λt b=>t=.returned (.tuple #[])/\dD g w p i R.eO.toNat R b
  Code.wp prog (WO 4 (Tryz.f34.body.getD .skip)) Q' ⟨((pT p)::V).toArray,[]⟩ wc:=by
 intro Q';generalize V=u at*
 revert u;(repeat (refine lcZ ?_;intro _));refine lzZ ?_
 conv=>arg 2;whnf
 (try dsimp only);obtain⟨v,_,_,_,y,_,A,_⟩:=c.o.cells;have q:=zH (λb (r:bW wc b)=>(c.o.below r).tick k.o s);go_upto_region 16 with fail;refine dQ 8 kR kR ?_;refine mB ?_;refine bwI ?_;intro j d;have e:bW wc j:=d;have l:=zH (q.o j e);clear d e;refine dA rfl rfl ?_;go_simp;go_at_call 23;refine(l.o).mono ?_;rintro z C ⟨rfl,f⟩;have o:=zH f;clear f;go_simp;refine mR ?_;go_wp2;refine mE ?_;rw[m.o];exact⟨rfl,o.o⟩
theorem xS:∀(d:List (List Int)) (c:Wo),(d.foldl je c).eO=c.eO/\(d.foldl je c).now=c.now
 |[],_=>⟨rfl,rfl⟩
 |b::t,c=>xS t (je c b)
theorem wk3 (o:Nat->Nat) (w:World) (p n m:Nat) (e:Wp) (x R:Wo) (wc:World) (H:X3 (dD o w p e x.eO.toNat x wc)) (i:X3 (WdX n m 0 0 x)) (f6:n<=200) (f5:m<=200) (a3:X3 (R={((iy x.now x.back.items).foldl je {x with back:={x.back with items:=iH x.now x.back.items}})with en:=kr ((iy x.now x.back.items).foldl je {x with back:={x.back with items:=iH x.now x.back.items}}).en ((iy x.now x.back.items).foldl je {x with back:={x.back with items:=iH x.now x.back.items}}).now}))
  (f7:V.length=111:=by exact rfl):
  let Q':X7:=bodyPost prog Tryz.f34 λe4 G=>e4=.returned (.tuple #[])/\dD o w p e R.eO.toNat R G
  Code.wp prog (WO 3 (Tryz.f34.body.getD .skip)) Q' ⟨((pT p)::V).toArray,[]⟩ wc:=by
 intro Q';generalize V=e8 at*
 revert e8;(repeat (refine lcZ ?_;intro _));refine lzZ ?_
 conv=>arg 2;whnf
 (try dsimp only);(have e0:x.back.count<=1000000000:=by have:=(i.o.small oM oM).2.2.1;omega);have b8:=zH i.o.back;have d8:=i.o.now;obtain⟨c3,_,_,q,r,_,d9,_⟩:=H.o.cells;obtain⟨c,l⟩:=eX (iy x.now x.back.items);have L:∀s∈c,dP s/\s.length<=100000:=λs D=>by
  rw[l]at D;obtain⟨b1,e2,rfl⟩:=wR D;exact(i.o.back.ok b1 e2).2
 obtain⟨f,v⟩:∃Z:Wo,Z={x with back:={x.back with items:=iH x.now x.back.items}}:=⟨_,rfl⟩;have a9:WdX n m 0 c.length f:=by
  have c4:=pU x.now x.back.items;have e9:=i.o.bki;rw[l,v];exact{i.o with back:=i.o.back.rest _,bki:=by simp only;omega}
 have c8:c.length<=2000000000:=by
  have c4:=pU x.now x.back.items;have f1:=i.o.back.items;rw[l];omega
 rw[<-l,<-v]at a3;obtain⟨J,b3⟩:=yx (show∀b,b<=c.length->WdX n m 0 (c.length -b) ((c.take b).foldl je f)from λb T=>Bf _ _ (by rw[aT,fJ T,Nat.add_sub_cancel' T];exact a9) (λs D=>(L s (bf D)).1)) L;(have d2:f.eO=x.eO:=by rw[v]);obtain⟨b6,a5⟩:=yx l v;clear l L a9 v;go_upto_region 11 with fail;refine' yJ (F:=_) (λB E C A=>∃d:List Bv,∃k,X3 (d.length=E)/\X3 (d.map (·.b)=iy x.now x.back.items)/\X3 (Came k A A B C d)/\X3 (iW A k p e x.eO.toNat {x with back:={x.back with items:=iH x.now x.back.items}})/\X3 (∀Y,Y<w.heap.size->k Y=o Y)/\X3 (dD o w p e x.eO.toNat {x with back:={x.back with items:=iH x.now x.back.items}} A)) ?tl (λc1=>?mn);case mn=>
  have d3:bW wc wc.drew:=bA (aj _ _);refine aZ (S:=λG=>G.cell? ⟨p,3,none⟩=some ((pT e.b))/\G.cell? ⟨p,4,none⟩=some (uI x.now)) kR (⟨q,r⟩) (λc7=>?_);clear c7;have g:wc.drew.cell? ⟨p,3,none⟩=some ((pT e.b))/\wc.drew.cell? ⟨p,4,none⟩=some (uI x.now):=⟨q,r⟩;refine tK 0 85 g ?_;refine tK 1 86 g ?_;refine tK 2 87 g ?_;refine X6 3 88 g ?_ (y:=by intro e6 K;have e5:=K.1;exact gS);refine nrm 11 15 ?_;refine tK 4 89 g ?_;refine tK 5 90 g ?_;refine tK 6 91 g ?_;refine X6 7 92 g ?_ (y:=by intro e6 K;have e5:=K.2;exact gS);refine nrm 11 255 ?_;refine tK 10 95 g ?_;refine nrm 11 1279 ?_;refine aI 8 kR ?_;refine opC 93 84 #[(pT e.b),uI x.now] (((H.o.below d3).QX e0 b8.o d8).mono ?_);rintro f2 b0 ⟨B,C,d,k,N,d5,d1,d0,c9,u⟩;obtain⟨E,W⟩:=eX d.length;rw[<-W]at N;have b7:=zH W;clear W;obtain⟨_,_,_,q,r,_⟩:=u.cells;have a6:b0.cell? ⟨p,3,none⟩=some ((pT e.b))/\b0.cell? ⟨p,4,none⟩=some (uI x.now):=⟨q,r⟩;refine⟨_,N,a6,?_⟩;clear N q r;refine Yf 9 94 a6 ?_;refine nrm 11 2047 ?_;refine bg kR ?_ _;exact c1 B E C _ ⟨d,k,zH b7.o.symm,zH d5,zH d1,zH d0,zH c9,zH u⟩
 case tl=>
  intro B E C c2 c6;obtain⟨d,k,a2,I,b4,a0,b2,a4⟩:=c6;have d7:=a2.o;subst d7;rw[<-b6.o]at I;rw[<-a5.o]at a0 a4;(have U:c.length=d.length:=by rw[<-I.o,bR]);rw[U]at J c8;clear H q r d9 c3 a2;(try simp only[]);go_upto_block 2 with fail;go_cut [] (λwx=>X3 (dD o w p e x.eO.toNat (c.foldl je f) wx));case first=>
   go_wp2;go_loopw [95] (λX wr=>∃(b:Nat),b<=d.length/\X=jI b/\X3 (dD k c2 p e x.eO.toNat ((c.take b).foldl je f) wr)) (λX _=>d.length -(intOf X).toNat);(case atStart=>exact⟨0,oM,rfl,zH (dD.refl a0.o)⟩);case round=>
    obtain⟨b,T,rfl,z⟩:=hrel;by_cases d4:b<d.length
    .obtain⟨f0,f8,rfl,f4,e3,M⟩:=(b4.o.to z.o).at_ d4
     have j:=J.o b oM;have a7:b<c.length:=oM;(have O:c[b]=d[b].b:=by simp[<-I.o]);(have a8:(c.take (b+1)).foldl je f=je ((c.take b).foldl je f) d[b].b:=by rw[bB a7,iA,O];rfl);have t:=b3.o c[b] (aN a7);rw[O]at t;(have d6:((c.take b).foldl je f).now=x.now:=by rw[(xS _ _).2,a5.o]);have b9:=zH a8;generalize(c.take b).foldl je f=b1 at*
     generalize d[b]=Z at*
     obtain⟨g1,g0,e7⟩:=Z;simp only at e3 M t;have e1:=j.small oM oM;have b5:=zH (z.o.hear j.en oM oM e7 M t.2 t.1 j.now);clear O a8 t M j e1 d6;go_wp2_with fail;refine Yd b5.o ?_;intro f9 u;have c0:=zH u;clear u;go_wp2;go_roundw;(case rel=>exact⟨b+1,oM,by go_num,by rw[b9.o];exact c0⟩);case measure=>exact Yl
    .obtain rfl:b=d.length:=oM
     rw[<-U,dM]at z;go_wp2;go_meet;exact zH (a4.o.via b2.o z.o)
  case rest=>
   have a1:=hcut;have j:=J.o d.length (av _);rw[<-U,dM]at j;obtain⟨c5,f3⟩:=xS c f;rw[<-d2,<-c5]at a1;go_step;exact wk4 o w p _ e (c.foldl je f) R wc a1 (zH j.en) j.now a3
def Fz (x:Wo):Wo:={((iy x.now x.back.items).foldl je {x with back:={x.back with items:=iH x.now x.back.items}})with en:=kr ((iy x.now x.back.items).foldl je {x with back:={x.back with items:=iH x.now x.back.items}}).en ((iy x.now x.back.items).foldl je {x with back:={x.back with items:=iH x.now x.back.items}}).now}
theorem wk2 (j:Nat->Nat) (w:World) (p n m:Nat) (b:Wp) (x R:Wo) (wc:World) (N:X3 (dD j w p b x.eO.toNat x wc)) (q:X3 (WdX n m 0 0 x)) (t:X3 (WdX (n+1) m 0 0 (jP x (kK x.pe x.now)))) (I:n+1<=200) (H:m<=200) (s:X3 (R=Fz (jP x (kK x.pe x.now))))
  (b4:V.length=111:=by exact rfl):
  let Q':X7:=bodyPost prog Tryz.f34 λb0 o=>b0=.returned (.tuple #[])/\dD j w p b R.eO.toNat R o
  Code.wp prog (WO 2 (Tryz.f34.body.getD .skip)) Q' ⟨((pT p)::V).toArray,[]⟩ wc:=by
 intro Q';generalize V=b3 at*
 revert b3;(repeat (refine lcZ ?_;intro _));refine lzZ ?_
 conv=>arg 2;whnf
 (try dsimp only);have a6:=q.o.now;obtain⟨z,A⟩:=vv (now:=x.now) q.o.pe;(have a8:x.back.count<1000000000:=by have:=(q.o.small oM oM).2.2.1;omega);obtain⟨_,f,_,_,c,_,a7,_⟩:=N.o.cells;obtain⟨e,J⟩:=eX (kK x.pe x.now);have Y:=zH J;obtain⟨B,u⟩:=eX e.b;obtain⟨O,E⟩:=eX e.ok;obtain⟨M,X⟩:=yx u E;rw[<-J]at z A t s;have Z:=zH (show∀l g i,Bys l (λ_=>True) g B->dD j w p b x.eO.toNat {x with pe:=e.pe} l->Yk 85 #[pT p,.slice g B.length i,bV O] l λa1 o=>a1=.returned (.tuple #[])/\dD j w p b x.eO.toNat (jP x e) o from λl g i T a9=>by
  rw[u,E];rw[u]at T;exact a9.told a8 q.o.back i T A z a6)
 clear J u E z A;go_upto_region 10 with fail;refine' yH (F:=_) (λl=>X3 (dD j w p b x.eO.toNat (jP x e) l)) ?tl (λa0=>?mn);case mn=>
  have a5:bW wc wc.drew:=bA (aj _ _);refine aZ (S:=λo=>o.cell? ⟨p,1,none⟩=some ((pT b.pe))/\o.cell? ⟨p,4,none⟩=some (uI x.now)) kR (⟨f,c⟩) (λa3=>?_);clear a3;have d:wc.drew.cell? ⟨p,1,none⟩=some ((pT b.pe))/\wc.drew.cell? ⟨p,4,none⟩=some (uI x.now):=⟨f,c⟩;refine tK 0 72 d ?_;refine tK 1 73 d ?_;refine tK 2 74 d ?_;refine tK 3 75 d ?_;refine nrm 13 15 ?_;refine X6 4 76 d ?_ (y:=by intro b2 D;have b1:=D.1;exact gS);refine tK 5 77 d ?_;refine tK 6 78 d ?_;refine tK 7 79 d ?_;refine nrm 13 255 ?_;refine X6 8 80 d ?_ (y:=by intro b2 D;have b1:=D.2;exact gS);refine nrm 13 511 ?_;refine aI 9 kR ?_;refine opC 81 87 #[(pT b.pe),uI x.now] (((N.o.below a5).ptick q.o.pe).mono ?_);rintro a2 L ⟨g,i,k,G,K⟩;rw[<-Y.o]at k G K;rw[<-M.o,<-X.o]at k;rw[<-M.o]at G;obtain⟨_,f,_,_,c,_⟩:=K.cells;have C:L.cell? ⟨p,1,none⟩=some ((pT b.pe))/\L.cell? ⟨p,4,none⟩=some (uI x.now):=⟨f,c⟩;refine⟨_,k,C,?_⟩;clear k f c;refine Yf 10 82 C ?_;refine tK 11 83 C ?_;refine nrm 13 4095 ?_;refine aI 12 kR ?_;refine opC 84 85 #[pT p,.slice g B.length i,bV O] ((Z.o L g i G K).mono ?_);rintro a2 W ⟨k,U⟩;obtain⟨_,f,_,_,c,_⟩:=U.cells;rw[SX]at c;have a4:W.cell? ⟨p,1,none⟩=some ((pT b.pe))/\W.cell? ⟨p,4,none⟩=some (uI x.now):=⟨f,c⟩;refine⟨_,k,a4,?_⟩;clear k f c;refine mP ?_;refine bg kR ?_ _;exact a0 g i _ (zH U)
 case tl=>
  intro g i v r;(try simp only[]);clear f c a7;rw[<-zY x e]at r;first|(go_step;exact wk3 j w p (n+1) m b (jP x e) R v r t I H s)|(go_step;go_step;exact wk3 j w p (n+1) m b (jP x e) R v r t I H s)|(go_step;go_step;go_step;exact wk3 j w p (n+1) m b (jP x e) R v r t I H s)
theorem Kh {x:Wo} (h:WdX n m 0 0 x) (c:(x.back.count:Int)+1<=x.eO+(n+1:Nat)):WdX (n+1) m 0 0 (jP x (kK x.pe x.now)):=by
 have d:=h.bkc;have e:=h.bki;have b:WdX (n+1) m 0 0 x:={h with bkc:=by push_cast;omega,bki:=by omega};exact Fw b (Ep h.pe) (vv h.pe).1 (vv h.pe).2 c
theorem wk1 (a9:Nat->Nat) (w:World) (p n m:Nat) (g:Wp) (x R:Wo) (wc:World) (c9:X3 (dD a9 w p g x.eO.toNat x wc)) (G:X3 (WdX n m 0 0 x)) (p5:n+1<=200) (p0:m<=200) (h5:X3 (R=Fz (jP ((iy x.now x.ahead.items).foldl jZ {x with ahead:={x.ahead with items:=iH x.now x.ahead.items}}) (kK ((iy x.now x.ahead.items).foldl jZ {x with ahead:={x.ahead with items:=iH x.now x.ahead.items}}).pe ((iy x.now x.ahead.items).foldl jZ {x with ahead:={x.ahead with items:=iH x.now x.ahead.items}}).now))))
  {r8 r9 s0 s1 s2 s3 s4 d:Value} (v9:V.length=103:=by exact rfl):
  let Q':X7:=bodyPost prog Tryz.f34 λr2 E=>r2=.returned (.tuple #[])/\dD a9 w p g R.eO.toNat R E
  Code.wp prog (WO 1 (Tryz.f34.body.getD .skip)) Q' ⟨((pT p)::r8::r9::s0::s1::s2::s3::s4::d::V).toArray,[]⟩ wc:=by
 intro Q';generalize V=t0 at*
 revert t0;(repeat (refine lcZ ?_;intro _));refine lzZ ?_
 conv=>arg 2;whnf
 (try dsimp only);(have q3:x.ahead.count<=1000000000:=by have:=(G.o.small oM oM).1;omega);have m1:=zH G.o.ahead;have p7:=G.o.now;have v3:=G.o.vR;obtain⟨_,_,b0,_,q,_,q1,_⟩:=c9.o.cells;obtain⟨k,a7⟩:=eX (iy x.now x.ahead.items);have M:∀b2∈k,dP b2/\b2.length<=100000:=λb2 Z=>by
  rw[a7]at Z;obtain⟨e,r0,rfl⟩:=wR Z;exact(G.o.ahead.ok e r0).2
 have n4:k.length<=2000000000:=by
  have m9:=pU x.now x.ahead.items;have t7:=G.o.ahead.items;rw[a7];omega
 obtain⟨l,b9⟩:∃g7:Wo,g7={x with ahead:={x.ahead with items:=iH x.now x.ahead.items}}:=⟨_,rfl⟩;have k4:WdX n m k.length 0 l:=by
  have m9:=pU x.now x.ahead.items;have t4:=G.o.ahi;rw[a7,b9];exact{G.o with ahead:=G.o.ahead.rest _,ahi:=by simp only;omega}
 rw[<-a7,<-b9]at h5;obtain⟨d5,c1⟩:=yx (show∀f,f<=k.length->WdX n m (k.length -f) 0 ((k.take f).foldl jZ l)from λf f5=>Bg _ _ (by rw[aT,fJ f5,Nat.add_sub_cancel' f5];exact k4) (λb2 Z=>(M b2 (bf Z)).1)) M;(have o3:l.eO=x.eO:=by rw[b9]);obtain⟨l3,l8,m7⟩:=Av o3 a7 b9;clear a7 M k4 b9;go_upto_region 1 with fail;refine' yJ (F:=_) (λv c5 z s=>∃r:List Bv,∃u,X3 (r.length=c5)/\X3 (r.map (·.b)=iy x.now x.ahead.items)/\X3 (Came u s s v z r)/\X3 (iW s u p g x.eO.toNat {x with ahead:={x.ahead with items:=iH x.now x.ahead.items}})/\X3 (∀g5,g5<w.heap.size->u g5=a9 g5)/\X3 (dD a9 w p g x.eO.toNat {x with ahead:={x.ahead with items:=iH x.now x.ahead.items}} s)) ?tl (λW=>?mn);case mn=>
  have o:bW wc wc.drew:=bA (aj _ _);refine aZ (S:=λE=>E.cell? ⟨p,2,none⟩=some ((pT g.a))/\E.cell? ⟨p,4,none⟩=some (uI x.now)) kR (⟨b0,q⟩) (λb3=>?_);clear b3;have c:wc.drew.cell? ⟨p,2,none⟩=some ((pT g.a))/\wc.drew.cell? ⟨p,4,none⟩=some (uI x.now):=⟨b0,q⟩;refine tK 0 19 c ?_;refine tK 1 20 c ?_;refine tK 2 21 c ?_;refine X6 3 22 c ?_ (y:=by intro g6 Y;have T:=Y.1;exact gS);refine nrm 11 15 ?_;refine tK 4 23 c ?_;refine tK 5 24 c ?_;refine tK 6 25 c ?_;refine X6 7 26 c ?_ (y:=by intro g6 Y;have T:=Y.2;exact gS);refine nrm 11 255 ?_;refine tK 10 29 c ?_;refine nrm 11 1279 ?_;refine aI 8 kR ?_;refine opC 27 84 #[(pT g.a),uI x.now] (((c9.o.below o).QY q3 m1.o p7).mono ?_);rintro i3 l ⟨v,z,r,u,B,p4,o2,n7,n6,b7⟩;obtain⟨c5,f8⟩:=eX r.length;rw[<-f8]at B;have l9:=zH f8;clear f8;obtain⟨_,_,b0,_,q,_⟩:=b7.cells;have a8:l.cell? ⟨p,2,none⟩=some ((pT g.a))/\l.cell? ⟨p,4,none⟩=some (uI x.now):=⟨b0,q⟩;refine⟨_,B,a8,?_⟩;clear B b0 q;refine Yf 9 28 a8 ?_;refine nrm 11 2047 ?_;refine bg kR ?_ _;exact W v c5 z _ ⟨r,u,zH l9.o.symm,zH p4,zH o2,zH n7,zH n6,zH b7⟩
 case tl=>
  intro v c5 z X n3;obtain⟨r,u,h3,d2,c8,g9,k8,h6⟩:=n3;have p6:=h3.o;subst p6;rw[<-l8.o]at d2;rw[<-m7.o,<-l3.o]at g9 h6;(have f7:k.length=r.length:=by rw[<-d2.o,bR]);rw[f7]at d5 n4;clear c9 b0 q q1 h3;(try simp only[]);go_upto_block 0 with fail;go_cut [] (λwx=>X3 (dD a9 w p g (k.foldl jZ l).eO.toNat (k.foldl jZ l) wx));case first=>
   go_wp2;go_loopw [29] (λa1 wr=>∃(f:Nat),f<=r.length/\a1=jI f/\X3 (dD u X p g ((k.take f).foldl jZ l).eO.toNat ((k.take f).foldl jZ l) wr)) (λa1 _=>r.length -(intOf a1).toNat);(case atStart=>exact⟨0,oM,rfl,zH (dD.refl g9.o)⟩);case round=>
    obtain⟨f,f5,rfl,b1⟩:=hrel;by_cases j5:f<r.length
    .obtain⟨c3,w1,rfl,v1,r1,j0⟩:=(c8.o.to b1.o).at_ j5
     have D:=d5.o f oM;have j3:f<k.length:=oM;(have f2:k[f]=r[f].b:=by simp[<-d2.o]);(have k3:(k.take (f+1)).foldl jZ l=jZ ((k.take f).foldl jZ l) r[f].b:=by rw[bB j3,iA,f2];rfl);have a0:=c1.o k[f] (aN j3);rw[f2]at a0;have m3:=zH k3;generalize(k.take f).foldl jZ l=e at*
     have h2:=zH (aN j5);generalize r[f]=g7 at*
     obtain⟨a2,k7,g8⟩:=g7;simp only at r1 j0 a0;have k2:=D.small oM oM;have v7:=D.vR;have v8:=k2.2.1;(have q2:e.fu<=1000000000:=by have:=D.fu;omega);have w2:IntKind.u64.wrap (e.eO+1)=e.eO+1:=Wz _ oM;obtain⟨_,_,_,_,_,n0,v6,j2⟩:=b1.o.cells;have s9:=j2 6;have c2:=zH D;obtain⟨h7,e6⟩:=eX (wr.setCell ⟨p,6,none⟩ (uI (e.eO+1)));obtain⟨A,g3⟩:∃A:Wo,A={e with eO:=e.eO+1}:=⟨_,rfl⟩;have h1:=zH (show dD u X p g e.eO.toNat A h7 by rw[e6,g3];exact b1.o.set1 6 _ _ (λ_ _ _ _ _ _ _ _ _=>rfl) rfl rfl rfl rfl rfl rfl rfl);have l1:=zH ((c8.o.to h1.o).bys _ h2.o);have h0:=zH (yY _ k7 g8 a2 h7 l1.o a0.2 a0.1);obtain⟨b,j1⟩:=eX ((ky a2).val);obtain⟨a6,f3⟩:=eX ((ky a2).err);rw[<-j1,<-f3]at h0;obtain⟨l4,m5,a4⟩:=Av f3 e6 g3;clear f2 k3 j0 D k2 j2 e6 g3 j1 f3;go_wp2_with fail;rw[<-m5.o];refine(h0.o).mono ?_;rintro i2 c6 ⟨i,j,rfl,o1,q4,i7⟩;have k9:=zH i7;clear i7 q4 o1 n0 s9;go_upto_if 46 with fail;obtain⟨a5,c4⟩:=eX (c6.alloc (.cells #[uI b.pn,uI b.bn,uI b.off,uI b.bX,jI b.ecn,.slice i b.body.length j] 115));rw[<-c4];(have i8:bW c6 a5:=by rw[c4];exact BEL);have C:=zH (show Blk a5 c6.heap.size 115 #[uI b.pn,uI b.bn,uI b.off,uI b.bX,jI b.ecn,.slice i b.body.length j] by rw[c4];exact Wx _ _ _);obtain⟨t5,i4⟩:=eX c6.heap.size;rw[<-i4]at C|-;have d0:=zH ((h1.o.below k9.o).below i8);(have j9:A.fu=e.fu:=by rw[a4.o]);have m0:=zH j9;clear c4 i4 i8 j9;obtain⟨d,k5⟩:∃d:Wo,d={A with fu:=if a6=0 then A.fu+1 else A.fu}:=⟨_,rfl⟩;have U:=zH k5;clear k5;go_cut [] (λwx=>X3 (dD u X p g e.eO.toNat d wx));case first=>
      by_cases N:a6=0
      .have o5:(a6==0)=true:=by simpa using N
       (have o6:=bM N);obtain⟨H,I,t,t8,t1,j4,f6,f1,f0,v4,j6,j7⟩:=d0.o.packP;(have v5:t.length<=1000000000:=by rw[j4,m0.o];exact q2);obtain⟨a3,d3,d4⟩:=Av f6 j6 j7;obtain⟨w0,f4,g4,J,v0⟩:=info_parts (show(prog.info? 115).map (λa1=>(a1.zero,a1.size,a1.bytes))=some (some (.agg #[uI 0,uI 0,uI 0,uI 0,jI 0,zzN]),6,64) by kernel_rfl);have k0:=f6.lt;have v2:=C.o.lt;(have b8:d={A with fu:=A.fu+1}:=by rw[U.o,aB N]);have d6:=zH b8;clear f6 j6 j7 j4 b8 N;go_upto_region 7 with fail;refine' FQ (F:=_) (λs=>X3 (dD u X p g e.eO.toNat {A with fu:=A.fu+1} s)) ?tl2 (λW=>?mn2);case mn2=>
        have o:bW a5 a5.drew:=bA (aj _ _);refine aZ (S:=λE=>True) kR (trivial) (λb3=>?_);clear b3;have c:True:=trivial;refine tK 0 47 c ?_;refine tK 1 48 c ?_;refine tK 2 49 c ?_;refine tK 3 50 c ?_;refine nrm 11 15 ?_;refine fo 4 5 kR ?_ ?_
        .refine iw (op:=_) rfl kR (some 51) kR (.slice H t.length I) ?_ ?_
         .have T:a5.drew.cell? ⟨p,7,none⟩=some (.slice H t.length I):=((a3.o.below o a3.o.lt).cell 7).trans f0
          go_simp
         refine⟨c,?_⟩;refine mP ?_;refine aI 5 kR ?_;refine iw (op:=_) rfl kR (some 52) kR (.agg #[uI b.pn,uI b.bn,uI b.off,uI b.bX,jI b.ecn,.slice i b.body.length j]) ?_ ?_
         .obtain⟨T,_,r3,_,r4,_,r5,_,r6,_,r7,_⟩:=(C.o.below o C.o.lt).c6
          have o9:=(C.o.below o C.o.lt).lt;go_simp
         refine⟨c,?_⟩;refine mP ?_;refine aI 6 kR ?_;refine jX (op:=_) rfl kR (some 53) kR 107 115 1 #[(0,.tmp 52)] kR #[uI b.pn,uI b.bn,uI b.off,uI b.bX,jI b.ecn,.slice i b.body.length j] kV.ht f4 g4 (by rw[J];decide) (by rw[J];decide) (by rw[J];kernel_rfl) ?_;intro h8 c7 L b6 o0;have i6:=o.trans (L.mono o.size);refine⟨trivial,?_⟩;clear L b6;refine mP ?_;refine aI 7 kR ?_;refine jl (op:=_) rfl kR (kV.wpOD (some 54) kR (.tmp 51) (.tmp 53) rfl H I t kR (d3.o.below i6) (some ⟨h8,0,none⟩) 1 [(⟨[uI b.pn,uI b.bn,uI b.off,uI b.bX,jI b.ecn,.slice i b.body.length j],rfl,by simp[Value.oneCell']⟩:Six)] kR (kV.single (⟨[uI b.pn,uI b.bn,uI b.off,uI b.bX,jI b.ecn,.slice i b.body.length j],rfl,by simp[Value.oneCell']⟩:Six) o0 rfl) (by simp only[bO];omega) dC ?_);intro d9 e4 s8 p8 p1 b4;clear b4;obtain⟨b5,O⟩:=d4.o c7 s8 (⟨[uI b.pn,uI b.bn,uI b.off,uI b.bX,jI b.ecn,.slice i b.body.length j],rfl,by simp[Value.oneCell']⟩:Six) d9 e4 i6 p8 p1;refine⟨trivial,?_⟩;refine Yf 8 55 c ?_;refine tK 9 56 c ?_;refine nrm 11 1023 ?_;refine aI 10 kR ?_;refine fF (op:=_) rfl kR kR 107 (.tmp 56) (.tmp 54) kR p 7 (.slice d9 (t++[(⟨[uI b.pn,uI b.bn,uI b.off,uI b.bX,jI b.ecn,.slice i b.body.length j],rfl,by simp[Value.oneCell']⟩:Six)]).length e4) kR kR rfl kR b5 (by rw[f1];decide) ?_;intro w3 q7;rw[<-q7]at O;refine⟨trivial,?_⟩;refine mP ?_;refine bg kR ?_ _;exact W h8 d9 e4 _ (zH O)
        .refine iw (op:=_) rfl kR (some 52) kR (.agg #[uI b.pn,uI b.bn,uI b.off,uI b.bX,jI b.ecn,.slice i b.body.length j]) ?_ ?_
         .obtain⟨T,_,r3,_,r4,_,r5,_,r6,_,r7,_⟩:=(C.o.below o C.o.lt).c6
          have o9:=(C.o.below o C.o.lt).lt;go_simp
         refine⟨c,?_⟩;refine mP ?_;refine fo 4 6 kR ?_ ?_
         .refine iw (op:=_) rfl kR (some 51) kR (.slice H t.length I) ?_ ?_
          .have T:a5.drew.cell? ⟨p,7,none⟩=some (.slice H t.length I):=((a3.o.below o a3.o.lt).cell 7).trans f0
           go_simp
          refine⟨c,?_⟩;refine mP ?_;refine aI 6 kR ?_;refine jX (op:=_) rfl kR (some 53) kR 107 115 1 #[(0,.tmp 52)] kR #[uI b.pn,uI b.bn,uI b.off,uI b.bX,jI b.ecn,.slice i b.body.length j] kV.ht f4 g4 (by rw[J];decide) (by rw[J];decide) (by rw[J];kernel_rfl) ?_;intro h9 s5 L b6 n8;have i5:=o.trans (L.mono o.size);refine⟨trivial,?_⟩;clear L b6;refine mP ?_;refine aI 7 kR ?_;refine jl (op:=_) rfl kR (kV.wpOD (some 54) kR (.tmp 51) (.tmp 53) rfl H I t kR (d3.o.below i5) (some ⟨h9,0,none⟩) 1 [(⟨[uI b.pn,uI b.bn,uI b.off,uI b.bX,jI b.ecn,.slice i b.body.length j],rfl,by simp[Value.oneCell']⟩:Six)] kR (kV.single (⟨[uI b.pn,uI b.bn,uI b.off,uI b.bX,jI b.ecn,.slice i b.body.length j],rfl,by simp[Value.oneCell']⟩:Six) n8 rfl) (by simp only[bO];omega) dC ?_);intro d7 e2 s6 p9 p2 b4;clear b4;obtain⟨b5,O⟩:=d4.o s5 s6 (⟨[uI b.pn,uI b.bn,uI b.off,uI b.bX,jI b.ecn,.slice i b.body.length j],rfl,by simp[Value.oneCell']⟩:Six) d7 e2 i5 p9 p2;refine⟨trivial,?_⟩;refine Yf 8 55 c ?_;refine tK 9 56 c ?_;refine nrm 11 1023 ?_;refine aI 10 kR ?_;refine fF (op:=_) rfl kR kR 107 (.tmp 56) (.tmp 54) kR p 7 (.slice d7 (t++[(⟨[uI b.pn,uI b.bn,uI b.off,uI b.bX,jI b.ecn,.slice i b.body.length j],rfl,by simp[Value.oneCell']⟩:Six)]).length e2) kR kR rfl kR b5 (by rw[f1];decide) ?_;intro w4 q8;rw[<-q8]at O;refine⟨trivial,?_⟩;refine mP ?_;refine bg kR ?_ _;exact W h9 d7 e2 _ (zH O)
         .refine jX (op:=_) rfl kR (some 53) kR 107 115 1 #[(0,.tmp 52)] kR #[uI b.pn,uI b.bn,uI b.off,uI b.bX,jI b.ecn,.slice i b.body.length j] kV.ht f4 g4 (by rw[J];decide) (by rw[J];decide) (by rw[J];kernel_rfl) ?_
          intro i0 k6 L b6 n9;have e5:=o.trans (L.mono o.size);refine⟨trivial,?_⟩;clear L b6;refine mP ?_;refine aI 4 kR ?_;refine iw (op:=_) rfl kR (some 51) kR (.slice H t.length I) ?_ ?_
          .have T:k6.cell? ⟨p,7,none⟩=some (.slice H t.length I):=((a3.o.below e5 a3.o.lt).cell 7).trans f0
           go_simp
          refine⟨c,?_⟩;refine mP ?_;refine aI 7 kR ?_;refine jl (op:=_) rfl kR (kV.wpOD (some 54) kR (.tmp 51) (.tmp 53) rfl H I t kR (d3.o.below e5) (some ⟨i0,0,none⟩) 1 [(⟨[uI b.pn,uI b.bn,uI b.off,uI b.bX,jI b.ecn,.slice i b.body.length j],rfl,by simp[Value.oneCell']⟩:Six)] kR (kV.single (⟨[uI b.pn,uI b.bn,uI b.off,uI b.bX,jI b.ecn,.slice i b.body.length j],rfl,by simp[Value.oneCell']⟩:Six) n9 rfl) (by simp only[bO];omega) dC ?_);intro d8 e3 s7 q0 p3 b4;clear b4;obtain⟨b5,O⟩:=d4.o k6 s7 (⟨[uI b.pn,uI b.bn,uI b.off,uI b.bX,jI b.ecn,.slice i b.body.length j],rfl,by simp[Value.oneCell']⟩:Six) d8 e3 e5 q0 p3;refine⟨trivial,?_⟩;refine Yf 8 55 c ?_;refine tK 9 56 c ?_;refine nrm 11 1023 ?_;refine aI 10 kR ?_;refine fF (op:=_) rfl kR kR 107 (.tmp 56) (.tmp 54) kR p 7 (.slice d8 (t++[(⟨[uI b.pn,uI b.bn,uI b.off,uI b.bX,jI b.ecn,.slice i b.body.length j],rfl,by simp[Value.oneCell']⟩:Six)]).length e3) kR kR rfl kR b5 (by rw[f1];decide) ?_;intro w5 q9;rw[<-q9]at O;refine⟨trivial,?_⟩;refine mP ?_;refine bg kR ?_ _;exact W i0 d8 e3 _ (zH O)
       case tl2=>
        intro t6 m8 n1 t2 l6;(try simp only[]);go_wp2;go_meet;rw[d6.o];exact l6
      .have o5:(a6==0)=false:=by simpa using N
       (have o6:=bJ N);(have b8:d=A:=by rw[U.o,Ww N]);have d6:=zH b8;clear b8 N;go_wp2;go_meet;rw[d6.o];exact d0
     case rest=>
      have d1:=hcut;clear d0;(have f9:Word d.now:=by rw[U.o,a4.o];exact c2.o.now);have n2:(e.eO+1).toNat=e.eO.toNat+1:=oM;(have j8:d.pe=e.pe:=by rw[U.o,a4.o]);(have e7:d.back=e.back:=by rw[U.o,a4.o]);(have o4:d.eO=e.eO+1:=by rw[U.o,a4.o]);have h4:=zH (show jN e.eO.toNat 32 32 d.pe by rw[j8];exact c2.o.pe);have o7:e.eO.toNat<=600000:=oM;have o8:e.eO.toNat<=1000000000:=oM;have l2:=zH ((c8.o.to d1.o).bys _ h2.o);(have k1:d.back.count<1000000000:=by rw[e7];have:=(c2.o.small oM oM).2.2.1;omega);(have i9:vY d.back.count d.back:=by rw[e7];exact c2.o.back);obtain⟨e0,c3⟩:=IJ (now:=d.now) h4.o a0.1 f9;have g2:jZ e a2=jP d (oN d.pe a2 d.now):=by
       rw[U.o,a4.o,l4.o];rfl
      obtain⟨_,K,_,_,q,_,k0,_⟩:=d1.o.cells;obtain⟨c0,g0⟩:=eX (oN d.pe a2 d.now);have m2:=zH g0;obtain⟨e1,M⟩:=eX c0.b;obtain⟨i1,e8⟩:=eX c0.ok;obtain⟨c1,l0⟩:=yx M e8;rw[<-g0]at e0 c3 g2;have m4:=zH (show∀s v z,Bys s (λ_=>True) v e1->dD u X p g (e.eO.toNat+1) {d with pe:=c0.pe} s->Yk 85 #[pT p,.slice v e1.length z,bV i1] s λi2 E=>i2=.returned (.tuple #[])/\dD u X p g (e.eO.toNat+1) (jP d c0) E from λs v z Z q5=>by
       rw[M,e8];rw[M]at Z;exact q5.told k1 i9 z Z c3 e0 f9)
      have m6:=zH g2;clear g0 M e8 e0 c3 g2 j8 e7 i9 k1;go_upto_region 8 with fail;refine' yH (F:=_) (λs=>X3 (dD u X p g (e.eO.toNat+1) (jP d c0) s)) ?tl3 (λW=>?mn3);case mn3=>
       have o:bW wc wc.drew:=bA (aj _ _);refine aZ (S:=λE=>E.cell? ⟨p,1,none⟩=some ((pT g.pe))/\E.cell? ⟨p,4,none⟩=some (uI d.now)) kR (⟨K,q⟩) (λb3=>?_);clear b3;have c:wc.drew.cell? ⟨p,1,none⟩=some ((pT g.pe))/\wc.drew.cell? ⟨p,4,none⟩=some (uI d.now):=⟨K,q⟩;refine tK 0 57 c ?_;refine tK 1 58 c ?_;refine tK 2 59 c ?_;refine tK 3 60 c ?_;refine nrm 14 15 ?_;refine X6 4 61 c ?_ (y:=by intro g6 Y;have T:=Y.1;exact gS);refine tK 5 62 c ?_;refine tK 6 63 c ?_;refine tK 7 64 c ?_;refine nrm 14 255 ?_;refine tK 8 65 c ?_;refine X6 9 66 c ?_ (y:=by intro g6 Y;have T:=Y.2;exact gS);refine nrm 14 1023 ?_;refine aI 10 kR ?_;refine opC 67 86 #[(pT g.pe),.slice k7 a2.length g8,uI d.now] (((d1.o.below o).take h4.o o7 o8 g8 (aD l2.o o) a0.2 a0.1 f9).mono ?_);rintro i3 l ⟨v,z,B,e9,g1⟩;rw[<-m2.o]at B e9 g1;rw[<-c1.o,<-l0.o]at B;rw[<-c1.o]at e9;obtain⟨_,K,_,_,q,_⟩:=g1.cells;have a8:l.cell? ⟨p,1,none⟩=some ((pT g.pe))/\l.cell? ⟨p,4,none⟩=some (uI d.now):=⟨K,q⟩;refine⟨_,B,a8,?_⟩;clear B K q;refine Yf 11 68 a8 ?_;refine tK 12 69 a8 ?_;refine nrm 14 8191 ?_;refine aI 13 kR ?_;refine opC 70 85 #[pT p,.slice v e1.length z,bV i1] ((m4.o l v z e9 g1).mono ?_);rintro i3 c7 ⟨B,b7⟩;obtain⟨_,K,_,_,q,_⟩:=b7.cells;rw[SX]at q;have n5:c7.cell? ⟨p,1,none⟩=some ((pT g.pe))/\c7.cell? ⟨p,4,none⟩=some (uI d.now):=⟨K,q⟩;refine⟨_,B,n5,?_⟩;clear B K q;refine mP ?_;refine bg kR ?_ _;exact W v z _ (zH b7)
      case tl3=>
       intro m8 n1 t3 l7;(try simp only[]);clear K q k0;go_wp2;go_roundw;(case rel=>exact⟨f+1,oM,by go_num,by rw[m3.o,m6.o,zY,o4,n2];exact l7⟩);case measure=>exact Yl
    .obtain rfl:f=r.length:=oM
     rw[<-f7,dM]at b1;go_wp2;go_meet;exact zH (h6.o.via k8.o b1.o)
  case rest=>
   have l5:=hcut;have D:=d5.o r.length (av _);rw[<-f7,dM,Nat.sub_self]at D;have t9:=D.bkc;have q6:=Kh D (by push_cast;omega);go_step;exact wk2 a9 w p n m g (k.foldl jZ l) R wc l5 (zH D) (zH q6) p5 p0 h5
theorem MH (f:Nat->Nat) (w:World) (p n m:Nat) (g:Wp) (x:Wo) (d:Int) (h:iW w f p g x.eO.toNat x) (c:WdX n m 0 0 x) (z:n+1<=200) (y:m<=200) (o:Word d):
  Yk 34 #[pT p,uI d] w λA B=>A=.returned (.tuple #[])/\dD f w p g (xF x d).eO.toNat (xF x d) B:=by
 have t:=zH (dD.refl h);obtain⟨_,_,_,_,C,_,D,q⟩:=(dD.refl h).cells;have E:=q 4;have s:=zH (lT x.now d c.now o);have r:Word (WI x.now d):=fB c.now o;have j:=zH (show WdX n m 0 0 {x with now:=WI x.now d}from{c with now:=r});obtain⟨k,i⟩:=eX (xF x d);rw[<-i];obtain⟨b,e⟩:∃b:Wo,b={x with now:=WI x.now d}:=⟨_,rfl⟩;rw[<-e]at j;have l:k=Fz (jP ((iy b.now b.ahead.items).foldl jZ {b with ahead:={b.ahead with items:=iH b.now b.ahead.items}}) (kK ((iy b.now b.ahead.items).foldl jZ {b with ahead:={b.ahead with items:=iH b.now b.ahead.items}}).pe ((iy b.now b.ahead.items).foldl jZ {b with ahead:={b.ahead with items:=iH b.now b.ahead.items}}).now)):=by
  rw[i,e];rfl
 obtain⟨u,v⟩:=yx l e;clear h c q r i l e;go_enter Tryz.func34,Tryz.ntmps34;go_upto_region 0 with fail;go_cut [] (λwx=>X3 (dD f w p g b.eO.toNat b wx));case first=>
  go_wp2_with fail;refine Yg (s.o _) ?_;go_wp2;go_meet;rw[v.o];exact zH (t.o.set1 4 _ _ (λ_ _ _ _ _ _ _ _ _=>rfl) rfl rfl rfl rfl rfl rfl rfl)
 case rest=>
  go_step;exact wk1 f w p n m g b k wc hcut j z y u
theorem Wn:Elem prog 95 47 1 24 bvV:=
 ⟨by kernel_rfl,by
  obtain⟨b,d,e,f,g⟩:=info_parts (show(prog.info? 47).map (λb=>(b.zero,b.size,b.bytes))=some (some (zzN),1,24) by kernel_rfl);exact⟨b,_,d,e,f,g,rfl⟩,dC,λ_=>rfl,λj i c=>by simp[bvV]at c;rw[c];rfl⟩
theorem MJ {c:Nat->Nat} {d:Wp} {x:Wo} (h:dD c w p d k x w') {g:Nat} (hb:Blk w g t C) (b:some t∉woT):Blk w' g t C:=hb.mod h.m b
theorem wd5 (B z:Nat->Nat) (m w:World) (p n e:Nat) (j:Wp) (x:Wo) (c:Int) (wc:World) (q:X3 (dD z w p j x.eO.toNat x wc)) (T:X3 (∀A b G,dD z w p j A b G->dD B m p j A b G)) (M:X3 (Blk w e 41 Yj)) (Z:m.heap.size<=e) (b0:n<=148) (k:X3 (WdX (n+1) (n+1) 0 0 x))
  (b1:V.length=104:=by exact rfl):
  let Q':X7:=bodyPost prog Tryz.f11 λa0 l=>a0=.returned (.agg (zzRow (woRow x) c))/\dD B m p j x.eO.toNat x l
  Code.wp prog (WO 5 (Tryz.f11.body.getD .skip)) Q' ⟨((pT p)::f::g::i::(pT e)::jI c::V).toArray,[]⟩ wc:=by
 intro Q';generalize V=a6 at*
 revert a6;(repeat (refine lcZ ?_;intro _));refine lzZ ?_
 conv=>arg 2;whnf
 (try dsimp only);have C:=zH (MJ q.o M.o dC);obtain⟨a1,a2,a3,a4,a5⟩:=k.o.small oM oM;have K:x.eO.toNat<=100000:=by
  have a7:=k.o.ahi;have a8:=k.o.ahc;omega
 have E:=zH (λl (X:bW wc l)=>GV z w l p x.eO.toNat x.eO.toNat _ j x (q.o.below X) k.o.en k.o.pe K oM oM);obtain⟨b,y⟩:=eX (woRow x);rw[<-y]at E;have W:=zH y;clear y a1 a2 a3 a4 a5 K;repeat ((fail_if_success (with_reducible apply eG));first|(go_at_call 14;refine(E.o _ (aj _ _)).mono ?_;rintro a9 d ⟨rfl,v⟩;have S:=zH (q.o.below v);have D:=zH (C.o.below v C.o.lt);clear v)|(refine iG 41 (.tmp 11) (.tmp 106) rfl rfl rfl d.heap.size 0 (zzRow b b.err) kR kR ((Wx d 41 Yj).there _ sM) kR XF ?_;intro H r;have F:=zH (show Blk H d.heap.size 41 (zzRow b b.err) by rw[r];exact Blk.gF (Wx d 41 _) [jI b.aS.aS,uI b.aS.now,uI b.aS.cr,uI b.aS.dL,uI b.aS.jS,uI b.aS.bK,uI b.aS.gU,uI b.aS.next,uI b.aS.low,uI b.aS.fG,uI b.aS.gP,uI b.aS.dh.dB,uI b.aS.dh.eT,uI b.aS.dh.fI,uI b.aS.dh.bE,uI b.aS.dh.late,uI b.sent,uI b.eO,uI b.told,uI b.tJ,uI b.qm,jI b.err] rfl);have N:=zH (show bW d H by rw[r];exact Below.bZ (av _) _ _ _ BEL);clear r)|(refine qR 39 (.tmp 108) (.tmp 107) rfl rfl rfl d.heap.size 21 (jI c) kR kR rfl kR F.o sM ?_;intro I s;have U:=zH (show Blk I d.heap.size 41 (zzRow b c) by rw[s];exact F.o.bF 21 _);have u:bW d I:=(by rw[s];exact bG N.o (av _) _);have O:=zH (S.o.below u);have o:=zH (D.o.below u D.o.lt);clear s u)|(refine kP 41 (.tmp 11) rfl rfl (some 109) rfl d.heap.size kR (zzRow b c) U.o _ Tryz.underlying41 kR kR ?_)|(refine iG 41 (.tmp 4) (.tmp 109) rfl rfl rfl e 0 (zzRow b c) kR kR (o.o.there _ sM) kR XF ?_;intro J t;have L:=zH (show Blk J e 41 (zzRow b c) by rw[t];exact Blk.gF o.o [jI b.aS.aS,uI b.aS.now,uI b.aS.cr,uI b.aS.dL,uI b.aS.jS,uI b.aS.bK,uI b.aS.gU,uI b.aS.next,uI b.aS.low,uI b.aS.fG,uI b.aS.gP,uI b.aS.dh.dB,uI b.aS.dh.eT,uI b.aS.dh.fI,uI b.aS.dh.bE,uI b.aS.dh.late,uI b.sent,uI b.eO,uI b.told,uI b.tJ,uI b.qm,jI c] rfl);have R:=zH (show dD B m p j x.eO.toNat x J by rw[t];exact(T.o _ _ _ O.o).loc (Mod.bZ [jI b.aS.aS,uI b.aS.now,uI b.aS.cr,uI b.aS.dL,uI b.aS.jS,uI b.aS.bK,uI b.aS.gU,uI b.aS.next,uI b.aS.low,uI b.aS.fG,uI b.aS.gP,uI b.aS.dh.dB,uI b.aS.dh.eT,uI b.aS.dh.fI,uI b.aS.dh.bE,uI b.aS.dh.late,uI b.sent,uI b.eO,uI b.told,uI b.tJ,uI b.qm,jI c] 0 _ _ o.o) dC (λA Y=>by rw[Y];exact Z));clear t)|go_values|go_skip|go_guarded|go_step|go_upon|go_back|go_simp)
 (try simp only[Exit.inBlock,Exit.then])
 refine iZ 4 41 e (zzRow b c) kR kR L.o _ Tryz.underlying41 kR kR rfl ?_;refine⟨?_,R.o⟩;rw[W.o]
section
variable {P:Program} {Q:X7} {a:Act} {w:World}
theorem FP {l:List Oper} (F:Option Addr->Nat->Act) (C:Option Addr->Nat->World->Prop) (e:∀b c d,C b c d->Q .normal (F b c) d) (h:(∀b c d,C b c d->Q .normal (F b c) d)->(Code.region p l.toArray true).wp P Q a w):(Code.region p l.toArray true).wp P Q a w:=h e
end
theorem wd4 (f3 L:Nat->Nat) (b6 w:World) (p n b0:Nat) (o:Wp) (x:Wo) (d3:Int) (wc:World) (l0:X3 (dD L w p o x.eO.toNat x wc)) (m0:X3 (∀d k8 B,dD L w p o d k8 B->dD f3 b6 p o d k8 B)) (k9:X3 (Blk w b0 41 Yj)) (o1:b6.heap.size<=b0) (o2:n<=148) (m2:X3 (WdX (n+1) n 0 0 x)) (R:Wo) (l7:X3 (R=GY x))
  {f6 f7 k4 k5 k6:Value} (q9:V.length=102:=by exact rfl):
  let Q':X7:=bodyPost prog Tryz.f11 λp1 O=>p1=.returned (.agg (zzRow (woRow R) d3))/\dD f3 b6 p o R.eO.toNat R O
  Code.wp prog (WO 4 (Tryz.f11.body.getD .skip)) Q' ⟨((pT p)::f6::f7::k4::(pT b0)::jI d3::k5::k6::V).toArray,[]⟩ wc:=by
 intro Q';generalize V=p6 at*
 revert p6;(repeat (refine lcZ ?_;intro _));refine lzZ ?_
 conv=>arg 2;whnf
 (try dsimp only);have e5:=Yq m2.o;have l4:=zH e5;have j4:=PV e5;have l3:=zH j4;clear e5 j4;go_upto_block 1 with fail;go_cut [] (λwx=>X3 (dD L w p o R.eO.toNat R wx)/\X3 (WdX (n+1) (n+1) 0 0 R));case first=>
  go_wp2;go_loopg [] (x.en.cO.toNat+257) (λd wr=>∃b,X3 (dD L w p o b.eO.toNat b wr)/\X3 (WdP n b)/\X3 (pm b.en<d)/\X3 (qI d b=R));(case atStart=>exact⟨x,l0,l4,l3,zH (by rw[l7.o];rfl)⟩);case round=>
   obtain⟨b,h0,f,c5,h2⟩:=hrel;obtain⟨d,i⟩:∃d,gk=d+1:=⟨gk -1,by have h7:=(PU f.o.en).1;have b1:=c5.o;omega⟩;subst i;obtain⟨Y,N,o8⟩:=h0.o.c04;have p0:b.heard+b.sent+n<=80000000:=by
    obtain⟨f6,f7,k4,r3,r4,k5⟩:=MP f.o.ahc f.o.ahi f.o.bkc f.o.bki f.o.sent f.o.en.rO;have k6:=f.o.en.le.room;omega
   obtain⟨M,e7⟩:=eX (fD b.en b.now);have A:=zH e7;obtain⟨c,i4⟩:=eX M.b;obtain⟨a2,i6⟩:=eX M.err;obtain⟨Z,c0⟩:=yx i4 i6;clear e7 i4 i6;go_upto_region 20 with fail;refine' FP (F:=_) (λk J B=>X3 (dD L w p o b.eO.toNat {b with en:=M.en} B)/\X3 (Bys B (λ_=>True) k c)) ?tl (λa1=>?mn);case mn=>
    have r:bW wr wr.drew:=bA (aj _ _);refine aZ (S:=λO=>O.cell? ⟨p,0,none⟩=some ((pT o.e))/\O.cell? ⟨p,4,none⟩=some (uI b.now)) kR (⟨Y,N⟩) (λd6=>?_);clear d6;have e:wr.drew.cell? ⟨p,0,none⟩=some ((pT o.e))/\wr.drew.cell? ⟨p,4,none⟩=some (uI b.now):=⟨Y,N⟩;refine tK 0 64 e ?_;refine tK 1 65 e ?_;refine tK 2 66 e ?_;refine X6 3 67 e ?_ (y:=by intro p2 d7;have b5:=d7.1;exact gS);refine nrm 14 15 ?_;refine tK 4 68 e ?_;refine tK 5 69 e ?_;refine tK 6 70 e ?_;refine X6 7 71 e ?_ (y:=by intro p2 d7;have b5:=d7.2;exact gS);refine nrm 14 255 ?_;refine aI 8 kR ?_;refine opC 72 37 #[(pT o.e),uI b.now] (((h0.o.below r).poll f.o.en p0 f.o.now).mono ?_);rintro q4 k7 ⟨k,J,b4,n4,d9,e9⟩;rw[<-A.o]at b4 d9 e9 n4;rw[<-Z.o,<-c0.o]at b4;rw[<-Z.o]at d9;obtain⟨Y,N,_⟩:=e9.c04;have X:k7.cell? ⟨p,0,none⟩=some ((pT o.e))/\k7.cell? ⟨p,4,none⟩=some (uI b.now):=⟨Y,N⟩;refine⟨_,b4,X,?_⟩;clear b4 Y N;refine Yf 9 63 X ?_;refine tK 10 73 X ?_;refine tK 11 74 X ?_;refine tK 12 7 X ?_;refine nrm 14 8191 ?_;refine tK 13 8 X ?_;refine nrm 14 16383 ?_;refine bg kR ?_ _;exact a1 k J _ ⟨zH e9,zH d9⟩
   case tl=>
    intro k J g m8;obtain⟨g9,a0⟩:=m8;clear Y N o8;(try simp only[]);by_cases E:a2=0
    .have D:(fD b.en b.now).err=0:=by rw[<-A.o,<-c0.o];exact E
     obtain⟨⟨f4,f5⟩,_⟩:=BS f.o.en f.o.now D;rw[<-A.o,<-Z.o]at f4 f5;have K:dP c/\c.length<=100000:=⟨f4,f5⟩;obtain⟨j8,j5⟩:=DI f.o D;have e6:=IC (w:=b) d D;rw[h2.o]at e6;obtain⟨h3,h1,g8⟩:=Av j8 j5 e6;(have o3:(a2 !=0)=false:=by simpa using E);(have o5:decide (a2≠0)=false:=by simpa using E);obtain⟨t,u,m,q3,p7,i8,e4,e1,e0,q6,j2,j3⟩:=g9.o.sentP;(have q7:m.length<=1000000000:=by rw[i8];show b.sent<=_;omega);obtain⟨T,c2,c3⟩:=Av e4 j2 j3;obtain⟨r0,e3,f1,z,q5⟩:=info_parts (show(prog.info? 47).map (λf2=>(f2.zero,f2.size,f2.bytes))=some (some (zzN),1,24) by kernel_rfl);have e7:=e4.lt;clear e4 j2 j3 i8 E D f4 f5 j8 j5 e6;go_upto_region 22 with fail;refine' yI (F:=_) (λB=>X3 (dD L w p o b.eO.toNat {b with en:=M.en,sent:=b.sent+1} B)/\X3 (Bys B (λ_=>True) k c)) ?tl2 (λa1=>?mn2);case mn2=>
      have r:bW g g.drew:=bA (aj _ _);refine aZ (S:=λO=>True) kR (trivial) (λd6=>?_);clear d6;have e:True:=trivial;refine tK 0 77 e ?_;refine tK 1 78 e ?_;refine tK 2 79 e ?_;refine tK 3 80 e ?_;refine nrm 12 15 ?_;refine tK 5 82 e ?_;refine nrm 12 47 ?_;refine fo 4 6 kR ?_ ?_
      .refine iw (op:=_) rfl kR (some 81) kR (.slice t m.length u) ?_ ?_
       .have b5:g.drew.cell? ⟨p,9,none⟩=some (.slice t m.length u):=((T.o.below r T.o.lt).cell 9).trans e0
        go_simp
       refine⟨trivial,?_⟩;refine mP ?_;refine aI 6 kR ?_;refine jl (op:=_) rfl kR (fe.wp _ (.tmp 82) rfl g.drew.heap.size none 0 [] kR (iq _ _ _ _) k J c kR (aD a0.o r) (by simp only[List.length_nil];omega) dC (av _) ?_);intro C U g0 v s;rw[List.nil_append]at v;have a5:Below g.drew.heap.size g.drew g0:=(aj _ _).grown s (av _) XI;have b3:=(OwnAt.fresh v).cap_;have o0:Bys g0 (λd=>g.heap.size<=d/\d<g0.heap.size) C c:=aF (OwnAt.fresh v).row (λd i=>⟨ay r.size i.1,i.2⟩);have h8:=r.trans (a5.mono r.size);rw[List.nil_append];refine⟨trivial,?_⟩;clear v s a5;refine mP ?_;refine aI 7 kR ?_;refine jX (op:=_) rfl kR (some 84) kR 95 47 1 #[(0,.tmp 83)] kR #[.slice C c.length U] Wn.ht e3 f1 (by rw[z];decide) (by rw[z];decide) (by rw[z];kernel_rfl) ?_;intro h6 g3 l a9 n2;have n7:Bys g3 (λd=>g.heap.size<=d/\d<g3.heap.size) C c:=aF (aD o0 l) (λd i=>⟨i.1,aC i.2 l.size⟩);have d5:=h8.trans (l.mono h8.size);refine⟨trivial,?_⟩;clear l a9;refine mP ?_;refine aI 8 kR ?_;refine jl (op:=_) rfl kR (Wn.wpOD (some 85) kR (.tmp 81) (.tmp 84) rfl t u m kR (c2.o.below d5) (some ⟨h6,0,none⟩) 1 [(⟨c,C,U⟩:Bv)] kR (Wn.single (⟨c,C,U⟩:Bv) n2 rfl) (by simp only[bO];omega) dC ?_);intro c7 d0 f8 o4 i9 s;clear s;obtain⟨H,I⟩:=c3.o g3 f8 (⟨c,C,U⟩:Bv) c7 d0 d5 n7 b3 K.2 o4 i9;have a7:Bys f8 (λ_=>True) k c:=aG (aD a0.o d5) (ts:=[some 5]) (i9.aM dC) sM;refine⟨trivial,?_⟩;refine Yf 9 86 e ?_;refine tK 10 87 e ?_;refine nrm 12 2047 ?_;refine aI 11 kR ?_;refine fF (op:=_) rfl kR kR 95 (.tmp 87) (.tmp 85) kR p 9 (.slice c7 (m++[(⟨c,C,U⟩:Bv)]).length d0) kR kR rfl kR H (by rw[e1];decide) ?_;intro p3 j9;rw[<-j9]at I;have a6:Bys p3 (λ_=>True) k c:=(by rw[j9];exact aG a7 (ts:=[some 5]) (((aV (λ_=>True) [some 110] f8).setCell H (λ_=>trivial) sM 9 _).aM dC) sM);refine⟨trivial,?_⟩;refine mP ?_;refine bg kR ?_ _;exact a1 C U h6 c7 d0 _ ⟨zH I,zH a6⟩
      .refine jl (op:=_) rfl kR (fe.wp _ (.tmp 82) rfl g.drew.heap.size none 0 [] kR (iq _ _ _ _) k J c kR (aD a0.o r) (by simp only[List.length_nil];omega) dC (av _) ?_)
       intro j q b7 v s;rw[List.nil_append]at v;have a5:Below g.drew.heap.size g.drew b7:=(aj _ _).grown s (av _) XI;have b3:=(OwnAt.fresh v).cap_;have i7:Bys b7 (λd=>g.heap.size<=d/\d<b7.heap.size) j c:=aF (OwnAt.fresh v).row (λd i=>⟨ay r.size i.1,i.2⟩);have a4:=r.trans (a5.mono r.size);rw[List.nil_append];refine⟨trivial,?_⟩;clear v s a5;refine mP ?_;refine fo 4 7 kR ?_ ?_
       .refine iw (op:=_) rfl kR (some 81) kR (.slice t m.length u) ?_ ?_
        .have b5:b7.cell? ⟨p,9,none⟩=some (.slice t m.length u):=((T.o.below a4 T.o.lt).cell 9).trans e0
         go_simp
        refine⟨trivial,?_⟩;refine mP ?_;refine aI 7 kR ?_;refine jX (op:=_) rfl kR (some 84) kR 95 47 1 #[(0,.tmp 83)] kR #[.slice j c.length q] Wn.ht e3 f1 (by rw[z];decide) (by rw[z];decide) (by rw[z];kernel_rfl) ?_;intro h4 f9 l a9 n0;have n8:Bys f9 (λd=>g.heap.size<=d/\d<f9.heap.size) j c:=aF (aD i7 l) (λd i=>⟨i.1,aC i.2 l.size⟩);have d4:=a4.trans (l.mono a4.size);refine⟨trivial,?_⟩;clear l a9;refine mP ?_;refine aI 8 kR ?_;refine jl (op:=_) rfl kR (Wn.wpOD (some 85) kR (.tmp 81) (.tmp 84) rfl t u m kR (c2.o.below d4) (some ⟨h4,0,none⟩) 1 [(⟨c,j,q⟩:Bv)] kR (Wn.single (⟨c,j,q⟩:Bv) n0 rfl) (by simp only[bO];omega) dC ?_);intro c8 d1 g1 o6 j0 s;clear s;obtain⟨H,I⟩:=c3.o f9 g1 (⟨c,j,q⟩:Bv) c8 d1 d4 n8 b3 K.2 o6 j0;have a7:Bys g1 (λ_=>True) k c:=aG (aD a0.o d4) (ts:=[some 5]) (j0.aM dC) sM;refine⟨trivial,?_⟩;refine Yf 9 86 e ?_;refine tK 10 87 e ?_;refine nrm 12 2047 ?_;refine aI 11 kR ?_;refine fF (op:=_) rfl kR kR 95 (.tmp 87) (.tmp 85) kR p 9 (.slice c8 (m++[(⟨c,j,q⟩:Bv)]).length d1) kR kR rfl kR H (by rw[e1];decide) ?_;intro p4 k0;rw[<-k0]at I;have a6:Bys p4 (λ_=>True) k c:=(by rw[k0];exact aG a7 (ts:=[some 5]) (((aV (λ_=>True) [some 110] g1).setCell H (λ_=>trivial) sM 9 _).aM dC) sM);refine⟨trivial,?_⟩;refine mP ?_;refine bg kR ?_ _;exact a1 j q h4 c8 d1 _ ⟨zH I,zH a6⟩
       .refine jX (op:=_) rfl kR (some 84) kR 95 47 1 #[(0,.tmp 83)] kR #[.slice j c.length q] Wn.ht e3 f1 (by rw[z];decide) (by rw[z];decide) (by rw[z];kernel_rfl) ?_
        intro h5 b8 l a9 n1;have n9:Bys b8 (λd=>g.heap.size<=d/\d<b8.heap.size) j c:=aF (aD i7 l) (λd i=>⟨i.1,aC i.2 l.size⟩);have b2:=a4.trans (l.mono a4.size);refine⟨trivial,?_⟩;clear l a9;refine mP ?_;refine aI 4 kR ?_;refine iw (op:=_) rfl kR (some 81) kR (.slice t m.length u) ?_ ?_
        .have b5:b8.cell? ⟨p,9,none⟩=some (.slice t m.length u):=((T.o.below b2 T.o.lt).cell 9).trans e0
         go_simp
        refine⟨trivial,?_⟩;refine mP ?_;refine aI 8 kR ?_;refine jl (op:=_) rfl kR (Wn.wpOD (some 85) kR (.tmp 81) (.tmp 84) rfl t u m kR (c2.o.below b2) (some ⟨h5,0,none⟩) 1 [(⟨c,j,q⟩:Bv)] kR (Wn.single (⟨c,j,q⟩:Bv) n1 rfl) (by simp only[bO];omega) dC ?_);intro c9 d2 g2 o7 j1 s;clear s;obtain⟨H,I⟩:=c3.o b8 g2 (⟨c,j,q⟩:Bv) c9 d2 b2 n9 b3 K.2 o7 j1;have a7:Bys g2 (λ_=>True) k c:=aG (aD a0.o b2) (ts:=[some 5]) (j1.aM dC) sM;refine⟨trivial,?_⟩;refine Yf 9 86 e ?_;refine tK 10 87 e ?_;refine nrm 12 2047 ?_;refine aI 11 kR ?_;refine fF (op:=_) rfl kR kR 95 (.tmp 87) (.tmp 85) kR p 9 (.slice c9 (m++[(⟨c,j,q⟩:Bv)]).length d2) kR kR rfl kR H (by rw[e1];decide) ?_;intro p5 k1;rw[<-k1]at I;have a6:Bys p5 (λ_=>True) k c:=(by rw[k1];exact aG a7 (ts:=[some 5]) (((aV (λ_=>True) [some 110] g2).setCell H (λ_=>trivial) sM 9 _).aM dC) sM);refine⟨trivial,?_⟩;refine mP ?_;refine bg kR ?_ _;exact a1 j q h5 c9 d2 _ ⟨zH I,zH a6⟩
     case tl2=>
      intro p9 q2 q0 p8 q1 m4 m9;obtain⟨l1,g5⟩:=m9;have g6:=zH (yY _ k J c m4 g5.o K.2 K.1);obtain⟨W,i5⟩:=eX ((ky c).val);obtain⟨a3,e2⟩:=eX ((ky c).err);rw[<-i5,<-e2]at g6;have g7:=zH e2;clear i5 e2;(try simp only[]);go_wp2_with fail;refine(g6.o).mono ?_;rintro m7 k2 ⟨m5,m6,rfl,n3,o9,i0⟩;have g4:=zH i0;clear i0 o9 n3;go_upto_if 94 with fail;obtain⟨c6,d8⟩:=eX (k2.alloc (.cells #[uI W.pn,uI W.bn,uI W.off,uI W.bX,jI W.ecn,.slice m5 W.body.length m6] 115));rw[<-d8];(have i1:bW k2 c6:=by rw[d8];exact BEL);have b9:=zH (g4.o.trans (i1.mono g4.o.size));have c1:=zH (l1.o.below b9.o);clear d8 i1;by_cases G:a3=0
      .have n5:(a3==0)=true:=by simpa using G
       (have n6:=bM G);(have j6:b.ahead.count<1000000000:=by have f6:=f.o.ahc;have f7:=f.o.en.le.room;omega);have l5:=zH (λO (h9:bW c6 O)=>(c1.o.below h9).putA j6 f.o.ahead J (aD g5.o (b9.o.trans (h9.mono b9.o.size))) K.2 K.1 f.o.now);obtain⟨_,_,r1,_,N,_,q8,_⟩:=c1.o.cells;have a8:polled b={b with en:=M.en,sent:=b.sent+1,ahead:=qD b.ahead c b.now}:=by
        unfold polled;rw[<-A.o,<-Z.o,<-g7.o,aB G]
       have c4:=zH a8;clear a8 G j6;go_upto_region 25 with fail;refine dQ 9 kR kR ?_;refine mB ?_;refine bwI ?_;intro k3 i2;have i3:bW c6 k3:=i2;have l6:=zH (l5.o k3 i3);clear i2 i3;refine dA rfl rfl ?_;go_simp;go_at_call 39;refine(l6.o).mono ?_;rintro m7 r2 ⟨rfl,j7⟩;have l9:=zH j7;clear j7;go_simp;refine mR ?_;go_wp2;go_roundg d;(case measure=>omega);case rel=>exact⟨polled b,by rw[c4.o];exact l9,h3,zH (by have h7:=h1.o;have b1:=c5.o;push_cast at b1;omega),zH g8.o.symm⟩
      .have n5:(a3==0)=false:=by simpa using G
       (have n6:=bJ G);have a8:polled b={b with en:=M.en,sent:=b.sent+1}:=by
        unfold polled;rw[<-A.o,<-Z.o,<-g7.o,Ww G]
       have c4:=zH a8;clear a8 G;go_wp2;go_roundg d;(case measure=>omega);case rel=>exact⟨polled b,by rw[c4.o];exact c1,h3,zH (by have h7:=h1.o;have b1:=c5.o;push_cast at b1;omega),zH g8.o.symm⟩
    .have D:(fD b.en b.now).err≠0:=by rw[<-A.o,<-c0.o];exact E
     (have e8:R={b with en:=M.en}:=by rw[<-h2.o,BR d D,<-A.o]);have f0:=Be f.o D;rw[<-A.o,<-e8]at f0;obtain⟨m1,l8⟩:=yx f0 e8;(have o3:(a2 !=0)=true:=by simpa using E);(have o5:decide (a2≠0)=true:=by simpa using E);clear D e8 f0 E;go_wp2;go_meet;refine⟨?_,m1⟩;rw[l8.o];exact g9
 case rest=>
  obtain⟨l2,m3⟩:=hcut;go_step;exact wd5 f3 L b6 w p n b0 o R d3 wc l2 m0 k9 o1 o2 m3
theorem LJ {tb:TypeId} (E:Nat->Nat) (w:World) (p n:Nat) (i:Wp) (x:Wo) (kind c:Int) (d3:X4) (o:X5) (A:Nat) (b:List Int) (h:iW w E p i x.eO.toNat x) (S:WdX n n 0 0 x) (c8:n<=148) (D:1<=kind/\kind<=6) (a7:Word c) (hb:Byt tb w (λq=>4<E q) o b) (c3:b.length<=A) (c4:b.length<=100000) (O:dP b) (d0:kind=1->tb=5:=by intro _;rfl):
  Yk 11 #[pT p,.agg #[jI kind,uI c,.slice o b.length A]] w λd1 t=>d1=.returned (.agg (zzRow (zz x ⟨kind,c,b⟩) ((zz x ⟨kind,c,b⟩).err)))/\dD E w p i (Bc x ⟨kind,c,b⟩).eO.toNat (Bc x ⟨kind,c,b⟩) t:=by
 (have a9:zz x ⟨kind,c,b⟩={woRow (Bc x ⟨kind,c,b⟩)with err:=OQ x ⟨kind,c,b⟩}:=by unfold zz;rw[aB D]);(have H:Bc x ⟨kind,c,b⟩=GY (Yp x ⟨kind,c,b⟩):=by unfold Bc;rw[aB D]);rw[a9];obtain⟨c1,M⟩:=eX (Bc x ⟨kind,c,b⟩);rw[<-M];rw[<-M]at H;have U:WdX (n+1) n 0 0 (Yp x ⟨kind,c,b⟩):=Hf S ⟨O,a7.1⟩;obtain⟨l,R⟩:=eX (OQ x ⟨kind,c,b⟩);rw[<-R];obtain⟨f,V⟩:=eX (Yp x ⟨kind,c,b⟩);rw[<-V]at U H;obtain⟨c0,b3,y,v⟩:=Bq U H V R;obtain⟨d,C⟩:=eX ((w.alloc (.cells #[jI kind,uI c,.slice o b.length A] 49)).alloc (.cells Yj 41));(have G:bW w d:=by rw[C];exact BEL);(have B:Blk d w.heap.size 49 #[jI kind,uI c,.slice o b.length A]:=by rw[C];exact(Wx _ _ _).alloc _);(have T:Blk d (w.heap.size+1) 41 Yj:=by rw[C];exact Blk.qN _ _ _ _);obtain⟨d7,K⟩:=eX w.heap.size;obtain⟨a1,L⟩:=eX (w.heap.size+1);rw[<-L]at T;rw[<-K]at B;have c6:w.heap.size<=a1:=oM;obtain⟨m,N,F⟩:=((dD.refl h).below G).ex;have b6:=zH (show∀q Y J,dD m d p i q Y J->dD E w p i q Y J from λq Y J c2=>((dD.refl h).below G).via N c2);have a6:Byt tb d (λq=>4<m q) o b:=aF (aD hb.lt_ G) (λq D=>by rw[N q D.2];exact D.1);obtain⟨u,Z,z,b1,b7⟩:=BF F a6 S T C;obtain⟨e1,e2,e3⟩:=B.e3 0 1 2;have e4:=B.lt;have b5:=zH O;obtain⟨e6,_,_,_,e7,_,e5,a8⟩:=(dD.refl F).cells;have e9:=a8 5;obtain⟨d4,d8,d5,d9,d6,e0,a3⟩:=(dD.refl F).blk;have e8:=a3.Wu 5;clear h S hb M a9 H U R V C G B T N F a6 O a8 a3;go_enter Tryz.func11,Tryz.ntmps11;go_upto_block 0 with fail;rw[<-b7.o,<-L,<-K];clear K L;go_cut [5] (λd2 wx=>d2=jI l/\X3 (dD m d p i f.eO.toNat f wx));case first=>
  have c5:kind=1\/kind=2\/kind=3\/kind=4\/kind=5\/kind=6:=oM;rcases c5 with rfl|rfl|rfl|rfl|rfl|rfl
  .have e:f={x with en:=(fU x.en b).en}:=by rw[y.o];rfl
   (have g:l=(fU x.en b).err:=by rw[v.o];rfl);have b8:=zH (show∀t,bW d t->Yk 17 #[(pT i.e),.slice o b.length A] t λs W=>s=.returned (.tuple #[jI (fU x.en b).n,jI l])/\dD m d p i f.eO.toNat f W from λt hb=>by
    rw[g,e];exact((dD.refl u.o).below hb).write z.o.en (show Bys t _ o b from d0 rfl▸(show Byt tb t _ o b from aD Z.o hb)) c3 oM)
   clear e g;go_upto_region 9 with fail;refine dQ 6 kR kR ?_;refine mB ?_;refine bwI ?_;intro b0 a4;have a5:bW d b0:=a4;have b9:=zH (b8.o b0 a5);clear a4 a5;refine dA rfl rfl ?_;go_simp;go_at_call 17;refine(b9.o).mono ?_;rintro s X ⟨rfl,k⟩;have j:=zH k;clear k;go_simp;refine mR ?_;go_wp2;go_meet;exact⟨rfl,j⟩
  .have e:f=xF x (min c 1099511627776):=by rw[y.o];rfl
   (have g:l=0:=by rw[v.o];rfl);have a0:=zH (MH m d p n n i x (min c 1099511627776) u.o z.o oM oM ⟨by have:=a7.1;omega,oM⟩);rw[<-e]at a0;have r:=zH g;clear e g;go_wp2_with (go_at_call 34;(have c7:(if 1099511627776<c then(1099511627776:Int)else c)=min c 1099511627776:=by split<;>omega);(try rw[c7]);refine(a0.o).mono ?_;rintro s X ⟨rfl,k⟩;have j:=zH k;clear k);go_meet;exact⟨by rw[r.o],j⟩
  .have e:f=je x b:=by rw[y.o];rfl
   (have g:l=0:=by rw[v.o];rfl);have c9:=z.o.small oM oM;have I:=zH (DF m d p x.eO.toNat _ i x o A b u.o z.o.en oM oM Z.o c4 b5.o z.o.now);rw[<-e]at I;(have a2:f.eO=x.eO:=by rw[e];rfl);rw[<-a2]at I;have r:=zH g;clear e g a2 c9;go_wp2_with (go_at_call 35;refine(I.o).mono ?_;rintro s X ⟨rfl,k⟩;have j:=zH k;clear k);go_meet;exact⟨by rw[r.o],j⟩
  .have e:f={x with mute:=true}:=by rw[y.o];rfl
   (have g:l=0:=by rw[v.o];rfl);obtain⟨j,r⟩:=yx (show dD m d p i f.eO.toNat f (d.setCell ⟨p,5,none⟩ (bV true)) by rw[e];exact(dD.refl u.o).set1 5 _ _ (λ_ _ _ _ _ _ _ _ _=>rfl) rfl rfl rfl rfl rfl rfl rfl) g;clear e g;go_wp2;go_meet;exact⟨by rw[r.o],j⟩
  .have e:f={x with mute:=false}:=by rw[y.o];rfl
   (have g:l=0:=by rw[v.o];rfl);obtain⟨j,r⟩:=yx (show dD m d p i f.eO.toNat f (d.setCell ⟨p,5,none⟩ (bV false)) by rw[e];exact(dD.refl u.o).set1 5 _ _ (λ_ _ _ _ _ _ _ _ _=>rfl) rfl rfl rfl rfl rfl rfl rfl) g;clear e g;go_wp2;go_meet;exact⟨by rw[r.o],j⟩
  .have e:f={x with en:=(kF x.en).en}:=by rw[y.o];rfl
   (have g:l=(kF x.en).err:=by rw[v.o];rfl);have b2:=zH (show Yk 36 #[(pT i.e)] d λs W=>s=.returned (jI l)/\dD m d p i f.eO.toNat f W by
    rw[g,e];exact(dD.refl u.o).close z.o.en)
   clear e g;go_wp2_with (go_at_call 36;refine(b2.o).mono ?_;rintro s X ⟨rfl,k⟩;have j:=zH k;clear k);go_meet;exact⟨rfl,j⟩
 case rest=>
  obtain⟨rfl,b4⟩:=hcut;go_step;exact wd4 E m w d p n a1 i f l wc b4 b6 b1 c6 c8 c0 c1 b3
theorem dD.low {a:Nat->Nat} {p k B:Nat} {e:Wp} {x:Wo} (h:dD a w p e k x w') (c:B<=w.heap.size) (b:∀k,k<B->4<a k):Below B w w':=h.m.cZ c (λk d f=>by have:=b k d;omega)
theorem tQ (w:World):Yk 10 #[] w λf Q=>f=.returned (bV true)/\bW w Q:=by
 (have i:U32 yj:=λR d=>by simp[yj]at d;omega);obtain⟨m,q⟩:=eX (w.alloc (.cells #[.int .u32 9,.int .u32 0,.int .u32 0,.int .u32 0,.int .u32 0,.int .u32 0,.int .u32 0,.int .u32 0,.int .u32 99,.int .u32 0,.int .u32 99,.int .u32 0,.int .u32 5000,.int .u32 50] 50));(have a5:bW w m:=by rw[q];exact BEL);(have b4:Blk m w.heap.size 50 #[.int .u32 9,.int .u32 0,.int .u32 0,.int .u32 0,.int .u32 0,.int .u32 0,.int .u32 0,.int .u32 0,.int .u32 99,.int .u32 0,.int .u32 99,.int .u32 0,.int .u32 5000,.int .u32 50]:=by rw[q];exact Wx _ _ _);have b0:Row m (λc=>c=w.heap.size) 50 1 (some ⟨w.heap.size,0,none⟩) yj.length (yj.flatMap u3V):=yG (size:=1) (n:=14) b4 rfl;obtain⟨W,k,d0⟩:=Av (JR _ (some ⟨w.heap.size,0,none⟩) 14 yj m b0 i) a5 q;obtain⟨p,s⟩:=eX (fV yj);(have N:lV p:=by rw[s];exact CS i);rw[<-s]at W;have t:WdX 0 0 0 0 (mO p [] [] [] 0):=OU N (λR d=>by cases d) sM sM sM (λd6 L=>by cases L) (λd6 L=>by cases L) ⟨dC,dC⟩;have C:=zH (λQ=>OT (tw:=30) p (λ_=>True) (λ_=>True) (λ_=>True) none 0 [] none 0 [] none 0 [] 0 Q N Row.WH sM Row.WH sM Row.WH sM);simp only[List.length_nil]at C;obtain⟨S,u⟩:=eX (mO p [] [] [] 0);rw[<-u]at C t;(have a8:S.eO.toNat=0:=by rw[u];rfl);obtain⟨T,v⟩:=eX (Bc S ⟨1,0,[97,98,99]⟩);(have M:dP [97,98,99]:=λR d=>by simp at d;omega);(have b5:WdX 1 1 0 0 T:=by rw[v];exact U6 t ⟨M,dC⟩ ⟨dC,dC⟩);obtain⟨a,O⟩:=eX (zz T ⟨2,7,[]⟩);(have b7:a=Db:=by rw[O,v,u,s];rfl);obtain⟨E,F,G,H⟩:=Rv;rw[<-b7]at E F G H;(have d9:(a.aS.fG==0)=true:=by simpa using E);(have e0:(a.aS.dh.fI==1)=true:=by simpa using F);(have e1:(a.qm==3)=true:=by simpa using G);(have e2:(a.aS.bK==7)=true:=by simpa using H);obtain⟨d2,d3,c7,d5,d4⟩:=BF t b5 a8 O v;clear i q a5 b4 b0 s N t u a8 v b5 O b7 E F G H;go_enter Tryz.func10,Tryz.ntmps10;go_wp2_with fail;rw[<-d0.o];refine(W.o).mono ?_;rintro f d8 ⟨rfl,a6⟩;have y:=zH a6;clear a6;go_wp2_with fail;refine(C.o _).mono ?_;rintro f b ⟨c0,c1,x,rfl,a4,a1,a7⟩;obtain⟨c5,c3,V⟩:=Av a4 a1 (k.o.trans ((y.o.mono k.o.size).trans (a7.mono (ay k.o.size y.o.size))));have e4:w.heap.size<=d8.heap.size:=ay k.o.size y.o.size;clear a4 a1 a7;go_upto_region 4 with fail;obtain⟨o,r⟩:=eX (b.alloc (.cells #[.int .u8 97,.int .u8 98,.int .u8 99] 5 (3,4)));(have K:bW b o:=by rw[r];exact BEL);(have b6:o.heap[b.heap.size]?=some (.cells #[.int .u8 97,.int .u8 98,.int .u8 99] 5 (3,4)):=by rw[r];exact heap_alloc_new b _);have b1:Bys o (λc=>4<ext b x 9 c) (some ⟨b.heap.size,0,none⟩) [97,98,99]:=⟨rfl,λ_=>⟨b.heap.size,0,_,_,rfl,by show 4<ext b x 9 b.heap.size;rw[uG (av _)];decide,b6,λe5 f1 i=>by simpa[byV]using i⟩⟩;have J:=c5.o.below K;rw[<-c7.o]at J;have z:=zH (LJ (ext b x 9) o c0 0 c1 S 1 0 (λ_=>True) (some ⟨b.heap.size,0,none⟩) 3 [97,98,99] J d2.o dC ⟨dC,dC⟩ ⟨dC,dC⟩ b1 dC dC M);simp only[aY,List.length_nil,Nat.zero_add,Nat.reduceAdd]at z;rw[<-d4.o]at z;obtain⟨l,d1⟩:=yx K r;have b3:=V.o.size;(have a2:∀c,c<w.heap.size->4<ext b x 9 c:=λc a9=>by rw[nE oM,c3.o c oM];decide);have U:=zH a2;clear K b6 b1 J r M a2;have d7:(Go.convert 47 47 (.slice (some ⟨b.heap.size,0,none⟩) 3 3)).run prog (b.alloc (.cells #[.int .u8 97,.int .u8 98,.int .u8 99] 5))=.ok (.slice (some ⟨b.heap.size,0,none⟩) 3 3) (b.alloc (.cells #[.int .u8 97,.int .u8 98,.int .u8 99] 5 (3,4))):=Lib.run_convert_bytes_const (P:=prog) b 47 5 #[.int .u8 97,.int .u8 98,.int .u8 99] 3 3 Tryz.underlying47 Tryz.underlying5;go_wp2_with (go_at_call 11;(rw[<-d1.o]);refine(z.o).mono ?_;rintro f c2 ⟨rfl,g⟩;have D:=zH g;clear g);obtain⟨b9,a0,Z⟩:=D.o.ex;have X:=zH (D.o.low (by have:=l.o.size;omega) U.o);have e3:=X.o.size;(have a3:∀c,c<w.heap.size->4<b9 c:=λc a9=>by rw[a0 c (by have:=l.o.size;omega)];exact U.o c a9);obtain⟨c4,A⟩:=yx a3 (LJ (tb:=5) b9 c2 c0 1 c1 T 2 7 (λ_=>True) none 0 [] Z d3.o dC ⟨dC,dC⟩ ⟨dC,dC⟩ Row.WH dC dC (λR d=>by cases d));simp only[List.length_nil]at A;rw[<-d5.o]at A;have c6:=zH (V.o.trans (l.o.mono b3));clear a0 Z a3 d7;go_upto_region 5 with fail;repeat ((fail_if_success (with_reducible apply eG));first|(go_at_call 11;refine(A.o).mono ?_;rintro f j ⟨rfl,g⟩;have c9:=zH g;clear g)|(refine iG 41 (.tmp 3) (.tmp 23) rfl rfl rfl j.heap.size 0 (zzRow a a.err) kR kR ((Wx j 41 Yj).there _ sM) kR XF ?_;intro Y I;have e:Blk Y j.heap.size 41 (zzRow a a.err):=(by rw[I];exact Blk.gF (Wx j 41 _) [jI a.aS.aS,uI a.aS.now,uI a.aS.cr,uI a.aS.dL,uI a.aS.jS,uI a.aS.bK,uI a.aS.gU,uI a.aS.next,uI a.aS.low,uI a.aS.fG,uI a.aS.gP,uI a.aS.dh.dB,uI a.aS.dh.eT,uI a.aS.dh.fI,uI a.aS.dh.bE,uI a.aS.dh.late,uI a.sent,uI a.eO,uI a.told,uI a.tJ,uI a.qm,jI a.err] rfl);have c8:=zH (show bW j Y by rw[I];exact Below.bZ (av _) _ _ _ BEL);have e9:=e.Wu 9;have e6:=e.Wu 13;have e7:=e.Wu 20;have e8:=e.Wu 5;have f0:=e.lt;clear I e)|go_values|go_skip|go_guarded|go_step|go_upon|go_back|go_simp)
 refine mZ ?_;have b2:w.heap.size<=c2.heap.size:=ay b3 (ay l.o.size D.o.m.size);have b8:=c9.o.low (B:=w.heap.size) b2 c4.o;exact⟨rfl,c6.o.trans (X.o.trans (b8.trans (c8.o.mono (ay b2 b8.size))))⟩
section
variable {P:Program} {md:Region.Mode} {ops:Array Oper} {Q:X7} {S:World->Prop}
def TX (md:Region.Mode) (ops:Array Oper):List Nat->Array Bool->Bool
 |[],_=>true
 |i::t,l=>(Region.ready md ops l).contains i&&Region.free md ops l i&&TX md ops t (l.setIfInBounds i true)
def UO:List Nat->Array Bool->Array Bool
 |[],l=>l
 |i::t,l=>UO t (l.setIfInBounds i true)
def Di (P:Program) (ops:Array Oper) (S:World->Prop) (c:Act->Prop):List Nat->Act->Prop
 |[],a=>c a
 |i::t,a=>∃b,ops[i]?=some b/\∃d,YieldsIf P ops S b d a/\Di P ops S c t (a.put b.dst d)
theorem Uj (k:Region.noSelect ops=true) (g:∀n l d a w,Q (.panic d) (Act.put a n l) w->Q (.panic d) a w) {w:World} (j:S w):∀(f:List Nat) (b:Nat) (c:Array Bool) (a:Act),TX md ops f c=true->
  Di P ops S (λm=>Go.wpAnyH P md ops Q S b (UO f c) m w) f a->Go.wpAnyH P md ops Q S (b+f.length) c a w
 |[],b,c,a,_,h=>h
 |i::t,b,c,a,e,h=>by
  obtain⟨u,q,l,s,o⟩:=h;simp only[TX,Bool.and_eq_true]at e;obtain⟨⟨r,p⟩,e⟩:=e;exact Go.wpAnyH_take q k p r (λd a w=>g _ _ d a w) s j (Uj k g j t b _ _ e o)
theorem T6 (n m j:Nat) (h:j<n) (b:Bool):(XH n m).getD j b=m.testBit j:=by
 simp[XH,Array.getD_eq_getD_getElem?,h]
theorem Us (n m i:Nat):(XH n m).setIfInBounds i true=XH n (m|||2^i):=by
 apply Array.ext
 .simp[XH]
 .intro a c b
  (have d:a<n:=by simpa[XH]using b);simp only[XH,List.setIfInBounds_toArray,List.getElem_toArray,List.getElem_set,List.getElem_map,List.getElem_range,Nat.testBit_or,Nat.testBit_two_pow];by_cases h:i=a
  .simp[h]
  .simp[h]
def UK (b:Nat) (c:List Nat) (a:Nat) (e:List Nat):Bool:=
 (match b with
  |d+1=> !e.contains d&&a !=d+1
  |0=>true)&&
 (match a with
  |d+1=> !c.contains d
  |0=>true)
def chkI (A:List (List Nat)) (D:List Nat) (K:List (List Nat)) (i m:Nat):Bool:=
 decide (i<A.length)&& !m.testBit i&&(A.getD i []).all (λb=>decide (b<A.length)&&m.testBit b)&&
  (A.zip (D.zip K)).zipIdx.all λa=>a.2==i||m.testBit a.2||a.1.1.contains i||UK (D.getD i 0) (K.getD i []) a.1.2.1 a.1.2.2
def T7 (A:List (List Nat)) (D:List Nat) (K:List (List Nat)):List Nat->Nat->Bool
 |[],_=>true
 |i::t,m=>chkI A D K i m&&T7 A D K t (m|||2^i)
theorem VB {A D K} (c:Region.tabAfter md ops=A) (j:Region.tabDst ops=D) (k:Region.tabLooks ops=K) (i m:Nat) (h:chkI A D K i m=true):
  (Region.ready md ops (XH ops.size m)).contains i=true/\Region.free md ops (XH ops.size m) i=true:=by
 (have e:A.length=ops.size:=by rw[<-c];simp[Region.tabAfter]);(have s:D.length=ops.size:=by rw[<-j];simp[Region.tabDst]);(have t:K.length=ops.size:=by rw[<-k];simp[Region.tabLooks]);simp only[chkI,Bool.and_eq_true,decide_eq_true_eq,Bool.not_eq_true']at h;obtain⟨⟨⟨b,n⟩,f⟩,g⟩:=h;rw[e]at b;constructor
 .rw[<-RegionTabs.ready_eq]
  simp only[RegionTabs.ready,RegionTabs.of,c,List.size_toArray,e];rw[List.contains_iff_mem,dx];refine⟨List.mem_range.2 b,?_⟩;(have o:A[i]?=some (A.getD i []):=by simp[List.getD,aL (show i<A.length by omega)]);rw[T6 _ _ _ b,n];simp only[Bool.not_false,Bool.true_and,List.getElem?_toArray,o,Option.map_some,Option.getD_some];rw[List.all_eq_true]at f|-;intro r q;have:=f r q;simp only[Bool.and_eq_true,decide_eq_true_eq]at this;rw[T6 _ _ _ oM];exact this.2
 .rw[<-RegionTabs.free_eq]
  simp only[RegionTabs.free,RegionTabs.of,c,j,k,List.size_toArray,e,b,decide_true,Bool.true_and];rw[List.all_eq_true]at g|-;intro a d;have d:=List.mem_range.1 d;have p:((A.getD a [],D.getD a 0,K.getD a []),a)∈(A.zip (D.zip K)).zipIdx:=by
   rw[List.mem_zipIdx_iff_getElem?];simp[List.getElem?_zip_eq_some,List.getD,aL (show a<A.length by omega),aL (show a<D.length by omega),aL (show a<K.length by omega)]
  have:=g _ p;rw[T6 _ _ _ d];have l:(RegionTabs.mk A.toArray D.toArray K.toArray).apart i a=UK (D.getD i 0) (K.getD i []) (D.getD a 0) (K.getD a []):=by
   unfold RegionTabs.apart UK;simp only[Array.getD_eq_getD_getElem?,List.getElem?_toArray,List.getD];cases D[i]?.getD 0<;>cases D[a]?.getD 0<;>rfl
  rw[l];simpa[Array.getD_eq_getD_getElem?,List.getD]using this
theorem UR {A D K} (b:Region.tabAfter md ops=A) (c:Region.tabDst ops=D) (d:Region.tabLooks ops=K):∀(e:List Nat) (a:Nat),T7 A D K e a=true->TX md ops e (XH ops.size a)=true
 |[],_,_=>rfl
 |i::t,a,h=>by
  simp only[T7,Bool.and_eq_true]at h;simp only[TX,Bool.and_eq_true,Us];exact⟨VB b c d i a h.1,UR b c d t _ h.2⟩
theorem TF {A:List (List Nat)} {D:List Nat} {K:List (List Nat)} (k:Region.tabAfter md ops=A) (o:Region.tabDst ops=D) (p:Region.tabLooks ops=K) (v:Region.noSelect ops=true) (q:∀i x d a w,Q (.panic d) (Act.put a i x) w->Q (.panic d) a w) (r:S w) (l:List Nat) (c m f:Nat) (e:Array Bool) (a:Act) (s:e=XH ops.size m) (n:T7 A D K l m=true) (u:l.foldl (λm b=>m|||2^b) m=f)
  (h:Di P ops S (λg=>Go.wpAnyH P md ops Q S c (XH ops.size f) g w) l a):Go.wpAnyH P md ops Q S (c+l.length) e a w:=by
 subst s;subst u;have j:∀(l:List Nat) (m:Nat),UO l (XH ops.size m)=XH ops.size (l.foldl (λm b=>m|||2^b) m):=by
  intro l
  induction l with
  |nil=>intro m;rfl
  |cons b t ih=>intro m;simp only[UO,Us,List.foldl_cons];exact ih _
 exact Uj v q r l c _ a (UR k o p l m n) (by rw[j];exact h)
theorem Di.val {c:Act->Prop} {i:Nat} {t:List Nat} {o:Oper} {a a':Act} {v:Value} (g:ops[i]?=some o) (d:Option Tmp) (f:o.dst=d) (j:Region.wanted o (yielded ops a.tmps)=true) (hy:∀b,S b->(execOp a.eval o).run P b=.ok (.value v) b) (e:a.put d v=a') (h:Di P ops S c t a'):Di P ops S c (i::t) a:=by
 subst e;subst f;exact⟨o,g,v,.inl ⟨j,hy⟩,h⟩
theorem Di.und {b:Act->Prop} {i:Nat} {t:List Nat} {o:Oper} {a a':Act} (f:ops[i]?=some o) (d:Option Tmp) (e:o.dst=d) (g:Region.wanted o (yielded ops a.tmps)=false) (c:a.put d undef=a') (h:Di P ops S b t a'):Di P ops S b (i::t) a:=by
 subst c;subst e;exact⟨o,f,undef,.inr ⟨g,rfl⟩,h⟩
end
end Go.Proofs.YtiflndepmgnojaaGreat
