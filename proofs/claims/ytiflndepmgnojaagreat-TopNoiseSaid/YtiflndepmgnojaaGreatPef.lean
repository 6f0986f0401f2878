import Derived.Test.YtiflndepmgnojaaGreatEnw
import Derived.Test.YtiflndepmgnojaaGreatEst
namespace Go.Proofs.YtiflndepmgnojaaGreat
open Go.RowKit Tryz Go.ChangeMaps Go.MapKept
set_option linter.unusedSimpArgs false
set_option linter.unusedVariables false
set_option maxHeartbeats 8000000
set_option maxRecDepth 100000
variable {b k n p:Nat} {w w':World} {C:Array Value} {K:Act->World->Prop} {V:List Value} {t:TypeId}
theorem Me {e i:Type} (f:e->i->e) (j:∀a b y,f (f a b) y=f (f a y) b) (g:Kp->i) {c:List Kp} (h:Dis c) {y:Kp} (hy:y∈c) (d:e):
  (c.map g).foldl f d=((c.filter λb=>decide (b.pn≠y.pn)).map g).foldl f (f d (g y)):=by
 have k:=(QP h hy).map g;have:=k.foldl_eq' (f:=f) (λb _ y _ l=>j l b y) d;rw[this];rfl
theorem Kc (a x y:Int):WN (WN a x) y=WN (WN a y) x:=by
 unfold WN;simp only[Int.toNat_natCast];rw[Nat.xor_assoc,Nat.xor_comm x.toNat,<-Nat.xor_assoc]
theorem OE (a x y:Bool):((a !=x)!=y)=((a !=y)!=x):=by cases a<;>cases x<;>cases y<;>rfl
theorem tT.same {c d:List Kp} (h:tT w b p n c d k) (hb:w'.heap[b]?=w.heap[b]?) (t:w'.heap[p]?=w.heap[p]?):tT w' b p n c d k:=by
 obtain⟨e,left,⟨i,g,v,u,f,l,m,o,q,r,s⟩,j⟩:=h;exact⟨e,left,⟨i,g,v,u,f,hb.trans l,m,o,q,t.trans r,s⟩,j⟩
theorem tT.mod {F:X4} {T:X8} {d f:List Kp} (h:tT w b p n d f k) (e:Mod F T w w') (hb:¬F b) (l:¬F p):tT w' b p n d f k:=by
 have j:=h;obtain⟨m,left,⟨r,q,z,y,o,g,t,u,v,i,x⟩,s⟩:=h;refine j.same ?_ ?_
 .exact(e.block b (WT g)).elim id (λc=>Wy c.1 hb)
 .exact(e.block p (WT i)).elim id (λc=>Wy c.1 l)
section
variable {P:Program} {Q:X7} {a:Act} {w:World}
theorem FJ {l:List Oper} (F:Nat->Option Addr->Nat->Option Addr->Nat->Act) (C:Nat->Option Addr->Nat->Option Addr->Nat->World->Prop) (i:∀d b e c f g,C d b e c f g->Q .normal (F d b e c f) g) (h:(∀d b e c f g,C d b e c f g->Q .normal (F d b e c f) g)->(Code.region p l.toArray true).wp P Q a w):(Code.region p l.toArray true).wp P Q a w:=h i
end
theorem BU (S:X4) (p k:Nat) (q:Pe) (w:World) (h:ic w S p k q) (y1:Bd S w) (s6:q.got.length<=1000000) (s7:∀j4∈q.got,SpW j4) (t0:q.aO.length<=1000000) (n9:∀j4∈q.aO,SpW j4) (n4:Dis q.kept) (s8:∀r∈q.kept,Word r.pn/\Word r.bX) (t4:Word q.dw):
  Yk 161 #[pT p] w λv7 B=>∃a l2,v7=.returned (.tuple #[.slice a (lZ q).b.length l2,bV (lZ q).ok])/\(lZ q).b.length<=l2/\Bys B (λk=>w.heap.size<=k/\k<B.heap.size) a (lZ q).b/\ic B S p k (lZ q).pe/\Mod S peT w B:=by
 obtain⟨k9,l3,e1,g6,b6,l0,l4,l1,l5,v6,e2,r5,m0,m1,y0,_⟩:=h.ex;obtain⟨a3,i3⟩:=eX v6.length;rw[<-i3]at e2;have b5:=e2;have y6:=e2.lt;obtain⟨r0,j8,q9,j7,f7⟩:=BF h m1 m0 (λB (h4:bW w B)=>NB S p k q B (h.below h4) oM) (λB (h4:bW w B)=>FZ S p k q B (h.below h4) oM);clear h e2 r5 m0 m1 i3;go_enter Tryz.func161,Tryz.ntmps161;go_wp2_with fail;refine' FJ (F:=_) (λc I V J W b7=>X3 (bW w b7)/\X3 (Blk b7 c 92 #[.slice I q.got.length V,.slice J q.aO.length W,uI q.dw,uI 0,bV false])/\X3 (Sps b7 (λk=>w.heap.size<=k/\k<b7.heap.size) I q.got)/\X3 (Sps b7 (λk=>w.heap.size<=k/\k<b7.heap.size) J q.aO)/\q.got.length<=V/\q.aO.length<=W/\w.heap.size<=c) ?tl (λg4=>?mn);case mn=>
  have L:bW w w.drew:=bA (aj _ _);refine aZ (S:=λB=>Blk B p 226 (peC q k9 l3 e1 g6 b6 l0 l4 l1 a3 l5)) kR (b5.below L b5.lt) (λs0=>?_);clear s0;have H:Blk w.drew p 226 (peC q k9 l3 e1 g6 b6 l0 l4 l1 a3 l5):=b5.below L b5.lt;refine tK 0 9 H ?_;refine tK 2 11 H ?_;refine tK 4 13 H ?_;refine tK 5 14 H ?_;refine nrm 11 53 ?_;refine tK 6 15 H ?_;refine X6 7 16 H ?_ (y:=by intro w s1;have y9:=s1.Wu 8;exact gS);refine nrm 11 245 ?_;refine fo 1 9 kR ?_ ?_
  .refine opC 10 213 #[pT p] ((j7.o _ L).mono ?_)
   rintro a1 w3 ⟨j,l,u,e7,v,d⟩;have D:=H.below d H.lt;have p6:=aF (S':=λk=>w.heap.size<=k/\k<w3.heap.size) v (λk b=>⟨ay L.size b.1,b.2⟩);have b2:=L.trans (d.mono L.size);refine⟨_,u,D,?_⟩;clear u d v;refine mP ?_;refine fo 3 9 kR ?_ ?_
   .refine opC 12 214 #[pT p] ((f7.o _ b2).mono ?_)
    rintro a1 q8 ⟨N,X,u,c7,v,d⟩;have f3:=D.below d D.lt;have t5:=aF (S':=λk=>w.heap.size<=k/\k<q8.heap.size) v (λk b=>⟨ay b2.size b.1,b.2⟩);have h0:=b2.trans (d.mono b2.size);have t6:=aF (S':=λk=>w.heap.size<=k/\k<q8.heap.size) (aD p6 d) (λk b=>⟨b.1,aC b.2 d.size⟩);refine⟨_,u,f3,?_⟩;clear u d v;refine Yf 8 17 f3 ?_;refine nrm 11 511 ?_;refine aI 9 kR ?_;refine opA 4 92 jK ?_;intro a7 d1 f a2 e6;have i5:=f3.below f f3.lt;have n5:w.heap.size<=a7:=ay h0.size a2;have r7:=h0.trans (f.mono h0.size);have t7:=aF (S':=λk=>w.heap.size<=k/\k<d1.heap.size) (aD t6 f) (λk b=>⟨b.1,aC b.2 f.size⟩);have t8:=aF (S':=λk=>w.heap.size<=k/\k<d1.heap.size) (aD t5 f) (λk b=>⟨b.1,aC b.2 f.size⟩);refine⟨i5,?_⟩;clear f a2;refine mP ?_;have a3:a7≠p:=dF e6 i5 dC;have o1:=Blk.gy (Ne.symm a3) [.slice j q.got.length l,.slice N q.aO.length X,uI q.dw,uI 0,bV false] 0 _ i5;refine dJ (i:=10) 92 (.tmp 4) (.tmp 17) a7 0 #[.slice j q.got.length l,.slice N q.aO.length X,uI q.dw,uI 0,bV false] rfl kR kR kR kR kR kR (e6.there _ sM) kR XF (o1) ?_;intro w4 p9;have o8:=Blk.gF e6 [.slice j q.got.length l,.slice N q.aO.length X,uI q.dw,uI 0,bV false] rfl;have m2:bW w (d1.setCells a7 0 [.slice j q.got.length l,.slice N q.aO.length X,uI q.dw,uI 0,bV false]):=Below.bZ n5 _ _ _ r7;have t:=Mod.bZ [.slice j q.got.length l,.slice N q.aO.length X,uI q.dw,uI 0,bV false] 0 _ _ e6;have E:=t.size;have p2:=aF (S':=λk=>w.heap.size<=k/\k<(d1.setCells a7 0 [.slice j q.got.length l,.slice N q.aO.length X,uI q.dw,uI 0,bV false]).heap.size) (aG t7 (ts:=[some 272]) (t.aM dC) sM) (λk b=>⟨b.1,aC b.2 E⟩);have p3:=aF (S':=λk=>w.heap.size<=k/\k<(d1.setCells a7 0 [.slice j q.got.length l,.slice N q.aO.length X,uI q.dw,uI 0,bV false]).heap.size) (aG t8 (ts:=[some 272]) (t.aM dC) sM) (λk b=>⟨b.1,aC b.2 E⟩);clear t E;rw[<-show w4=_ from p9]at o8 o1 m2 p2 p3;clear p9;refine mP ?_;refine bg kR ?_ _;exact g4 a7 j l N X _ ⟨zH m2,zH o8,zH p2,zH p3,e7,c7,n5⟩
   .refine opA 4 92 jK ?_
    intro a8 w5 f a2 m8;have i6:=D.below f D.lt;have n6:w.heap.size<=a8:=ay b2.size a2;have e3:=b2.trans (f.mono b2.size);have t9:=aF (S':=λk=>w.heap.size<=k/\k<w5.heap.size) (aD p6 f) (λk b=>⟨b.1,aC b.2 f.size⟩);refine⟨i6,?_⟩;clear f a2;refine mP ?_;refine aI 3 kR ?_;refine opC 12 214 #[pT p] ((f7.o _ e3).mono ?_);rintro a1 d2 ⟨O,Y,u,c7,v,d⟩;obtain⟨f1,v0,r8,v1,f4⟩:=Ju (i6.below d i6.lt) (aF (S':=λk=>w.heap.size<=k/\k<d2.heap.size) v (λk b=>⟨ay e3.size b.1,b.2⟩)) (e3.trans (d.mono e3.size)) (aF (S':=λk=>w.heap.size<=k/\k<d2.heap.size) (aD t9 d) (λk b=>⟨b.1,aC b.2 d.size⟩)) (m8.below d m8.lt);refine⟨_,u,f1,?_⟩;clear u d v;refine Yf 8 17 f1 ?_;refine nrm 11 1023 ?_;have a3:a8≠p:=dF f4 f1 dC;have o2:=Blk.gy (Ne.symm a3) [.slice j q.got.length l,.slice O q.aO.length Y,uI q.dw,uI 0,bV false] 0 _ f1;refine dJ (i:=10) 92 (.tmp 4) (.tmp 17) a8 0 #[.slice j q.got.length l,.slice O q.aO.length Y,uI q.dw,uI 0,bV false] rfl kR kR kR kR kR kR (f4.there _ sM) kR XF (o2) ?_;intro w6 q0;have o9:=Blk.gF f4 [.slice j q.got.length l,.slice O q.aO.length Y,uI q.dw,uI 0,bV false] rfl;have m3:bW w (d2.setCells a8 0 [.slice j q.got.length l,.slice O q.aO.length Y,uI q.dw,uI 0,bV false]):=Below.bZ n6 _ _ _ r8;have t:=Mod.bZ [.slice j q.got.length l,.slice O q.aO.length Y,uI q.dw,uI 0,bV false] 0 _ _ f4;have E:=t.size;have p4:=aF (S':=λk=>w.heap.size<=k/\k<(d2.setCells a8 0 [.slice j q.got.length l,.slice O q.aO.length Y,uI q.dw,uI 0,bV false]).heap.size) (aG v1 (ts:=[some 272]) (t.aM dC) sM) (λk b=>⟨b.1,aC b.2 E⟩);have p5:=aF (S':=λk=>w.heap.size<=k/\k<(d2.setCells a8 0 [.slice j q.got.length l,.slice O q.aO.length Y,uI q.dw,uI 0,bV false]).heap.size) (aG v0 (ts:=[some 272]) (t.aM dC) sM) (λk b=>⟨b.1,aC b.2 E⟩);clear t E;rw[<-show w6=_ from q0]at o9 o2 m3 p4 p5;clear q0;refine mP ?_;refine bg kR ?_ _;exact g4 a8 j l O Y _ ⟨zH m3,zH o9,zH p4,zH p5,e7,c7,n6⟩
  .refine opA 4 92 jK ?_
   intro a9 z0 f a2 m9;have i7:=H.below f H.lt;have n7:w.heap.size<=a9:=ay L.size a2;have e4:=L.trans (f.mono L.size);refine⟨i7,?_⟩;clear f a2;refine mP ?_;refine aI 1 kR ?_;refine opC 10 213 #[pT p] ((j7.o _ e4).mono ?_);rintro a1 w7 ⟨R,Z,u,e7,v,d⟩;have i8:=i7.below d i7.lt;have v2:=aF (S':=λk=>w.heap.size<=k/\k<w7.heap.size) v (λk b=>⟨ay e4.size b.1,b.2⟩);have e5:=e4.trans (d.mono e4.size);have p0:=m9.below d m9.lt;refine⟨_,u,i8,?_⟩;clear u d v;refine mP ?_;refine aI 3 kR ?_;refine opC 12 214 #[pT p] ((f7.o _ e5).mono ?_);rintro a1 d3 ⟨U,a0,u,c7,v,d⟩;obtain⟨f2,v3,r9,v4,f5⟩:=Ju (i8.below d i8.lt) (aF (S':=λk=>w.heap.size<=k/\k<d3.heap.size) v (λk b=>⟨ay e5.size b.1,b.2⟩)) (e5.trans (d.mono e5.size)) (aF (S':=λk=>w.heap.size<=k/\k<d3.heap.size) (aD v2 d) (λk b=>⟨b.1,aC b.2 d.size⟩)) (p0.below d p0.lt);refine⟨_,u,f2,?_⟩;clear u d v;refine Yf 8 17 f2 ?_;refine nrm 11 1023 ?_;have a3:a9≠p:=dF f5 f2 dC;have o3:=Blk.gy (Ne.symm a3) [.slice R q.got.length Z,.slice U q.aO.length a0,uI q.dw,uI 0,bV false] 0 _ f2;refine dJ (i:=10) 92 (.tmp 4) (.tmp 17) a9 0 #[.slice R q.got.length Z,.slice U q.aO.length a0,uI q.dw,uI 0,bV false] rfl kR kR kR kR kR kR (f5.there _ sM) kR XF (o3) ?_;intro w8 q1;have p1:=Blk.gF f5 [.slice R q.got.length Z,.slice U q.aO.length a0,uI q.dw,uI 0,bV false] rfl;have m4:bW w (d3.setCells a9 0 [.slice R q.got.length Z,.slice U q.aO.length a0,uI q.dw,uI 0,bV false]):=Below.bZ n7 _ _ _ r9;have t:=Mod.bZ [.slice R q.got.length Z,.slice U q.aO.length a0,uI q.dw,uI 0,bV false] 0 _ _ f5;have E:=t.size;have p7:=aF (S':=λk=>w.heap.size<=k/\k<(d3.setCells a9 0 [.slice R q.got.length Z,.slice U q.aO.length a0,uI q.dw,uI 0,bV false]).heap.size) (aG v4 (ts:=[some 272]) (t.aM dC) sM) (λk b=>⟨b.1,aC b.2 E⟩);have p8:=aF (S':=λk=>w.heap.size<=k/\k<(d3.setCells a9 0 [.slice R q.got.length Z,.slice U q.aO.length a0,uI q.dw,uI 0,bV false]).heap.size) (aG v3 (ts:=[some 272]) (t.aM dC) sM) (λk b=>⟨b.1,aC b.2 E⟩);clear t E;rw[<-show w8=_ from q1]at p1 o3 m4 p7 p8;clear q1;refine mP ?_;refine bg kR ?_ _;exact g4 a9 R Z U a0 _ ⟨zH m4,zH p1,zH p7,zH p8,e7,c7,n7⟩
 case tl=>
  intro c I V J W A r6;obtain⟨c0,k5,r1,r2,s4,s5,s9⟩:=r6;have i1:=j8.o.below c0.o;have d6:=zH (b5.below c0.o b5.lt);obtain⟨r3,y7,s2,y3⟩:=Hl (d6.o.Wu 6) d6.o.lt k5.o.lt i1.lt;(have b4:b6≠c:=by have:=j8.o.lt;omega);obtain⟨k8,m7⟩:=eX ((q.kept.map (·.bX)).foldl WN 0);obtain⟨k7,m5⟩:=eX ((q.kept.map λk=>k.rE&& !oQ q.aO k.pn).foldl (λr s=>r !=s) false);obtain⟨k6,k0⟩:=yx m7 m5;clear m7 m5 b5;(try simp only[]);go_wp2_with (first|(at_range;refine Jm _ rfl _ rfl b6 k q.kept rfl i1 n4 ?_;intro w1 o4 h9 t3)|fail);go_frame;go_loopw [] (λwr=>∃a4 g7 e z,X3 (∀a5∈a4,a5∈q.kept)/\X3 (tT wr b6 A.heap.size k q.kept a4 g7)/\X3 (Blk wr c 92 #[.slice I q.got.length V,.slice J q.aO.length W,uI q.dw,uI e,bV z])/\X3 ((a4.map (·.bX)).foldl WN e=k8/\(a4.map λk=>k.rE&& !oQ q.aO k.pn).foldl (λr s=>r !=s) z=k7/\Word e/\Dis a4)/\X3 (Mod (λk=>k=c) [some 92] A wr)) (λwr=>wr.rangeLeft b6 A.heap.size);case atStart=>
   have s3:Blk w1 c 92 #[.slice I q.got.length V,.slice J q.aO.length W,uI q.dw,uI 0,bV false]:=by
    unfold Blk;rw[h9.block c s2 sM];exact k5.o
   exact⟨_,_,0,false,zH (λa5 M=>M),zH o4,zH s3,zH ⟨k6.o.symm,k0.o.symm,⟨dC,dC⟩,n4⟩,zH (Mod.QF h9)⟩
  case round=>
   clear o4 h9 t3 i1 r3;obtain⟨a4,g7,e,z,d7,k3,g0,j6,c1⟩:=hrel;have i9:=k3.o;go_wp2_with (first|(at_next;refine Md _ rfl _ rfl b6 A.heap.size k _ a4 g7 rfl i9 ?_ ?_)|fail)
   .intro r4
    subst r4;clear i9;obtain⟨c5,c6,b0,b1⟩:=j6.o;have h3:e=(xk q).xor:=(show e=k8 from c5).trans k6.o;have o0:z=(xk q).kZ:=(show z=k7 from c6).trans k0.o;rw[h3]at b0;rw[h3,o0]at g0;have o:=g0.o;have m6:=(r0.o.below c0.o).keep (ts:=uV) (c1.o.aM dC) (λ_ h=>h);obtain⟨q4,q2⟩:=m6.set1 7 (jI 0) {q with fG:=0} (λ_ _ _ _ _ _ _ _ _ _=>rfl) rfl rfl rfl rfl rfl;obtain⟨j3,q3⟩:=q4.set1 9 (uI 18446744073709551615) {q with fG:=0,due:=18446744073709551615} (λ_ _ _ _ _ _ _ _ _ _=>rfl) rfl rfl rfl rfl rfl;have d0:=q2.trans q3;obtain⟨e0,h1⟩:=eX ((wr.setCell ⟨p,7,none⟩ (jI 0)).setCell ⟨p,9,none⟩ (uI 18446744073709551615));rw[<-h1]at j3 d0;have G:=d6.o.mod c1.o dC;obtain⟨x0,x1⟩:=G.e2 7 9;obtain⟨x6,x7,t2,x3,x4,x5⟩:=LX (G.frozen 7) (G.frozen 9) G.lt (o.Wu 0) (o.Wu 1) (o.Wu 2);obtain⟨g8,g9⟩:=o.e2 3 4;have h6:=o.lt;have t1:¬p=c:=oM;have y5:¬c=p:=oM;have f0:Mod (λk=>k=c) [some 92] A wr:=c1.o;have q6:Sps e0 (λ_=>True) I q.got:=aF (aG (aG r1.o (ts:=[some 272]) (f0.aM dC) sM) (ts:=[some 272]) (d0.aM dC) sM) (λ_ _=>trivial);have q7:Sps e0 (λ_=>True) J q.aO:=aF (aG (aG r2.o (ts:=[some 272]) (f0.aM dC) sM) (ts:=[some 272]) (d0.aM dC) sM) (λ_ _=>trivial);have x:=OI (λ_=>True) I V J W (xk q) e0 ⟨q6,s4,q7,s5,s7,n9,s6,t0⟩ t4 b0;have k1:=zH j3;have n8:Mod S peT w e0:=((c0.o|>aH (S:=S) (T:=peT)).nA f0 (λk b=>by rw[b];exact s9)).then (d0.mono (T':=peT) (λ_ _ h=>h) (by simp[peT])) (λ_ _ h=>h);obtain⟨d5,k4⟩:=yx n8 h1;clear c5 c6 b0 b1 h3 o0 o m6 q4 j3 q2 q3 d0 G f0 q6 q7 n8 h1;cases m:qA (xk q)with
    |false=>
     (have c9:lZ q=⟨[],false,{q with fG:=0,due:=18446744073709551615}⟩:=by unfold lZ;rw[m];rfl);simp only[m,Bool.false_eq_true,if_false]at x;obtain⟨a6,f9⟩:=yx x c9;clear x c9 m;go_wp2_with fail;rw[<-k4.o];refine(a6.o).mono ?_;rintro a1 w2 ⟨v9,w0,rfl,i4,D,c8⟩;obtain⟨C,f8⟩:=yx c8 D;clear D c8;go_wp2;go_ret2;rw[f9.o];have M:=d5.o.size;exact⟨_,_,rfl,i4,aF f8.o (λk b=>⟨by have:=b.1;omega,b.2⟩),k1.o.below C.o,d5.o.then (aH (S:=S) C.o) (λ_ _ h=>h)⟩
    |true=>
     (have c9:lZ q=⟨zP (xk q),true,{q with fG:=0,due:=18446744073709551615}⟩:=by unfold lZ;rw[m];rfl);simp only[m,if_true]at x;obtain⟨a6,f9⟩:=yx x c9;clear x c9 m;go_wp2_with fail;rw[<-k4.o];refine(a6.o).mono ?_;rintro a1 w2 ⟨v9,w0,rfl,i4,D,c8⟩;obtain⟨C,f8⟩:=yx c8 D;clear D c8;go_wp2;go_ret2;rw[f9.o];have M:=d5.o.size;exact⟨_,_,rfl,i4,aF f8.o (λk b=>⟨by have:=b.1;omega,b.2⟩),k1.o.below C.o,d5.o.then (aH (S:=S) C.o) (λ_ _ h=>h)⟩
   .intro s n x2 j1 o5 y2 i0 o7 h8
    have h7:=k3.o.left_eq;have d4:=zH (c1.o.LU i0 (av _));have y8:=d4.o.size;have o:Blk n c 92 #[.slice I q.got.length V,.slice J q.aO.length W,uI q.dw,uI e,bV z]:=by
     unfold Blk;rw[i0.block c (by have:=c1.o.size;omega) (λl7=>by injection l7 with l7;omega)];exact g0.o
    obtain⟨c3,c2⟩:=yx o o5;have G:=d6.o.mod d4.o dC;obtain⟨l6,g8,g9,l8,l9,t2⟩:=LX (G.Wu 5) (o.Wu 3) (o.Wu 4) (o.frozen 3) (o.frozen 4) G.lt;have h6:=o.lt;have y4:¬c=n.heap.size:=oM;have i3:¬p=n.heap.size:=oM;have t1:¬p=c:=oM;have w9:=zH o7;clear o i9 i0 o5 G o7;(have n3:(λr:Kp=> !decide (r.pn=s.pn))=λr=>decide (r.pn≠s.pn):=by funext r;simp);have j0:=c2.o;(try rw[n3]at j0);have c2:=zH j0;clear j0 n3;obtain⟨c5,c6,b0,b1⟩:=j6.o;have j2:=s8 s (d7.o s j1);have n1:=(Me WN Kc (·.bX) b1 j1 e).symm.trans c5;have n2:=(Me (λr s=>r !=s) OE (λk=>k.rE&& !oQ q.aO k.pn) b1 j1 z).symm.trans c6;have e8:Word (WN e s.bX):=wm b0 j2.2;have v5:bits BinOp.xor IntKind.u64 e s.bX=WN e s.bX:=yt b0 j2.2;have n0:Dis (a4.filter λr=>decide (r.pn≠s.pn)):=b1.sublist List.filter_sublist;clear c5 c6 b0 b1;obtain⟨q5,g,v8⟩:=s;obtain⟨g2,g3,g1⟩:=Av n1 n2 n0;clear n1 n2 n0;simp only at h8 v5 e8 j2;cases v8 with
    |false=>
     go_wp2;go_roundw;case rel=>
      have b8:=(c3.o.bF 3 (uI (WN e g)));have b9:=(aV (λk=>k=c) [some 92] n).setCell c3.o (λ_=>rfl) sM 3 (uI (WN e g));have f:Below (n.setCell ⟨c,3,none⟩ (uI (WN e g))).heap.size (n.setCell ⟨c,3,none⟩ (uI (WN e g))) ((n.setCell ⟨c,3,none⟩ (uI (WN e g))).alloc (.cells #[uI g,bV false] 301)):=(aj _ _).alloc (av _) _;have m:=b9.then (aH (S:=λk=>k=c) f) (λ_ _ h=>h);refine⟨_,_,_,z,zH (λa5 M=>d7.o a5 (dx.1 M).1),zH (c2.o.mod m b4 (by show¬A.heap.size=c;omega)),zH (b8.below f b8.lt),zH ⟨g2.o,?_,e8,g1.o⟩,zH (d4.o.then m (λ_ _ h=>h))⟩;have:=g3.o;simpa using this
     case measure=>
      have b9:=(aV (λk=>k=c) [some 92] n).setCell c3.o (λ_=>rfl) sM 3 (uI (WN e g));have f:Below (n.setCell ⟨c,3,none⟩ (uI (WN e g))).heap.size (n.setCell ⟨c,3,none⟩ (uI (WN e g))) ((n.setCell ⟨c,3,none⟩ (uI (WN e g))).alloc (.cells #[uI g,bV false] 301)):=(aj _ _).alloc (av _) _;have m:=b9.then (aH (S:=λk=>k=c) f) (λ_ _ h=>h);rw[(c2.o.mod m b4 (by show¬A.heap.size=c;omega)).left_eq,h7];omega
    |true=>
     have b8:=(c3.o.bF 3 (uI (WN e g)));have b9:=(aV (λk=>k=c) [some 92] n).setCell c3.o (λ_=>rfl) sM 3 (uI (WN e g));have f:Below (n.setCell ⟨c,3,none⟩ (uI (WN e g))).heap.size (n.setCell ⟨c,3,none⟩ (uI (WN e g))) ((n.setCell ⟨c,3,none⟩ (uI (WN e g))).alloc (.cells #[uI g,bV true] 301)):=(aj _ _).alloc (av _) _;have m:=b9.then (aH (S:=λk=>k=c) f) (λ_ _ h=>h);have h5:=b8.below f b8.lt;obtain⟨g5,h2⟩:=eX ((n.setCell ⟨c,3,none⟩ (uI (WN e g))).alloc (.cells #[uI g,bV true] 301));rw[<-h2]at m h5;have i2:=d4.o.then m (λ_ _ h=>h);have o6:Sps g5 S e1 q.aO:=aG (aD q9.o c0.o) (ts:=[some 272]) (i2.aM dC) sM;have x:=yZ S e1 g6 q.aO q5 g5 o6 oM n9;obtain⟨d8,j9,d9,k2⟩:=Bq h2 i2 (show Blk g5 c 92 #[.slice I q.got.length V,.slice J q.aO.length W,uI q.dw,uI (WN e g),bV z]from h5) (c2.o.mod m b4 (by show¬A.heap.size=c;omega));clear b8 b9 f m h5 h2 i2 o6;cases hV:oQ q.aO q5 with
     |false=>
      rw[hV]at x;have a6:=zH x;clear x;go_wp2_with fail;rw[<-d8.o];refine(a6.o).mono ?_;rintro a1 j5 ⟨rfl,K⟩;have b3:=d9.o.below K d9.o.lt;obtain⟨c4,C,f6⟩:=Av b3 (k2.o.mod (aH (S:=λk=>k=c) (T:=[some 92]) K) b4 (by show¬A.heap.size=c;omega)) (j9.o.then (aH (S:=λk=>k=c) K) (λ_ _ h=>h));obtain⟨b1,x8⟩:=b3.cz 4;have x9:=b3.lt;clear b3 K g8 g9 l8 l9 h6 l6 h8 d8;go_wp2;go_roundw;case rel=>
       have e9:=(aV (λk=>k=c) [some 92] j5).setCell c4.o (λ_=>rfl) sM 4 (bV (!z));refine⟨_,_,_,!z,zH (λa5 M=>d7.o a5 (dx.1 M).1),zH (C.o.mod e9 b4 (by show¬A.heap.size=c;omega)),zH (c4.o.bF 4 _),zH ⟨g2.o,?_,e8,g1.o⟩,zH (f6.o.then e9 (λ_ _ h=>h))⟩;have:=g3.o;simpa[hV]using this
      case measure=>
       have e9:=(aV (λk=>k=c) [some 92] j5).setCell c4.o (λ_=>rfl) sM 4 (bV (!z));rw[(C.o.mod e9 b4 (by show¬A.heap.size=c;omega)).left_eq,h7];omega
     |true=>
      rw[hV]at x;have a6:=zH x;clear x;go_wp2_with fail;rw[<-d8.o];refine(a6.o).mono ?_;rintro a1 j5 ⟨rfl,K⟩;have b3:=d9.o.below K d9.o.lt;obtain⟨c4,C,f6⟩:=Av b3 (k2.o.mod (aH (S:=λk=>k=c) (T:=[some 92]) K) b4 (by show¬A.heap.size=c;omega)) (j9.o.then (aH (S:=λk=>k=c) K) (λ_ _ h=>h));clear b3 K g8 g9 l8 l9 h6 l6 h8 d8;go_wp2;go_roundw;case rel=>
       refine⟨_,_,_,z,zH (λa5 M=>d7.o a5 (dx.1 M).1),C,c4,zH ⟨g2.o,?_,e8,g1.o⟩,f6⟩;have:=g3.o;simpa[hV]using this
      case measure=>rw[C.o.left_eq,h7];omega
def MF (S:X4) (w:World) (p k:Nat) (R:Rpe) (c:Ending) (w':World):Prop:=∃a b,c=.returned (.tuple #[.slice a R.b.length b,bV R.ok])/\R.b.length<=b/\Bys w' (λk=>w.heap.size<=k/\k<w'.heap.size) a R.b/\ic w' S p k R.pe/\Mod S peT w w'
theorem GF.spw:∀{l:List Sp} {b:Int},GF b l->0<=b->∀a∈l,SpW a:=by
 intro l b h g a c;obtain⟨d,e,f⟩:=h.low a c;exact⟨⟨oM,oM⟩,⟨oM,oM⟩⟩
theorem jN.tell {S:X4} {p k n g m:Nat} {q:Pe} (a:jN n g m q) (l:g<=1000000) (o:m<=1000000) (h:ic w S p k q) (d:Bd S w):Yk 161 #[pT p] w λe f=>MF S w p k (lZ q) e f:=by
 have i:=a.sV;have j:=a.oq;exact BU S p k q w h d oM (a.got.spw a.lh) oM (a.aO.spw a.lh) a.Ap (λc b=>⟨⟨(a.kept c b).2.1,by have:=(a.kept c b).2.2;omega⟩,(a.kept c b).1⟩) a.dw
theorem KF (S:X4) (p k n:Nat) (q:Pe) (now:Int) (w:World) (h:ic w S p k q) (l:jN n 32 32 q) (y:Bd S w):Yk 87 #[pT p,uI now] w λz A=>MF S w p k (kK q now) z A:=by
 obtain⟨B,G,D,I,M,C,H,E,J,N,d,_⟩:=h.ex;have F:=d.Wu 9;have L:=d.lt;obtain⟨u,t,b⟩:=Av (l.tell oM oM h y) h (wQ now q.due w);clear d h l;cases hV:tH now q.due with
 |false=>
  (have e:kK q now=⟨[],false,q⟩:=by unfold kK;rw[hV];rfl);have a:=b.o;rw[hV]at a;have c:=zH a;clear a hV b;go_enter Tryz.func87,Tryz.ntmps87;go_wp2_with fail;refine Yd c.o ?_;intro O rfl;go_wp2;go_ret2;rw[e];exact⟨none,0,rfl,av _,Bys.WH,t.o,aV _ _ _⟩
 |true=>
  (have e:kK q now=lZ q:=by unfold kK;rw[hV];rfl);have a:=b.o;rw[hV]at a;have c:=zH a;clear a hV b;go_enter Tryz.func87,Tryz.ntmps87;go_wp2_with fail;refine Yg c.o ?_;go_wp2_with fail;refine(u.o).mono ?_;rintro K P ⟨v,x,rfl,f,g,i,j⟩;obtain⟨m,o,r,s⟩:=Bq f g i j;clear f g i j;go_wp2;go_ret2;rw[e];exact⟨v,x,rfl,m.o,o.o,r.o,s.o⟩
attribute[local go_sem] BW.cell BW.frozen
theorem KS {o:Oper} {a:Act} {Q:X7} (w:World) (m x v:Operand) (u:o.op=Op.mapUpdate 223 m x v) (b n:Nat) (l:List Kp) (s:a.eval m=.map (some b)) (h:nQ w b n l) (t:n<maxLen) (y:Kp) (C:a.eval x=uI y.pn) (A:a.eval v=.agg #[uI y.bX,bV y.rE])
  (B:Word y.pn) (hy:∀x∈l,x.pn≠y.pn) (e:Option Tmp) (r:o.dst=e)
  (j:∀c,nQ c b (n+1) (l++[y])->w.grownBy c (some b)->K (a.put e undef) c):o.wp prog a w K Q:=by
 obtain⟨F,f,i⟩:=h;obtain⟨c,z,D,E⟩:=f.update yU Tryz.underlying223 t (key:=uI y.pn) (kl:=kpL y) (Qv B) (val:=.agg #[uI y.bX,bV y.rE]) (d:=kpV y) (ps:=[]) rfl;unfold Oper.wp;subst r;simp[execOp,u,s,C,A,z,Result.andThen];exact j _ ⟨_,D,i.put (nQ.isMap f) hy⟩ E
structure TaI (S:X4) (w:World) (p k:Nat) (q:Pe) (bd:Nat) (d:Da) (ab:X5) (cb:Nat) (W:World):Prop where
 pe:ic W (grow S w W) p k q
 m:Mod S peT w W
 b8:Blk W bd 115 #[uI d.pn,uI d.bn,uI d.off,uI d.bX,jI d.ecn,.slice ab d.body.length cb]
 lo:w.heap.size<=bd
 by_:Bys W (λk=>w.heap.size<=k) ab d.body
def PeTk (S:X4) (w:World) (p k:Nat) (R:Rpe) (c:Ending) (w':World):Prop:=∃a b,c=.returned (.tuple #[.slice a R.b.length b,bV R.ok])/\R.b.length<=b/\Bys w' (λk=>w.heap.size<=k/\k<w'.heap.size) a R.b/\ic w' (grow S w w') p k R.pe/\Mod S peT w w'
section
variable {S:X4} {w W W':World} {p k k' b8 cb:Nat} {q q':Pe} {d:Da} {ab:X5}
theorem TaI.step (h:TaI S w p k q b8 d ab cb W) (b:Mod (grow S w W) peT W W') (e:ic W' (grow (grow S w W) W W') p k' q'):TaI S w p k' q' b8 d ab cb W':=
 ⟨e.mono (λk c=>grow_grow h.m.size b.size c),h.m.then b (λk i c=>c.elim id (λf=>Wy f.1 oM)),h.b8.mod b dC,h.lo,aG h.by_ (ts:=[some 5]) (b.aM dC) sM⟩
theorem TaI.below (h:TaI S w p k q b8 d ab cb W) (hb:bW W W'):TaI S w p k q b8 d ab cb W':=h.step (aH hb) ((h.pe.below hb).mono (λ_ h=>.inl h))
theorem TaI.set1 (h:TaI S w p k q b8 d ab cb W) (i:Nat) (u:Value) (q':Pe) (C:∀b j e o s c l f t r,(peC q b j e o s c l f t r).setIfInBounds i u=peC q' b j e o s c l f t r)
  (x:q'.got=q.got) (y:q'.aO=q.aO) (z:q'.kept=q.kept) (A:q'.fK=q.fK) (B:q'.pieces=q.pieces):TaI S w p k q' b8 d ab cb (W.setCell ⟨p,i,none⟩ u):=by
 obtain⟨a,v⟩:=h.pe.set1 i u q' C x y z A B;exact h.step (v.mono (λ_ _ h=>h) (by simp[peT])) (a.mono (λ_ h=>.inl h))
theorem TaI.put (h:TaI S w p k q b8 d ab cb W) (b:ic W' (grow (grow S w W) W W') p k' q'/\Mod (grow S w W) [some 226] W W'):TaI S w p k' q' b8 d ab cb W':=h.step (b.2.mono (λ_ _ h=>h) (by simp[peT])) b.1
theorem TaI.bd (h:TaI S w p k q b8 d ab cb W) (b:Bd S w):Bd (grow S w W) W:=b.grow h.m.size
theorem TaI.cells (h:TaI S w p k q b8 d ab cb W):∃b e c f r i l j o,∃s:List Pv,Blk W p 226 (peC q b e c f r i l j s.length o)/\Sps W (grow S w W) b q.got/\q.got.length<=e/\Sps W (grow S w W) c q.aO/\q.aO.length<=f:=by
 obtain⟨b,e,c,f,r,i,l,j,o,s,u,v,x,y,z,A,B,C,t⟩:=h.pe.ex;exact⟨b,e,c,f,r,i,l,j,o,s,u,v,t.2.1,x,t.2.2.1⟩
theorem TaI.o (h:TaI S w p k q b8 d ab cb W):PeTk S w p k ⟨[],false,q⟩ (.returned (.tuple #[zzN,bV false])) W:=⟨none,0,rfl,av _,Bys.WH,h.pe,h.m⟩
theorem TaI.told (h:TaI S w p k q b8 d ab cb W) {R:Rpe} {e:Ending} (s:MF (grow S w W) W p k R e W'):PeTk S w p k R e W':=by
 obtain⟨a,f,o,i,j,l,b⟩:=s;have t:=h.m.size;have u:=b.size;have c:=h.step b (l.mono (λ_ h=>.inl h));exact⟨a,f,o,i,aF j (λk r=>⟨oM,r.2⟩),c.pe,c.m⟩
theorem TaI.map_ (h:TaI S w p k q b8 d ab cb W) {mb:Nat} {y:Kp} (A:∀e l i r c f o j J s,Blk W p 226 (peC q e l i r c f o j J s)->c=mb) (z:nQ W' mb (k+1) (q.kept++[y])) (x:W.grownBy W' (some mb)):TaI S w p (k+1) {q with kept:=q.kept++[y]} b8 d ab cb W':=by
 obtain⟨e,l,i,r,c,f,o,j,s,K,u,C,D,E,v,F,G,H,I⟩:=h.pe.ex;obtain rfl:=A _ _ _ _ _ _ _ _ _ _ u;have t:Mod (grow S w W) [none] W W':=Mod.Qc E x v;have b:bQ (grow S w W) [some 226,some 272,some 203,some 5] W W':=t.aM dC;refine h.step (t.mono (λ_ _ h=>h) (by simp[peT])) ⟨⟨e,l,i,r,c,f,o,j,s,K,u.keep b h.pe.mem sM,aF (aG C b sM) (λ_ h=>.inl h),aF (aG D b sM) (λ_ h=>.inl h),z,.inl v,aF (aG F b sM) (λ_ h=>.inl h),(G.keep b sM).mono (λ_ h=>.inl h),λL B=>aF (aG (H L B) b sM) (λ_ h=>.inl h),I⟩,.inl h.pe.mem⟩
end
def takeEnd (q:Pe) (d:Da) (now:Int):Rpe:=
 if d.pn<q.floor then⟨[],false,q⟩else
 let b:={q with next:=max q.next (d.pn+1),fG:=q.fG+1,dw:=d.bX}
 if 2<=b.fG\/jB d.ecn=false\/d.pn≠q.next then lZ b else
 ⟨[],false,if b.due=18446744073709551615 then{b with due:=WI now b.delay}else b⟩
theorem tk14 (S:X4) (w:World) (p k n b8:Nat) (q:Pe) (d:Da) (ab:X5) (cb:Nat) (now:Int) (R:Rpe) (wc:World) (B:X3 (TaI S w p k q b8 d ab cb wc)) (c2:X3 (Bd S w)) (i:X3 (jN n 32 32 q)) (a1:X3 (DOk d)) (d6:Word now) (c1:X3 (R=takeEnd q d now))
  {e1 e4 e5 e6 e7 e2 e3:Value} (g0:V.length=190:=by exact rfl):
  let Q':X7:=bodyPost prog Tryz.f86 λa7 s=>PeTk S w p k R a7 s
  Code.wp prog (WO 14 (Tryz.f86.body.getD .skip)) Q' ⟨((pT p)::e1::uI now::e4::e5::e6::.slice none 0 0::bV false::(pT b8)::e7::e2::e3::bV (jB d.ecn)::V).toArray,[]⟩ wc:=by
 intro Q';generalize V=f2 at*
 revert f2;(repeat (refine lcZ ?_;intro _));refine lzZ ?_
 conv=>arg 2;whnf
 (try dsimp only);obtain⟨f6,f7,f8,f9⟩:=Hl a1.o.pn0 a1.o.pn1 i.o.tX i.o.tV;have g1:IntKind.u64.wrap (d.pn+1)=d.pn+1:=Wz _ oM;have g2:IntKind.i64.wrap (q.fG+1)=q.fG+1:=eP _ oM;generalize b3:jB d.ecn=U at*
 have a9:=zH b3;clear b3;obtain⟨E,I,G,K,O,F,J,H,L,T,b,_⟩:=B.o.cells;have c9:=b.Wu 1;have o:=b.lt;have e:=B.o.b8;have M:=e.Wu 0;have l:=e.lt;clear b e;go_upto_region 19 with fail;have f:=c1.o;unfold takeEnd at f;by_cases z:d.pn<q.floor
 .have b1:=bM z
  rw[aB z]at f;have C:=zH f;clear f z;refine fq kR kR ?_;refine mR ?_;refine bwI ?_;intro a0 r;have v:bW wc a0:=r;have x:=zH (B.o.below v);clear r;go_wp2;go_ret2;rw[C.o];exact x.o.o
 .have b1:=bJ z
  rw[Ww z]at f;simp only[]at f;have C:=zH f;clear f z;refine fq kR kR ?_;refine mR ?_;refine bwI ?_;intro a0 r;have v:bW wc a0:=r;have x:=zH (B.o.below v);clear r;go_wp2_with fail;clear B b1 c9 o M l v;obtain⟨E,I,G,K,O,F,J,H,L,T,b,_⟩:=x.o.cells;have a2:=b.Wu 2;have o:=b.lt;have e:=x.o.b8;have M:=e.Wu 0;have l:=e.lt;clear b e;refine fq kR kR ?_;refine mR ?_;refine bwI ?_;intro b5 r;have v:bW a0 b5:=r;have Y:=zH (x.o.below v);clear r;go_wp2_with fail;clear a2 o M l v x;obtain⟨E,I,G,K,O,F,J,H,L,T,b,_⟩:=Y.o.cells;obtain⟨a2,e9⟩:=b.cz 2;have o:=b.lt;have e:=Y.o.b8;have M:=e.Wu 0;have l:=e.lt;clear b e;refine bP 11 kR kR ?_;refine mB ?_;rintro _ ⟨d8,rfl⟩;refine dA rfl rfl ?_;go_simp;refine aK ?_;obtain⟨b0,a5⟩:=eX ((b5.drewN d8).setCell ⟨p,2,none⟩ (uI (max q.next (d.pn+1))));rw[<-a5];have X:=zH (show TaI S w p k {q with next:=max q.next (d.pn+1)} b8 d ab cb b0 by rw[a5];exact(Y.o.below (aA (aj _ _) _)).set1 2 _ _ (λ_ _ _ _ _ _ _ _ _ _=>rfl) rfl rfl rfl rfl rfl);clear a5 a2 e9 o M l Y;obtain⟨E,I,G,K,O,F,J,H,L,T,b,_⟩:=X.o.cells;obtain⟨a3,d0⟩:=b.e2 7 8;obtain⟨f0,f1,o,e⟩:=Hl (b.frozen 7) (b.frozen 8) b.lt X.o.b8;have d1:=e.Wu 3;have l:=e.lt;clear b e;go_upto_region 25 with fail;obtain⟨y,a6⟩:=eX ((b0.setCell ⟨p,7,none⟩ (jI (q.fG+1))).setCell ⟨p,8,none⟩ (uI d.bX));rw[<-a6];have t:=zH (show TaI S w p k {q with next:=max q.next (d.pn+1),fG:=q.fG+1,dw:=d.bX} b8 d ab cb y by rw[a6];exact(X.o.set1 7 _ {q with next:=max q.next (d.pn+1),fG:=q.fG+1} (λ_ _ _ _ _ _ _ _ _ _=>rfl) rfl rfl rfl rfl rfl).set1 8 _ _ (λ_ _ _ _ _ _ _ _ _ _=>rfl) rfl rfl rfl rfl rfl);obtain⟨c,j⟩:∃c,c={q with next:=max q.next (d.pn+1),fG:=q.fG+1,dw:=d.bX}:=⟨_,rfl⟩;rw[<-j]at t C;(have b4:c.fG=q.fG+1:=by rw[j]);have c0:=zH j;(have d5:Word c.delay:=by rw[j];exact i.o.delay);have b7:=zH (show∀e8 U,jN n 32 32 {c with fG:=e8,due:=U}->True from λ_ _ _=>trivial);have c3:=zH (show∀s,ic s (grow S w y) p k c->Bd (grow S w y) s->Yk 161 #[pT p] s λa7 e0=>MF (grow S w y) s p k (lZ c) a7 e0 from λs d7 d3=>BU (grow S w y) p k c s d7 d3 (by rw[j];have:=i.o.sV;simp only;omega) (by rw[j];exact i.o.got.spw i.o.lh) (by rw[j];have:=i.o.oq;simp only;omega) (by rw[j];exact i.o.aO.spw i.o.lh) (by rw[j];exact i.o.Ap) (λa8 Z=>by rw[j]at Z;exact⟨⟨(i.o.kept a8 Z).2.1,by have:=(i.o.kept a8 Z).2.2;omega⟩,(i.o.kept a8 Z).1⟩) (by rw[j];exact a1.o.bX));rw[<-b4]at C;clear a6 a3 f0 d0 f1 o d1 l X b4 j b7;obtain⟨E,I,G,K,O,F,J,H,L,T,b,_⟩:=t.o.cells;have a3:=b.Wu 7;have o:=b.lt;have e:=t.o.b8;have l:=e.lt;clear b e;go_cut [184] (λd9 wx=>X3 (TaI S w p k c b8 d ab cb wx)/\X3 (wx=y)/\d9=bV (decide (2<=c.fG\/U=false\/d.pn≠q.next)));case first=>
   by_cases b:2<=c.fG
   .have d2:=bM b
    go_wp2;go_meet;exact⟨t,rfl,by simp[b]⟩
   .have d2:=bJ b
    cases U with
    |false=>
     go_wp2;go_meet;exact⟨t,rfl,sM⟩
    |true=>
     go_wp2;go_meet;exact⟨t,rfl,lY bV (by rw[mU];simp;omega)⟩
  case rest=>
   obtain⟨u,c5,rfl⟩:=hcut;clear t a3 o l;obtain⟨c6,N⟩:=eX (decide (2<=c.fG\/U=false\/d.pn≠q.next));rw[<-N];have f:=C.o;cases c6 with
   |true=>
    rw[aB (by rw[a9.o];exact jL N.symm)]at f;have D:=zH f;have a4:=c3.o wc;rw[<-c5.o]at a4;have c4:=zH (a4 u.o.pe (u.o.bd c2.o));clear f N a4;go_wp2_with fail;refine(c4.o).mono ?_;rintro f5 g3 ⟨c7,c8,rfl,b2⟩;have b9:=zH b2;clear b2;go_wp2;go_ret2;rw[D.o];exact u.o.told ⟨c7,c8,rfl,b9.o⟩
   |false=>
    rw[Ww (by rw[a9.o];exact jq N.symm)]at f;(replace f:R=⟨[],false,if c.due=18446744073709551615 then{c with due:=WI now c.delay}else c⟩:=by rw[f,c0.o]);clear N;obtain⟨E,I,G,K,O,F,J,H,L,T,b,_⟩:=u.o.cells;have f3:=b.Wu 0;obtain⟨f4,g4⟩:=b.cz 9;have o:=b.lt;have e:=u.o.b8;have l:=e.lt;clear b e;by_cases A:c.due=18446744073709551615
    .rw[aB A]at f
     (have d4:(c.due==18446744073709551615)=true:=by simpa using A);obtain⟨D,b6⟩:=yx f (lT now c.delay d6 d5);clear f A;go_wp2_with fail;refine Yg (b6.o _) ?_;go_wp2;go_ret2;rw[D.o];exact(u.o.set1 9 (uI (WI now c.delay)) {c with due:=WI now c.delay} (λ_ _ _ _ _ _ _ _ _ _=>rfl) rfl rfl rfl rfl rfl).o
    .rw[Ww A]at f
     (have d4:(c.due==18446744073709551615)=false:=by simpa using A);have D:=zH f;clear f A;go_wp2;go_ret2;rw[D.o];exact u.o.o
def wS (w:World) (p i:Nat):Nat:=match w.cell? ⟨p,i,none⟩with|some (.slice _ n _)=>n|_=>0
section
variable {S:X4} {w W W':World} {p k n g m b8 cb:Nat} {q:Pe} {d:Da} {ab:X5}
theorem TaI.raise (h:TaI S w p k q b8 d ab cb W) (o:Bd S w) (b:jN n g m q) (x:g<=1000) (c:m<=1000) {f:Int} (s:Word f):
  Yk 160 #[pT p,uI f] W λi j=>i=.returned (.tuple #[])/\TaI S w p k (gz q f) b8 d ab cb j:=by
 have u:=b.sV;have v:=b.oq;refine(IE (grow S w W) p k q f W h.pe (h.bd o) s oM (b.got.spw b.lh) oM (b.aO.spw b.lh) b.Ap (λl e=>⟨(b.kept l e).2.1,by have:=(b.kept l e).2.2;omega⟩)).mono ?_;rintro i j ⟨r,t,c⟩;exact⟨r,h.step c t⟩
theorem TaI.gotAt (h:TaI S w p k q b8 d ab cb W):∃c f,W.cell? ⟨p,4,none⟩=some (.slice c q.got.length f)/\wS W p 4=q.got.length/\p<W.heap.size/\(1<q.got.length->∃b e,c=some ⟨b,e,none⟩/\b<W.heap.size/\W.cell? ⟨b,e+2,none⟩=some (uI (q.got.getD 1 ⟨0,0⟩).lo)):=by
 obtain⟨c,f,v,z,E,u,y,x,A,F,l,s,B,C,D⟩:=h.cells;have i:=l.Wu 4;refine⟨c,f,i,by unfold wS;rw[i],l.lt,λj=>?_⟩;obtain⟨b,e,o,r,t,G⟩:=Sps.at_ s (aj _ _) j;refine⟨b,e,o,r,?_⟩;rw[aW,aL j];exact t
theorem TaI.Qj (h:TaI S w p k q b8 d ab cb W):∃e i,W.cell? ⟨p,5,none⟩=some (.slice e q.aO.length i)/\wS W p 5=q.aO.length/\p<W.heap.size/\(1<q.aO.length->∃b c,e=some ⟨b,c,none⟩/\b<W.heap.size/\W.cell? ⟨b,c+2,none⟩=some (uI (q.aO.getD 1 ⟨0,0⟩).lo)):=by
 obtain⟨e,i,o,r,E,x,z,y,A,F,l,B,C,u,D⟩:=h.cells;have f:=l.Wu 5;refine⟨o,r,f,by unfold wS;rw[f],l.lt,λj=>?_⟩;obtain⟨b,c,s,t,v,G⟩:=Sps.at_ u (aj _ _) j;refine⟨b,c,s,t,?_⟩;rw[aW,aL j];exact v
end
theorem tk11 (S:X4) (w:World) (p k n b8:Nat) (q:Pe) (d:Da) (ab:X5) (cb:Nat) (now:Int) (R:Rpe) (wc:World) (z:X3 (TaI S w p k q b8 d ab cb wc)) (B:X3 (Bd S w)) (a3:X3 (jN n 33 33 q)) (y:X3 (DOk d)) (c5:Word now) (A:X3 (R=takeEnd (iC (jo (gz q d.bn).got.length (gz q d.bn)).aO.length (jo (gz q d.bn).got.length (gz q d.bn))) d now))
  {d3 d6 d7 d8 d9 d4 d5:Value} (e7:V.length=190:=by exact rfl):
  let Q':X7:=bodyPost prog Tryz.f86 λd0 d1=>PeTk S w p k R d0 d1
  Code.wp prog (WO 11 (Tryz.f86.body.getD .skip)) Q' ⟨((pT p)::d3::uI now::d6::d7::d8::.slice none 0 0::bV false::(pT b8)::d9::d4::d5::bV (jB d.ecn)::V).toArray,[]⟩ wc:=by
 intro Q';generalize V=e0 at*
 revert e0;(repeat (refine lcZ ?_;intro _));refine lzZ ?_
 conv=>arg 2;whnf
 (try dsimp only);obtain⟨c2,c3,c6⟩:=FX y.o.zM y.o.Gt y.o.pn1;have G:=zH (z.o.raise B.o a3.o oM oM (f:=d.bn) ⟨oM,oM⟩);have C:=um a3.o (f:=d.bn) oM;obtain⟨U,a8⟩:=eX (gz q d.bn);rw[<-a8]at G A C;have b0:=zH C;obtain⟨x,N⟩:=eX (jo U.got.length U);have D:=(qM C).2;rw[<-N]at A D;have b1:=zH D;obtain⟨X,O⟩:=eX (iC x.aO.length x);have L:=(nX D).2;rw[<-O]at A L;obtain⟨b2,b3,b4⟩:=Av L N O;obtain⟨a4,a5,e2,e5,e8,e1,e4,e3,e6,e9,a6,_⟩:=z.o.cells;have M:=a6.lt;have J:=z.o.b8;have b7:=J.Wu 1;have c4:=J.lt;clear a6 J;clear a8 C D L N O c2 c3 c6;go_wp2_with fail;refine Yd G.o ?_;intro f0 a7;have a1:=zH a7;clear a7 b7 c4 M z G;go_upto_block 0 with fail;go_cut [] (λwx=>X3 (TaI S w p k x b8 d ab cb wx));case first=>
  go_wp2;go_loopw [] (λwr=>∃q',X3 (TaI S w p k q' b8 d ab cb wr)/\X3 (jN n 33 33 q')/\X3 (jo q'.got.length q'=x)) (λwr=>wS wr p 4);(case atStart=>exact⟨U,a1,b0,zH b3.o.symm⟩);case round=>
   obtain⟨q',l,e,u⟩:=hrel;obtain⟨a4,a5,b6,s,M,r⟩:=l.o.gotAt;obtain⟨b,j⟩:=qM e.o;by_cases i:32<q'.got.length
   .obtain⟨b5,c9,rfl,c1,c7⟩:=r oM
    rw[aB i]at b;rw[b]at j;obtain⟨_,Z,_⟩:=e.o.got.two oM;have Y:=(e.o.got.low (q'.got.getD 1 ⟨0,0⟩) (by rw[aW,aL (show 1<q'.got.length by omega)];exact aN _)).1;have I:=e.o.lh;have H:=zH (l.o.raise B.o e.o oM oM (f:=(q'.got.getD 1 ⟨0,0⟩).lo) ⟨oM,oM⟩);generalize(q'.got.getD 1 ⟨0,0⟩).lo=b9 at*
    have K:decide ((32:Int)<(q'.got.length:Int))=true:=bM oM;have c0:(1:Int)<(q'.got.length:Int):=oM;obtain⟨o,c,F,E⟩:=Bq b j s i;clear b j s i r Y Z I;go_wp2_with fail;refine Yd H.o ?_;intro d2 v;have t:=zH v;clear v;go_wp2;go_roundw;case rel=>
     obtain⟨T,c8⟩:=qM {c.o with sV:=by have:=c.o.sV;omega};exact⟨_,t,zH {c.o with sV:=by have:=c.o.sV;omega},zH (by rw[T,Ww (by have:=c.o.sV;omega),<-u.o,o.o])⟩
    case measure=>
     obtain⟨_,_,_,a0,_⟩:=t.o.gotAt;rw[a0,F.o];have:=c.o.sV;have:=E.o;omega
   .rw[Ww i]at b
    have K:decide ((32:Int)<(q'.got.length:Int))=false:=bJ oM;have o:=zH b;clear b j r s i;go_wp2;go_meet;rw[<-u.o,o.o];exact l
 case rest=>
  have a2:=hcut;clear a1;go_upto_block 2 with fail;go_cut [] (λwx=>X3 (TaI S w p k X b8 d ab cb wx));case first=>
   go_wp2;go_loopw [] (λwr=>∃q',X3 (TaI S w p k q' b8 d ab cb wr)/\X3 (jN n 32 33 q')/\X3 (iC q'.aO.length q'=X)) (λwr=>wS wr p 5);(case atStart=>exact⟨x,a2,b1,zH b4.o.symm⟩);case round=>
    obtain⟨q',l,e,u⟩:=hrel;obtain⟨a4,a5,b6,s,M,r⟩:=l.o.Qj;obtain⟨b,j⟩:=nX e.o;by_cases i:32<q'.aO.length
    .obtain⟨b5,c9,rfl,c1,c7⟩:=r oM
     rw[aB i]at b;rw[b]at j;obtain⟨_,Z,_⟩:=e.o.aO.two oM;have Y:=(e.o.aO.low (q'.aO.getD 1 ⟨0,0⟩) (by rw[aW,aL (show 1<q'.aO.length by omega)];exact aN _)).1;have I:=e.o.lh;have H:=zH (l.o.raise B.o e.o oM oM (f:=(q'.aO.getD 1 ⟨0,0⟩).lo) ⟨oM,oM⟩);generalize(q'.aO.getD 1 ⟨0,0⟩).lo=b9 at*
     have K:decide ((32:Int)<(q'.aO.length:Int))=true:=bM oM;have c0:(1:Int)<(q'.aO.length:Int):=oM;obtain⟨o,c,F,E⟩:=Bq b j s i;clear b j s i r Y Z I;go_wp2_with fail;refine Yd H.o ?_;intro d2 v;have t:=zH v;clear v;go_wp2;go_roundw;case rel=>
      obtain⟨T,c8⟩:=nX {c.o with oq:=by have:=c.o.oq;omega};exact⟨_,t,zH {c.o with oq:=by have:=c.o.oq;omega},zH (by rw[T,Ww (by have:=c.o.oq;omega),<-u.o,o.o])⟩
     case measure=>
      obtain⟨_,_,_,a0,_⟩:=t.o.Qj;rw[a0,F.o];have:=c.o.oq;have:=E.o;omega
    .rw[Ww i]at b
     have K:decide ((32:Int)<(q'.aO.length:Int))=false:=bJ oM;have o:=zH b;clear b j r s i;go_wp2;go_meet;rw[<-u.o,o.o];exact l
  case rest=>
   have a9:=hcut;clear a2;go_step;exact tk14 S w p k n b8 X d ab cb now R wc a9 B b2 y c5 A
theorem nQ.ne {b n g:Nat} {l:List Kp} (h:nQ w b n l) (hb:Blk w g t C):some g≠some b:=by
 intro e;injection e with e;subst e;obtain⟨i,c,f⟩:=h.obj;unfold Blk at hb;rw[hb]at c;injection c with c;rw[<-c]at f;cases f
section
variable {P:Program} {Q:X7} {a:Act} {w:World}
theorem FV {l:List Oper} (F:Act) (C:World->Prop) (e:∀c,C c->Q .normal F c) (h:(∀c,C c->Q .normal F c)->(Code.region b l.toArray true).wp P Q a w):(Code.region b l.toArray true).wp P Q a w:=h e
end
theorem tk4 (S:X4) (w:World) (p k n b8:Nat) (q:Pe) (d:Da) (ab:X5) (cb:Nat) (now:Int) (R:Rpe) (wc:World) (d1:X3 (TaI S w p k q b8 d ab cb wc)) (h2:X3 (Bd S w)) (c:X3 (jN n 32 32 q)) (a1:X3 (DOk d)) (k9:Word now) (j3:X3 (R=takeEnd (Ga q d) d now)) (n5:n<=600000) (n3:k<=1000000000) (k4:d.body.length<=cb) (h8:q.floor<=d.pn) (f6:dI q.got d.pn=false)
  {l7 l8 l9 m0:Value} (n8:V.length=194:=by exact rfl):
  let Q':X7:=bodyPost prog Tryz.f86 λl2 A=>PeTk S w p (k+1) R l2 A
  Code.wp prog (WO 4 (Tryz.f86.body.getD .skip)) Q' ⟨((pT p)::l7::uI now::l8::l9::m0::.slice none 0 0::bV false::(pT b8)::V).toArray,[]⟩ wc:=by
 intro Q';generalize V=m3 at*
 revert m3;(repeat (refine lcZ ?_;intro _));refine lzZ ?_
 conv=>arg 2;whnf
 (try dsimp only);obtain⟨m9,n0,n1,n2,n6,n7⟩:=LX c.o.GN c.o.yh a1.o.CW a1.o.xE a1.o.pn0 a1.o.pn1;have k5:=c.o.sV;have k8:=c.o.oq;obtain⟨i3,i0,i8⟩:=Av (IK c.o a1.o h8 f6) (c.o.got.spw c.o.lh) (c.o.aO.spw c.o.lh);have j0:=zH (show∀I∈q.kept,I.pn≠d.pn from λI l0 j8=>by
  have:=c.o.Cm I l0;rw[j8,f6]at this;cases this)
 have l5:IntKind.u64.wrap (d.body.length:Int)=d.body.length:=Wz _ oM;have l6:IntKind.u64.wrap (q.bytes+d.body.length)=q.bytes+d.body.length:=Wz _ oM;obtain⟨J,L,K,M,i,t,v,u,x,z,D,_⟩:=d1.o.cells;obtain⟨j6,m2⟩:=D.cz 3;have a5:=D.lt;have f:=d1.o.b8;have f2:=f.Wu 5;have a0:=f.lt;clear D f;clear h8 f6;go_upto_region 6 with fail;refine bP 11 kR kR ?_;refine mB ?_;rintro _ ⟨l1,rfl⟩;refine dA rfl rfl ?_;go_simp;refine aK ?_;obtain⟨f0,f3⟩:=eX ((wc.drewN l1).setCell ⟨p,3,none⟩ (uI (q.bytes+d.body.length)));rw[<-f3];obtain⟨g4,H⟩:∃I:Pe,I={q with bytes:=q.bytes+d.body.length}:=⟨_,rfl⟩;have Y:=zH (show TaI S w p k g4 b8 d ab cb f0 by rw[f3];exact(d1.o.below (aA (aj _ _) _)).set1 3 _ _ (λ_ _ _ _ _ _ _ _ _ _=>by rw[H];rfl) (by rw[H]) (by rw[H]) (by rw[H]) (by rw[H]) (by rw[H]));obtain⟨g9,d8⟩:=yx (NA (grow S w f0) (λk=>w.heap.size<=k) p k g4 d ab cb f0 Y.o.pe (Y.o.bd h2.o) a1.o Y.o.by_ k4 (by rw[H];have:=c.o.EL;simp only;omega) (by rw[H];exact c.o.fK) (by rw[H];have:=c.o.plen;simp only;omega)) H;clear f3 j6 m2 a5 f2 a0 d1 H l5 l6;obtain⟨J,L,K,M,i,t,v,u,x,z,D,_⟩:=Y.o.cells;have a5:=D.lt;have f:=Y.o.b8;obtain⟨f1,j9,k1,h3,f2⟩:=f.e5 0 1 3 4 5;have a0:=f.lt;clear D f;have k0:=Y.o.b8.Wu 2;go_wp2_with fail;refine Yd g9.o ?_;rintro e7 ⟨f7,h9⟩;obtain⟨j,a6⟩:=eX (Es g4 d);rw[<-a6]at f7;obtain⟨d2,j1,g8,i5,i1⟩:=BF (Y.o.step h9 f7) a6 (show j.got=q.got by rw[a6,d8.o];rfl) (show j.aO=q.aO by rw[a6,d8.o];rfl) (show j.kept=q.kept by rw[a6,d8.o];rfl);clear f7 h9 a6 a5 f1 j9 k1 h3 f2 a0 Y g9 k0;obtain⟨J,L,K,M,i,t,v,u,x,z,D,_⟩:=d2.o.cells;have a5:=D.lt;have f:=d2.o.b8;have f1:=f.Wu 0;have a0:=f.lt;clear D f;go_upto_region 9 with fail;obtain⟨B,e0⟩:=eX (e7.alloc (.cells #[uI d.pn,uI d.pn] 272));rw[<-e0];(have h6:bW e7 B:=by rw[e0];exact BEL);(have N:Blk B e7.heap.size 272 #[uI d.pn,uI d.pn]:=by rw[e0];exact Wx _ _ _);obtain⟨b4,h5⟩:=eX e7.heap.size;rw[<-h5]at N|-;obtain⟨d3,d0⟩:=yx (d2.o.below h6) (show∀g5∈j.got,SpW g5 by rw[g8.o];exact i0.o);(have k6:j.got.length<=32:=by rw[g8.o];exact k5);clear e0 h6 h5 a5 f1 a0 d2;obtain⟨l,o,K,M,i,t,v,u,x,z,C,e4,e5,a8,g0,g1,g2,g3,c6⟩:=d3.o.pe.ex;have c:=zH C;have O:(peC j l o K M i t v u z.length x)[4]?=some (.slice l j.got.length o):=rfl;have a4:(peC j l o K M i t v u z.length x).size=12:=rfl;obtain⟨d9,Z⟩:=eX (peC j l o K M i t v u z.length x);rw[<-Z]at c O a4;obtain⟨c8,d7⟩:=yx (λA (f4:bW B A)=>sH (grow S w B) l o j.got ⟨d.pn,d.pn⟩ A (aD e4 f4) oM c6.2.1 d0.o ⟨⟨by show 0<=d.pn;omega,by show d.pn<_;omega⟩,⟨by show 0<=d.pn;omega,by show d.pn<_;omega⟩⟩) d3.o.pe;have e2:=C.lt;clear C e4 e5 a8 g0 g1 g2 g3 c6 Z;have h7:=N.lt;have g7:=zH N;refine' tZ (F:=_) (λW=>X3 (ic W (grow (grow S w B) B W) p k {j with got:=iV j.got ⟨d.pn,d.pn⟩}/\Mod (grow S w B) [some 226] B W)) ?tl (λb1=>?mn);case mn=>
  have e:bW B B.drew:=bA (aj _ _);refine aZ (S:=λA=>Blk A b4 272 #[uI d.pn,uI d.pn]) kR (N) (λb7=>?_);clear b7;have b:Blk B.drew b4 272 #[uI d.pn,uI d.pn]:=N;refine tK 0 61 b ?_;refine tK 1 62 b ?_;refine tK 2 63 b ?_;refine tK 3 64 b ?_;refine nrm 13 15 ?_;refine X6 5 66 b ?_ (y:=by intro c7 G;have a9:=G.Wu 0;have l3:=G.Wu 1;exact gS);refine nrm 13 47 ?_;refine aI 4 kR ?_;refine iw (op:=_) rfl kR (some 65) kR (.slice l j.got.length o) ?_ ?_
  .have a9:B.drew.cell? ⟨p,4,none⟩=some (.slice l j.got.length o):=((c.o.below e c.o.lt).cell 4).trans O
   go_simp
  refine⟨b,?_⟩;refine mP ?_;refine aI 6 kR ?_;refine opC 67 158 #[.slice l j.got.length o,.agg #[uI d.pn,uI d.pn]] ((c8.o _ e).mono ?_);rintro h4 e8 ⟨b3,b5,b9,f5,c4,a2⟩;have r:=b.below a2 b.lt;have f9:=aF (S':=λk=>B.heap.size<=k/\k<e8.heap.size) c4 (λk c0=>⟨ay e.size c0.1,c0.2⟩);have b6:=e.trans (a2.mono e.size);refine⟨_,b9,r,?_⟩;clear b9 a2 c4;refine Yf 7 60 r ?_;refine tK 8 68 r ?_;refine tK 9 69 r ?_;refine tK 10 70 r ?_;refine nrm 13 2047 ?_;refine tK 11 71 r ?_;refine nrm 13 4095 ?_;refine aI 12 kR ?_;have c1:=c.o.below b6 c.o.lt;have c2:=d7.o.putGot b6 f9 f5;refine fF (op:=_) rfl kR kR 90 (.tmp 71) (.tmp 68) kR p 4 (.slice b3 (iV j.got ⟨d.pn,d.pn⟩).length b5) kR kR rfl kR c1 (by rw[a4];decide) ?_;intro m1 c5;rw[<-c5]at c2;refine⟨(by rw[c5];exact r.far (dF r c1 dC) _),?_⟩;refine mP ?_;refine bg kR ?_ _;exact b1 b3 b5 _ (zH c2)
 case tl=>
  intro m5 m7 b2 d6;obtain⟨U,c3⟩:∃I:Pe,I={j with got:=iV j.got ⟨d.pn,d.pn⟩}:=⟨_,rfl⟩;rw[<-c3]at d6;obtain⟨X,c9,j2,i2,i6⟩:=BF (d3.o.put d6.o) (g7.o.mod d6.o.2 dC) c3 (show U.kept=q.kept by rw[c3];exact i1.o) (show U.aO=q.aO by rw[c3];exact i5.o);clear c3 N h7 g7 d6 d3 c O a4 c8 d7 e2 d0 k6;(try simp only[]);obtain⟨J,L,K,M,i,t,v,u,x,z,D,_⟩:=X.o.cells;have a5:=D.lt;have f:=X.o.b8;have h3:=f.Wu 4;have a0:=f.lt;clear D f;go_wp2_with (first|(go_at_call 159;refine(NR d.ecn _).mono ?_;rintro h4 n9 ⟨rfl,rfl⟩));obtain⟨J,L,K,M,i,t,v,u,x,z,C,_,_,a8,_⟩:=X.o.pe.ex;have i7:=zH (show∀e6,b2.cell? ⟨p,6,none⟩=some (.map (some e6))->e6=i from λe6 T=>by
   have j7:=C.Wu 6;rw[j7]at T;injection T with T;injection T with T;injection T with T;exact T.symm)
  have O:(peC U J L K M i t v u z.length x)[6]?=some (.map (some i)):=rfl;obtain⟨d9,Z⟩:=eX (peC U J L K M i t v u z.length x);rw[<-Z]at C O;obtain⟨d4,d5⟩:=yx C a8;have e2:=C.lt;have a0:=X.o.b8.lt;have i9:=zH (show∀I∈U.kept,I.pn≠(⟨d.pn,d.bX,uM d.ecn⟩:Kp).pn by rw[i2.o];exact j0.o);clear C a8 Z;refine' FV (F:=_) (λW=>X3 (TaI S w p (k+1) {U with kept:=U.kept++[⟨d.pn,d.bX,uM d.ecn⟩]} b8 d ab cb W)/\X3 (Blk W b4 272 #[uI d.pn,uI d.pn])) ?tl (λb1=>?mn);case mn=>
   have e:bW b2 b2.drew:=bA (aj _ _);refine aZ (S:=λA=>Blk A p 226 d9/\Blk A b8 115 #[uI d.pn,uI d.bn,uI d.off,uI d.bX,jI d.ecn,.slice ab d.body.length cb]) kR (⟨d4.o.below e d4.o.lt,X.o.b8.below e X.o.b8.lt⟩) (λb7=>?_);clear b7;have b:Blk b2.drew p 226 d9/\Blk b2.drew b8 115 #[uI d.pn,uI d.bn,uI d.off,uI d.bX,jI d.ecn,.slice ab d.body.length cb]:=⟨d4.o.below e d4.o.lt,X.o.b8.below e X.o.b8.lt⟩;refine tK 0 78 b ?_;refine tK 1 79 b ?_;refine tK 2 80 b ?_;refine X6 3 81 b ?_ (y:=by intro c7 G;have a9:c7.cell? ⟨p,6,none⟩=some (.map (some i)):=(G.1.cell 6).trans O;exact gS);refine nrm 11 15 ?_;refine tK 4 82 b ?_;refine X6 5 83 b ?_ (y:=by intro c7 G;have a9:=G.2.Wu 0;exact gS);refine tK 6 84 b ?_;refine X6 7 85 b ?_ (y:=by intro c7 G;have a9:=G.2.Wu 3;exact gS);refine nrm 11 255 ?_;refine tK 8 86 b ?_;refine tK 9 87 b ?_;refine nrm 11 1023 ?_;refine aI 10 kR ?_;refine jl (op:=_) rfl kR (KS _ (.tmp 81) (.tmp 83) (.tmp 87) rfl i k U.kept kR (d5.o.below e) (by simp only[maxLen];omega) ⟨d.pn,d.bX,uM d.ecn⟩ kR kR ⟨by show 0<=d.pn;omega,by show d.pn<_;omega⟩ i9.o none kR ?_);intro e8 k7 e1;have k3:=And.intro (b.1.grown e1 ((d5.o.below e).ne b.1)) (b.2.grown e1 ((d5.o.below e).ne b.2));refine⟨k3,?_⟩;refine mP ?_;refine bg kR ?_ _;exact b1 _ (⟨zH ((X.o.below e).map_ (mb:=i) (λ_ _ _ _ e6 _ _ _ _ _ T=>i7.o _ (T.cell 6)) k7 e1),zH ((c9.o.below e c9.o.lt).grown e1 ((d5.o.below e).ne (c9.o.below e c9.o.lt)))⟩)
  case tl=>
   intro E k2;obtain⟨b0,g6⟩:=k2;obtain⟨s,e3⟩:∃I:Pe,I={U with kept:=U.kept++[⟨d.pn,d.bX,uM d.ecn⟩]}:=⟨_,rfl⟩;rw[<-e3]at b0;have f8:sK q d=if jB d.ecn then s else{s with aO:=iV s.aO ⟨d.pn,d.pn⟩}:=by
    rw[e3,j2.o,j1.o,d8.o];unfold sK;split<;>rfl
   have h0:=zH (show s.aO=q.aO by rw[e3];exact i6.o);obtain⟨l4,a7⟩:=eX (jB d.ecn);rw[<-a7]at f8;have h1:=zH f8;clear e3 f8 O e2 a0;(try simp only[]);rw[<-a7];have j5:=zH a7;clear a7;go_upto_if 89 with fail;go_cut [] (λwx=>X3 (TaI S w p (k+1) (sK q d) b8 d ab cb wx));case first=>
    cases l4 with
    |true=>
     have a3:=h1.o;rw[aB rfl]at a3;have e9:=zH a3;clear a3;go_wp2;go_meet;rw[e9.o];exact b0
    |false=>
     have a3:=h1.o;rw[Ww dC]at a3;have e9:=zH a3;clear a3;have d0:=zH (show∀g5∈s.aO,SpW g5 by rw[h0.o];exact i8.o);(have n4:s.aO.length<=32:=by rw[h0.o];exact k8);obtain⟨J,L,l,o,i,t,v,u,x,z,C,e4,e5,a8,g0,g1,g2,g3,c6⟩:=b0.o.pe.ex;have c:=zH C;have O:(peC s J L l o i t v u z.length x)[5]?=some (.slice l s.aO.length o):=rfl;have a4:(peC s J L l o i t v u z.length x).size=12:=rfl;obtain⟨d9,Z⟩:=eX (peC s J L l o i t v u z.length x);rw[<-Z]at c O a4;obtain⟨c8,d7⟩:=yx (λA (f4:bW E A)=>sH (grow S w E) l o s.aO ⟨d.pn,d.pn⟩ A (aD e5 f4) oM c6.2.2.1 d0.o ⟨⟨by show 0<=d.pn;omega,by show d.pn<_;omega⟩,⟨by show 0<=d.pn;omega,by show d.pn<_;omega⟩⟩) b0.o.pe;have e2:=C.lt;clear C e4 e5 a8 g0 g1 g2 g3 c6 Z;have h7:=g6.o.lt;go_upto_region 13 with fail;have N:=g6.o;refine' tZ (F:=_) (λW=>X3 (ic W (grow (grow S w E) E W) p (k+1) {s with aO:=iV s.aO ⟨d.pn,d.pn⟩}/\Mod (grow S w E) [some 226] E W)) ?tl2 (λb1=>?mn2);case mn2=>
      have e:bW E E.drew:=bA (aj _ _);refine aZ (S:=λA=>Blk A b4 272 #[uI d.pn,uI d.pn]) kR (N) (λb7=>?_);clear b7;have b:Blk E.drew b4 272 #[uI d.pn,uI d.pn]:=N;refine tK 0 91 b ?_;refine tK 1 92 b ?_;refine tK 2 93 b ?_;refine tK 3 94 b ?_;refine nrm 13 15 ?_;refine X6 5 96 b ?_ (y:=by intro c7 G;have a9:=G.Wu 0;have l3:=G.Wu 1;exact gS);refine nrm 13 47 ?_;refine aI 4 kR ?_;refine iw (op:=_) rfl kR (some 95) kR (.slice l s.aO.length o) ?_ ?_
      .have a9:E.drew.cell? ⟨p,5,none⟩=some (.slice l s.aO.length o):=((c.o.below e c.o.lt).cell 5).trans O
       go_simp
      refine⟨b,?_⟩;refine mP ?_;refine aI 6 kR ?_;refine opC 97 158 #[.slice l s.aO.length o,.agg #[uI d.pn,uI d.pn]] ((c8.o _ e).mono ?_);rintro h4 e8 ⟨b3,b5,b9,f5,c4,a2⟩;have r:=b.below a2 b.lt;have f9:=aF (S':=λk=>E.heap.size<=k/\k<e8.heap.size) c4 (λk c0=>⟨ay e.size c0.1,c0.2⟩);have b6:=e.trans (a2.mono e.size);refine⟨_,b9,r,?_⟩;clear b9 a2 c4;refine Yf 7 90 r ?_;refine tK 8 98 r ?_;refine tK 9 99 r ?_;refine tK 10 100 r ?_;refine nrm 13 2047 ?_;refine tK 11 101 r ?_;refine nrm 13 4095 ?_;refine aI 12 kR ?_;have c1:=c.o.below b6 c.o.lt;have c2:=d7.o.Nu b6 f9 f5;refine fF (op:=_) rfl kR kR 90 (.tmp 101) (.tmp 98) kR p 5 (.slice b3 (iV s.aO ⟨d.pn,d.pn⟩).length b5) kR kR rfl kR c1 (by rw[a4];decide) ?_;intro m1 c5;rw[<-c5]at c2;refine⟨(by rw[c5];exact r.far (dF r c1 dC) _),?_⟩;refine mP ?_;refine bg kR ?_ _;exact b1 b3 b5 _ (zH c2)
     case tl2=>
      intro m6 m8 m4 i4;clear N;(try simp only[]);go_wp2;go_meet;rw[e9.o];exact zH (b0.o.put i4.o)
   case rest=>
    have j4:=zH (show R=takeEnd (iC (jo (gz (sK q d) d.bn).got.length (gz (sK q d) d.bn)).aO.length (jo (gz (sK q d) d.bn).got.length (gz (sK q d) d.bn))) d now by rw[j3.o,Mb]);go_step;have a7:=j5.o;subst a7;exact tk11 S w p (k+1) (n+1) b8 (sK q d) d ab cb now R wc hcut h2 i3 a1 k9 j4
theorem KG (S Y:X4) (p k n:Nat) (q:Pe) (a:X5) (c:Nat) (b:List Int) (now:Int) (w:World) (h:ic w S p k q) (F:jN n 32 32 q) (c9:n<=600000) (c6:k<=1000000000) (a1:Bd S w) (hb:Bys w Y a b) (a2:b.length<=100000) (O:dP b) (d0:Word now):
  Yk 86 #[pT p,.slice a b.length c,uI now] w λd2 G=>PeTk S w p (k+1) (oN q b now) d2 G:=by
 have I:=zH (yY Y a c b w hb a2 O);obtain⟨d,D⟩:=eX ((ky b).val);obtain⟨e,E⟩:=eX ((ky b).err);obtain⟨X,M⟩:=eX (oN q b now);rw[<-D,<-E]at I;(have a3:X=if e≠0\/d.pn<q.floor\/oQ q.got d.pn=true then⟨[],false,q⟩else takeEnd (Ga q d) d now:=by rw[M,D,E];rfl);rw[<-M];obtain⟨a8,a7,b0,o,a6⟩:=BF a3 h a1 F (show e=0->DOk d from λb6=>by rw[D];exact zm O (by rw[<-E];exact b6));have d1:=h.lt;clear h F a1 hb a2 O D E M a3;go_enter Tryz.func86,Tryz.ntmps86;go_wp2_with fail;refine(I.o).mono ?_;rintro e0 H ⟨ab,cb,rfl,c5,a4,s⟩;obtain⟨V,x⟩:=yx a4 s;clear a4 s I;go_upto_region 4 with fail;obtain⟨j,B⟩:=eX (H.alloc (.cells #[uI d.pn,uI d.bn,uI d.off,uI d.bX,jI d.ecn,.slice ab d.body.length cb] 115));rw[<-B];(have C:bW H j:=by rw[B];exact BEL);(have a5:Blk j H.heap.size 115 #[uI d.pn,uI d.bn,uI d.off,uI d.bX,jI d.ecn,.slice ab d.body.length cb]:=by rw[B];exact Wx _ _ _);have s:=x.o.trans (C.mono x.o.size);obtain⟨b8,A⟩:=eX H.heap.size;have l:=zH (show TaI S w p k q b8 d ab cb j from⟨(a7.o.below s).mono (λ_ h=>.inl h),aH s,by rw[A];exact a5,by rw[A];exact x.o.size,aF (aD V.o C) (λk F=>F.1)⟩);rw[<-A];have e1:=x.o.size;have e2:=C.size;clear B C a5 s A V d1;obtain⟨b2,b5,d5,d8,e3,d4,d7,d6,d9,e4,z,a0,_⟩:=l.o.cells;obtain⟨L,b4⟩:=z.e2 1 4;have b7:=l.o.b8.Wu 0;have c8:=z.lt;have c7:=l.o.b8.lt;have U:=zH (λG (hb:bW j G)=>yZ (grow S w j) b2 b5 q.got d.pn G (aD a0 hb) (by have:=o.o.sV;omega) (o.o.got.spw o.o.lh));clear z a0;go_cut [40] (λd3 wx=>X3 (TaI S w p k q b8 d ab cb wx)/\d3=bV (decide (e≠0\/d.pn<q.floor\/oQ q.got d.pn=true)));case first=>
  by_cases f:e=0
  .have b9:=bM f
   (have c0:(e !=0)=false:=by simpa using f);(have c1:(e==0)=true:=by simpa using f);(have c2:decide (e≠0)=false:=by simpa using f);(have c3:(!decide (e=0))=false:=by simpa using f);by_cases r:d.pn<q.floor
   case' pos=>
    (have c4:=bM r);(have i:decide (e≠0\/d.pn<q.floor\/oQ q.got d.pn=true)=true:=by simp[r]);have y:=zH i;clear f r i;refine fq kR kR ?_;repeat (first|go_big_quiet_step (fail)|quiet_step (fail))
   case' neg=>
    (have c4:=bJ r);(have i:decide (e≠0\/d.pn<q.floor\/oQ q.got d.pn=true)=oQ q.got d.pn:=by simp[f,r]);have y:=zH i;clear f r i;refine fq kR kR ?_;repeat (go_big_quiet_step ((go_at_call 156;exact bU _ (U.o _ (by apply BW.same)))))
   all_goals
    refine aK ?_;refine bwI ?_;intro T u;have N:bW j T:=u;have K:=zH (l.o.below N);clear u;go_wp2;go_meet;exact⟨K,by rw[y.o]⟩
  .have b9:=bJ f
   (have c0:(e !=0)=true:=by simpa using f);(have c1:(e==0)=false:=by simpa using f);(have c2:decide (e≠0)=true:=by simpa using f);(have c3:(!decide (e=0))=true:=by simpa using f);(have i:decide (e≠0\/d.pn<q.floor\/oQ q.got d.pn=true)=true:=by simp[f]);have y:=zH i;clear f i;refine fq kR kR ?_;refine mR ?_;refine bwI ?_;intro T u;have N:bW j T:=u;have K:=zH (l.o.below N);clear u;go_wp2;go_meet;exact⟨K,by rw[y.o]⟩
 case rest=>
  obtain⟨J,rfl⟩:=hcut;clear l L b4 b7 c8 c7 U;have v:=a8.o;obtain⟨b1,t⟩:=eX (decide (e≠0\/d.pn<q.floor\/oQ q.got d.pn=true));rw[<-t];cases b1 with
  |true=>
   rw[aB (jL t.symm)]at v;have a9:=zH v;clear v t;go_wp2;go_ret2;rw[a9.o];exact⟨none,0,rfl,av _,Bys.WH,J.o.pe.more (Nat.le_succ _),J.o.m⟩
  |false=>
   have R:=jq t.symm;rw[Ww R]at v;simp only[ne_eq,not_or,Decidable.not_not,Int.not_lt,Bool.not_eq_true]at R;obtain⟨L,b3,Z⟩:=R;rw[Gy (o.o.got.gd o.o.lh)]at Z;clear t
   iterate 5 go_step
   exact tk4 S w p k n b8 q d ab cb now X wc J b0 o (zH (a6.o L)) d0 (zH v) c9 c6 c5 b3 Z
end Go.Proofs.YtiflndepmgnojaaGreat
