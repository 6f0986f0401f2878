import Derived.Test.YtiflndepmgnojaaGreatAce
namespace Go.Proofs.YtiflndepmgnojaaGreat
open Go.RowKit
set_option linter.unusedSimpArgs false
set_option linter.unusedVariables false
set_option maxHeartbeats 4000000
set_option maxRecDepth 100000
attribute[local go_sem] BW.cell BW.frozen
theorem wV {tb:TypeId} (q4:Nat->Prop) (a:Option Addr) (c:Nat) (l:List Int) (w:World) (h:Byt tb w q4 a l) (s1:l.length<=100000) (r3:dP l):
  Calls Tryz.prog 111 #[.slice a l.length c] w λu p8=>∃q5 q7 c4 c5,u=.returned (.tuple #[.agg #[.slice q5 (jy l).val.cu.length q7,.slice c4 (jy l).val.aO.length c5,uI (jy l).val.dw,uI (jy l).val.xor,bV (jy l).val.kZ],jI (jy l).err])/\nu p8 (λk=>w.heap.size<=k/\k<p8.heap.size) q5 q7 c4 c5 (jy l).val/\bW w p8:=by
 obtain⟨B5,j2⟩:=eX (jy l);rw[<-j2];have q3:=zH h;have c0:=zH j2;clear j2 h;go_enter Tryz.func111,Tryz.ntmps111;go_wp2_with fail;refine(BL q4 a c l _ (aD q3.out (BEL)) oM).mono ?_;rintro u a2 ⟨Z,rfl,s2,f,j3⟩;(have D0:w.heap.size<Z:=by simp at s2;omega);have g:bW w a2:=pY j3;have a7:Blk a2 (w.heap.size) 92 jK:=iK j3;obtain⟨t5,v0,t6,v1,t7,v2,t8,v3,t9,v4⟩:=a7.c5;have E3:w.heap.size<a2.heap.size:=a7.lt;have i0:=zH a7;clear a7;have a8:=zH g;clear j3 g;have C9:=f.lt;have h3:=zH (f.mono (S':=λ_=>True) (λ_ _=>trivial));clear f s2 q3;rcases l with _|⟨d2,c8⟩
 ·have m5:fQ 1 []=⟨[],2,[]⟩:=rfl
  have z:=nR (λ_=>True) Z [] 1 a2 h3.out sM dC;rw[m5]at z;go_wp2_with fail;refine z.mono ?_;rintro u e ⟨c4,c5,rfl,G,z3,b⟩;have r2:bW w e:=a8.out.trans (b.cZ (by have:=a8.out.size;omega) (λk i h=>by omega));have X:=zH r2;have D:=i0.out.mod b dC;obtain⟨e8,f3,e9,f4,f0,f5,f1,f6,f2,f7⟩:=D.c5;clear G z3 b r2 D h3 a8;refine mV ?_;have d:=c0.out;rw[QQ]at d;rw[d];refine⟨none,0,none,0,rfl,su,?_⟩;have T:=X.out;exact BEL
 ·have z:=nR (λ_=>True) Z (d2::c8) 1 a2 h3.out oM dC
  rw[Xh]at z;have r8:dP c8:=λB3 z6=>r3 B3 (by simp[z6]);(have C8:c8.length<=100000:=by simp only[aY]at s1;omega);rw[Fb]at c0;clear r3 s1;by_cases d7:d2=2
  ·have y2:(d2 !=2)=false:=by simp[d7]
   have d:=c0.out;rw[Ww (by simp[d7])]at d;have h1:=zH d;clear d c0;go_wp2_with fail;refine z.mono ?_;rintro u e ⟨c4,c5,rfl,G,f,b⟩;obtain⟨x4,x6,rfl,y5,p6⟩:=Bys.at_ G (aj _ _) (j:=0) sM;simp only[Nat.add_zero,List.getElem_cons_zero]at p6;have a7:=i0.out;have g:bW w e:=by
    refine(a8.out.trans (show Below w.heap.size a2 (a2)from BEL)).trans (b.cZ ?_ ?_)
    ·have U:=a8.out.size;first|omega|(simp;omega)
    ·intro k i h;omega
   have D:Blk e (w.heap.size) 92 jK:=jw b;obtain⟨e8,f3,e9,f4,f0,f5,f1,f6,f2,f7⟩:=D.c5;have z7:w.heap.size<e.heap.size:=D.lt;have i1:=zH D;clear D;have X:=zH g;clear b g;clear a7 t5 v0 t6 v1 t7 v2 t8 v3 t9 v4;have p9:=zH f;clear f;clear G z;(have nq:¬(w.heap.size=e.heap.size):=by have:=X.out.size;omega);(have E5:¬(e.heap.size=w.heap.size):=by have:=X.out.size;omega);have d:=h1.out;unfold dAs at d;have o:=DW (λ_=>True) Z c8 1 (e.alloc (.cells jK 92)) (p9.out.below (BEL)) oM r8 dC dC;have i:=zB (bn:=1) r8;generalize kJ c8 1=b2 at o i d;obtain⟨A,i7,w6⟩:=b2;simp only at o i d;obtain⟨g9,E8,B6,C0,r4,C5⟩:=i;by_cases d3:i7=0
   ·have x8:(i7 !=0)=false:=by simp[d3]
    rw[Ww (by simp[d3])]at d;have c1:=zH d;clear d h1;go_wp2_with fail;refine o.mono ?_;rintro u m ⟨⟨x,y,rfl,r9,b0⟩,f,b⟩;have h9:=zH b0;have i6:=zH g9;have n:=zH (show bQ (λ_=>True) [some 272] m m from λ_ _ _ h _=>h);clear b0 g9;(have b0:e.heap.size<=m.heap.size:=by have:=b.size;simp at this;omega);have D:=i1.out;have g:bW w m:=by
     refine(X.out.trans (show Below w.heap.size e (e.alloc (.cells jK 92))from BEL)).trans (b.cZ ?_ ?_)
     ·have U:=X.out.size;first|omega|(simp;omega)
     ·intro k i h;omega
    have P:Blk m (w.heap.size) 92 jK:=jw b;have M:Blk m (e.heap.size) 92 jK:=jw b;obtain⟨m6,n1,m7,n2,m8,n3,m9,n4,n0,n5⟩:=P.c5;have z8:w.heap.size<m.heap.size:=P.lt;have i2:=zH P;clear P;obtain⟨j4,j9,j5,k0,j6,k1,j7,k2,j8,k3⟩:=M.c5;have y9:e.heap.size<m.heap.size:=M.lt;have b7:=zH M;clear M;have b4:=zH g;clear b g;clear D e8 f3 e9 f4 f0 f5 f1 f6 f2 f7;have q0:=zH f;clear f;clear o;have d:=c1.out;unfold dAm at d;have o:=DW (λ_=>True) Z w6 0 (m.setCell ⟨e.heap.size,0,none⟩ (.slice x A.length y)) (q0.out.far b7.out dC dC) oM r4 dC dC;have i:=zB (bn:=0) r4;generalize kJ w6 0=b2 at o i d;obtain⟨L,i8,w7⟩:=b2;simp only at o i d;obtain⟨g8,E4,B7,C1,r5,C6⟩:=i;by_cases d4:i8=0
    ·have x9:(i8 !=0)=false:=by simp[d4]
     rw[Ww (by simp[d4])]at d;have c2:=zH d;clear d c1;go_wp2_with fail;refine o.mono ?_;rintro u p ⟨⟨F,J,rfl,s0,b1⟩,f,b⟩;have h8:=zH b1;have i5:=zH g8;have t:=zH (show bQ (λ_=>True) [some 272] p p from λ_ _ _ h _=>h);clear b1 g8;have s:=bQ.stp n.out b7.out b;clear n;have n:=zH s;clear s;(have b1:m.heap.size<=p.heap.size:=by have:=b.size;simp at this;omega);have P:=i2.out;have M:=b7.out;have g:bW w p:=by
      refine(b4.out.trans (show Below w.heap.size m (m.setCell ⟨e.heap.size,0,none⟩ (.slice x A.length y))from BEL)).trans (b.cZ ?_ ?_)
      ·have U:=b4.out.size;first|omega|(simp;omega)
      ·intro k i h;omega
     have Q:Blk p (w.heap.size) 92 jK:=jw b;have N:Blk p (e.heap.size) 92 #[.slice x A.length y,.slice none 0 0,uI 0,uI 0,bV false]:=jw b;obtain⟨n6,o1,n7,o2,n8,o3,n9,o4,o0,o5⟩:=Q.c5;have z9:w.heap.size<p.heap.size:=Q.lt;have i3:=zH Q;clear Q;obtain⟨k4,k9,k5,l0,k6,l1,k7,l2,k8,l3⟩:=N.c5;have z0:e.heap.size<p.heap.size:=N.lt;have a5:=zH N;clear N;have b5:=zH g;clear b g;clear P m6 n1 m7 n2 m8 n3 m9 n4 n0 n5 j4 j9 j5 k0 j6 k1 j7 k2 j8 k3 M;have q1:=zH f;clear f;clear o;have d:=c2.out;unfold dAt at d;have o:=Ba (λ_=>True) Z w7 (p.setCell ⟨e.heap.size,1,none⟩ (.slice F L.length J)) (q1.out.far a5.out dC dC) oM r5;have i:=sD r5;generalize jU w7=b2 at o i d;obtain⟨a1,i9,w8⟩:=b2;simp only at o i d;obtain⟨E9,F0,B8,C2,r6,C7⟩:=i;by_cases d5:i9=0
     ·have y0:(i9 !=0)=false:=by simp[d5]
      rw[Ww (by simp[d5])]at d;have c3:=zH d;clear d c2;go_wp2_with fail;refine o.mono ?_;rintro u v ⟨rfl,f,b⟩;have s:=bQ.stp n.out a5.out b;have B:=bQ.stp t.out a5.out b;clear n t;have n:=zH s;have t:=zH B;clear s B;(have z4:p.heap.size<=v.heap.size:=by have:=b.size;simp at this;omega);have Q:=i3.out;have N:=a5.out;have g:bW w v:=by
       refine(b5.out.trans (show Below w.heap.size p (p.setCell ⟨e.heap.size,1,none⟩ (.slice F L.length J))from BEL)).trans (b.cZ ?_ ?_)
       ·have U:=b5.out.size;first|omega|(simp;omega)
       ·intro k i h;omega
      have R:Blk v (w.heap.size) 92 jK:=jw b;have O:Blk v (e.heap.size) 92 #[.slice x A.length y,.slice F L.length J,uI 0,uI 0,bV false]:=jw b;obtain⟨o6,p1,o7,p2,o8,p3,o9,p4,p0,p5⟩:=R.c5;have A0:w.heap.size<v.heap.size:=R.lt;have i4:=zH R;clear R;obtain⟨l4,l9,l5,m0,l6,m1,l7,m2,l8,m3⟩:=O.c5;have z1:e.heap.size<v.heap.size:=O.lt;have a6:=zH O;clear O;have b6:=zH g;clear b g;clear Q n6 o1 n7 o2 n8 o3 n9 o4 o0 o5 k4 k9 k5 l0 k6 l1 k7 l2 k8 l3 N;have q2:=zH f;clear f;clear o;have d:=c3.out;unfold dAx at d;have o:=Ba (λ_=>True) Z w8 (v.setCell ⟨e.heap.size,2,none⟩ (uI a1)) (q2.out.far a6.out dC dC) oM r6;have i:=sD r6;generalize jU w8=b2 at o i d;obtain⟨a3,j0,B2⟩:=b2;simp only at o i d;obtain⟨F1,F2,B9,C3,r7,y7⟩:=i;by_cases d6:j0=0
      ·have y1:(j0 !=0)=false:=by simp[d6]
       rw[Ww (by simp[d6])]at d;have a9:=zH d;clear d c3;go_wp2_with fail;refine o.mono ?_;rintro u r ⟨rfl,f,b⟩;have s:=bQ.stp n.out a6.out b;have B:=bQ.stp t.out a6.out b;clear n t;have n:=zH s;have t:=zH B;clear s B;(have z5:v.heap.size<=r.heap.size:=by have:=b.size;simp at this;omega);have R:=i4.out;have O:=a6.out;have g:bW w r:=by
        refine(b6.out.trans (show Below w.heap.size v (v.setCell ⟨e.heap.size,2,none⟩ (uI a1))from BEL)).trans (b.cZ ?_ ?_)
        ·have U:=b6.out.size;first|omega|(simp;omega)
        ·intro k i h;omega
       have I:Blk r (w.heap.size) 92 jK:=jw b;have H:Blk r (e.heap.size) 92 #[.slice x A.length y,.slice F L.length J,uI a1,uI 0,bV false]:=jw b;obtain⟨f8,g3,f9,g4,g0,g5,g1,g6,g2,g7⟩:=I.c5;have A1:w.heap.size<r.heap.size:=I.lt;have d0:=zH I;clear I;obtain⟨d8,e3,d9,e4,e0,e5,e1,e6,e2,e7⟩:=H.c5;have z2:e.heap.size<r.heap.size:=H.lt;have Y:=zH H;clear H;have a4:=zH g;clear b g;clear R o6 p1 o7 p2 o8 p3 o9 p4 p0 p5 l4 l9 l5 m0 l6 m1 l7 m2 l8 m3 O;have h4:=zH f;clear f;clear o;rcases B2 with _|⟨V,b9⟩
       ·have m5:fQ 1 []=⟨[],2,[]⟩:=rfl
        have z:=nR (λ_=>True) Z [] 1 (r.setCell ⟨e.heap.size,3,none⟩ (uI a3)) (h4.out.far Y.out dC dC) sM dC;rw[m5]at z;have d:=a9.out;rw[Ss]at d;have E:=zH d;clear d a9;go_wp2_with fail;refine z.mono ?_;rintro u q ⟨q6,q8,rfl,G,f,b⟩;(have t4:r.heap.size<=q.heap.size:=by have:=b.size;simp at this;omega);have I:=d0.out;have H:=Y.out;have g:bW w q:=by
         refine(a4.out.trans (show Below w.heap.size r (r.setCell ⟨e.heap.size,3,none⟩ (uI a3))from BEL)).trans (b.cZ ?_ ?_)
         ·have U:=a4.out.size;first|omega|(simp;omega)
         ·intro k i h;omega
        have K:Blk q (w.heap.size) 92 jK:=jw b;have C:Blk q (e.heap.size) 92 #[.slice x A.length y,.slice F L.length J,uI a1,uI a3,bV false]:=jw b;obtain⟨v5,w0,v6,w1,v7,w2,v8,w3,v9,w4⟩:=K.c5;have w5:w.heap.size<q.heap.size:=K.lt;have d1:=zH K;clear K;obtain⟨s3,s8,s4,s9,s5,t0,s6,t1,s7,t2⟩:=C.c5;have t3:e.heap.size<q.heap.size:=C.lt;have b8:=zH C;clear C;have a0:=zH g;clear b g;clear I f8 g3 f9 g4 g0 g5 g1 g6 g2 g7 d8 e3 d9 e4 e0 e5 e1 e6 e2 e7 H;have h5:=zH f;clear f;clear G z;refine mV ?_;rw[E.out];refine⟨none,0,none,0,rfl,su,?_⟩;have T:=a0.out;exact BEL
       ·have z:=nR (λ_=>True) Z (V::b9) 1 (r.setCell ⟨e.heap.size,3,none⟩ (uI a3)) (h4.out.far Y.out dC dC) oM dC
        rw[Xh]at z;have d:=a9.out;rw[QS]at d;unfold dAe at d;have y8:=r7 V sM;obtain⟨E6,E7⟩:=y8;(have C4:b9.length<=100000:=by simp only[aY]at y7;omega);clear r7;by_cases q9:1<V
        ·have y3:decide (1<V)=true:=by simp;omega
         rw[aB q9]at d;have E:=zH d;clear d a9;go_wp2_with fail;refine z.mono ?_;rintro u q ⟨q6,q8,rfl,G,f,b⟩;obtain⟨x5,x7,rfl,y6,p7⟩:=Bys.at_ G (aj _ _) (j:=0) sM;simp only[Nat.add_zero,List.getElem_cons_zero]at p7;have s:=bQ.stp n.out Y.out b;have B:=bQ.stp t.out Y.out b;clear n t;have n:=zH s;have t:=zH B;clear s B;(have t4:r.heap.size<=q.heap.size:=by have:=b.size;simp at this;omega);have I:=d0.out;have H:=Y.out;have g:bW w q:=by
          refine(a4.out.trans (show Below w.heap.size r (r.setCell ⟨e.heap.size,3,none⟩ (uI a3))from BEL)).trans (b.cZ ?_ ?_)
          ·have U:=a4.out.size;first|omega|(simp;omega)
          ·intro k i h;omega
         have K:Blk q (w.heap.size) 92 jK:=jw b;have C:Blk q (e.heap.size) 92 #[.slice x A.length y,.slice F L.length J,uI a1,uI a3,bV false]:=jw b;obtain⟨v5,w0,v6,w1,v7,w2,v8,w3,v9,w4⟩:=K.c5;have w5:w.heap.size<q.heap.size:=K.lt;have d1:=zH K;clear K;obtain⟨s3,s8,s4,s9,s5,t0,s6,t1,s7,t2⟩:=C.c5;have t3:e.heap.size<q.heap.size:=C.lt;have b8:=zH C;clear C;have a0:=zH g;clear b g;clear I f8 g3 f9 g4 g0 g5 g1 g6 g2 g7 d8 e3 d9 e4 e0 e5 e1 e6 e2 e7 H;have h5:=zH f;clear f;clear G z;refine mV ?_;rw[E.out];refine⟨none,0,none,0,rfl,su,?_⟩;have T:=a0.out;exact BEL
        ·have y3:decide (1<V)=false:=by simp;omega
         rw[Ww q9]at d;have E:=zH d;clear d a9;go_wp2_with fail;refine z.mono ?_;rintro u q ⟨q6,q8,rfl,G,f,b⟩;obtain⟨x5,x7,rfl,y6,p7⟩:=Bys.at_ G (aj _ _) (j:=0) sM;simp only[Nat.add_zero,List.getElem_cons_zero]at p7;have s:=bQ.stp n.out Y.out b;have B:=bQ.stp t.out Y.out b;clear n t;have n:=zH s;have t:=zH B;clear s B;(have t4:r.heap.size<=q.heap.size:=by have:=b.size;simp at this;omega);have I:=d0.out;have H:=Y.out;have g:bW w q:=by
          refine(a4.out.trans (show Below w.heap.size r (r.setCell ⟨e.heap.size,3,none⟩ (uI a3))from BEL)).trans (b.cZ ?_ ?_)
          ·have U:=a4.out.size;first|omega|(simp;omega)
          ·intro k i h;omega
         have K:Blk q (w.heap.size) 92 jK:=jw b;have C:Blk q (e.heap.size) 92 #[.slice x A.length y,.slice F L.length J,uI a1,uI a3,bV false]:=jw b;obtain⟨v5,w0,v6,w1,v7,w2,v8,w3,v9,w4⟩:=K.c5;have w5:w.heap.size<q.heap.size:=K.lt;have d1:=zH K;clear K;obtain⟨s3,s8,s4,s9,s5,t0,s6,t1,s7,t2⟩:=C.c5;have t3:e.heap.size<q.heap.size:=C.lt;have b8:=zH C;clear C;have a0:=zH g;clear b g;clear I f8 g3 f9 g4 g0 g5 g1 g6 g2 g7 d8 e3 d9 e4 e0 e5 e1 e6 e2 e7 H;have h5:=zH f;clear f;clear G z;have h2:=zH (Jd (λ_=>True) Z b9 (q.setCell ⟨e.heap.size,4,none⟩ (bV (V==1))) (h5.out.far b8.out dC dC));by_cases x0:0<b9.length
         ·have B4:decide ((0:Int)<(b9.length:Int))=true:=by simp;omega
          have d:=E.out;rw[aB x0]at d;have E:=zH d;clear d;go_wp2_with fail;refine(h2.out).mono ?_;rintro u w9 ⟨rfl,rfl⟩;refine mV ?_;rw[E.out];refine⟨none,0,none,0,rfl,su,?_⟩;have T:=a0.out;exact BEL
         ·have B4:decide ((0:Int)<(b9.length:Int))=false:=bJ oM
          have d:=E.out;rw[Ww x0]at d;have E:=zH d;clear d;have r1:Sps (q.setCell ⟨e.heap.size,4,none⟩ (bV (V==1))) (λk=>(e.alloc (.cells jK 92)).heap.size<=k/\k<m.heap.size) x A:=aG (aG h9.out (n.out.mono (λ_ _=>trivial) (λ_ h=>h)) sM) ((bQ.setCell (ts:=[some 272]) (fz:=(0,0)) b8.out dC 4 _)) sM;have r0:Sps (q.setCell ⟨e.heap.size,4,none⟩ (bV (V==1))) (λk=>(m.setCell ⟨e.heap.size,0,none⟩ (.slice x A.length y)).heap.size<=k/\k<p.heap.size) F L:=aG (aG h8.out (t.out.mono (λ_ _=>trivial) (λ_ h=>h)) sM) ((bQ.setCell (ts:=[some 272]) (fz:=(0,0)) b8.out dC 4 _)) sM;have h6:=zH r1;have h7:=zH r0;clear r1 r0 h9 h8 n t;have c9:=zH (xG _ _ F J L x y A _ h7.out oM i5.out h6.out oM i6.out);cases hwi:jA L A with
          |false=>
           rw[hwi]at c9;have d:=E.out;rw[hwi,aB (by rfl)]at d;have E:=zH d;clear d;go_wp2_with fail;refine(h2.out).mono ?_;rintro u w9 ⟨rfl,rfl⟩;go_wp2_with fail;refine(c9.out).mono ?_;rintro u b3 ⟨rfl,W⟩;have c6:bW w b3:=bD (show bW w (q.setCell ⟨e.heap.size,4,none⟩ (bV (V==1)))from by have T:=a0.out;exact BEL) (W.mono (by have:=a0.out.size;simp;omega));have h0:=zH c6;have c7:Blk b3 w.heap.size 92 jK:=(Blk.far d1.out oM _).below W sO;obtain⟨A2,A7,A3,A8,A4,A9,A5,B0,A6,B1⟩:=c7.c5;clear W c7 c6;have x1:=E;refine mV ?_;rw[x1.out];refine⟨none,0,none,0,rfl,su,?_⟩;have T:=h0.out;exact BEL
          |true=>
           rw[hwi]at c9;have d:=E.out;rw[hwi,Ww sM]at d;have E:=zH d;clear d;go_wp2_with fail;refine(h2.out).mono ?_;rintro u w9 ⟨rfl,rfl⟩;go_wp2_with fail;refine(c9.out).mono ?_;rintro u b3 ⟨rfl,W⟩;(have E2:q.heap.size<=b3.heap.size:=by have:=W.size;simp at this;omega);have x2:=zH (aD h6.out W);have x3:=zH (aD h7.out W);have c6:bW w b3:=bD (show bW w (q.setCell ⟨e.heap.size,4,none⟩ (bV (V==1)))from by have T:=a0.out;exact BEL) (W.mono (by have:=a0.out.size;simp;omega));have h0:=zH c6;have c7:Blk b3 w.heap.size 92 jK:=(Blk.far d1.out oM _).below W sO;obtain⟨A2,A7,A3,A8,A4,A9,A5,B0,A6,B1⟩:=c7.c5;clear c7;have m4:Blk b3 e.heap.size 92 #[.slice x A.length y,.slice F L.length J,uI a1,uI a3,bV (V==1)]:=by
            have C:=b8.out;have y4:=(C.bF 4 (bV (V==1))).below W sO;simpa using y4
           obtain⟨D1,D6,D2,D7,D3,D8,D4,D9,D5,E0⟩:=m4.c5;have E1:=m4.lt;clear W m4 c6 h6 h7;refine mV ?_;rw[E.out];have T:=h0.out;refine⟨x,y,F,J,rfl,?_,BEL⟩;refine⟨aF (S:=λk=>(e.alloc (.cells jK 92)).heap.size<=k/\k<m.heap.size) ?_ (λk i=>⟨by have:=i.1;simp at this;omega,by have:=i.2;simp;omega⟩),r9,aF (S:=λk=>(m.setCell ⟨e.heap.size,0,none⟩ (.slice x A.length y)).heap.size<=k/\k<p.heap.size) ?_ (λk i=>⟨by have:=i.1;simp at this;omega,by have:=i.2;simp;omega⟩),s0,i6.out,i5.out,by simp only;omega,by simp only;omega⟩
           ·repeat (refine Row.far_ ?_ (λk i h=>by have j1:=i.1;simp at j1;omega))
            exact x2.out
           ·repeat (refine Row.far_ ?_ (λk i h=>by have j1:=i.1;simp at j1;omega))
            exact x3.out
      ·have y1:(j0 !=0)=true:=by simp[d6]
       rw[aB (by simp[d6])]at d;have a9:=zH d;clear d c3;go_wp2_with fail;refine o.mono ?_;rintro u r ⟨rfl,f,b⟩;have s:=bQ.stp n.out a6.out b;have B:=bQ.stp t.out a6.out b;clear n t;have n:=zH s;have t:=zH B;clear s B;(have z5:v.heap.size<=r.heap.size:=by have:=b.size;simp at this;omega);have R:=i4.out;have O:=a6.out;have g:bW w r:=by
        refine(b6.out.trans (show Below w.heap.size v (v.setCell ⟨e.heap.size,2,none⟩ (uI a1))from BEL)).trans (b.cZ ?_ ?_)
        ·have U:=b6.out.size;first|omega|(simp;omega)
        ·intro k i h;omega
       have I:Blk r (w.heap.size) 92 jK:=jw b;have H:Blk r (e.heap.size) 92 #[.slice x A.length y,.slice F L.length J,uI a1,uI 0,bV false]:=jw b;obtain⟨f8,g3,f9,g4,g0,g5,g1,g6,g2,g7⟩:=I.c5;have A1:w.heap.size<r.heap.size:=I.lt;have d0:=zH I;clear I;obtain⟨d8,e3,d9,e4,e0,e5,e1,e6,e2,e7⟩:=H.c5;have z2:e.heap.size<r.heap.size:=H.lt;have Y:=zH H;clear H;have a4:=zH g;clear b g;clear R o6 p1 o7 p2 o8 p3 o9 p4 p0 p5 l4 l9 l5 m0 l6 m1 l7 m2 l8 m3 O;have h4:=zH f;clear f;clear o;refine mV ?_;rw[a9.out];refine⟨none,0,none,0,rfl,su,?_⟩;have T:=a4.out;exact BEL
     ·have y0:(i9 !=0)=true:=by simp[d5]
      rw[aB (by simp[d5])]at d;have c3:=zH d;clear d c2;go_wp2_with fail;refine o.mono ?_;rintro u v ⟨rfl,f,b⟩;have s:=bQ.stp n.out a5.out b;have B:=bQ.stp t.out a5.out b;clear n t;have n:=zH s;have t:=zH B;clear s B;(have z4:p.heap.size<=v.heap.size:=by have:=b.size;simp at this;omega);have Q:=i3.out;have N:=a5.out;have g:bW w v:=by
       refine(b5.out.trans (show Below w.heap.size p (p.setCell ⟨e.heap.size,1,none⟩ (.slice F L.length J))from BEL)).trans (b.cZ ?_ ?_)
       ·have U:=b5.out.size;first|omega|(simp;omega)
       ·intro k i h;omega
      have R:Blk v (w.heap.size) 92 jK:=jw b;have O:Blk v (e.heap.size) 92 #[.slice x A.length y,.slice F L.length J,uI 0,uI 0,bV false]:=jw b;obtain⟨o6,p1,o7,p2,o8,p3,o9,p4,p0,p5⟩:=R.c5;have A0:w.heap.size<v.heap.size:=R.lt;have i4:=zH R;clear R;obtain⟨l4,l9,l5,m0,l6,m1,l7,m2,l8,m3⟩:=O.c5;have z1:e.heap.size<v.heap.size:=O.lt;have a6:=zH O;clear O;have b6:=zH g;clear b g;clear Q n6 o1 n7 o2 n8 o3 n9 o4 o0 o5 k4 k9 k5 l0 k6 l1 k7 l2 k8 l3 N;have q2:=zH f;clear f;clear o;refine mV ?_;rw[c3.out];refine⟨none,0,none,0,rfl,su,?_⟩;have T:=b6.out;exact BEL
    ·have x9:(i8 !=0)=true:=by simp[d4]
     rw[aB (by simp[d4])]at d;have c2:=zH d;clear d c1;go_wp2_with fail;refine o.mono ?_;rintro u p ⟨⟨F,J,rfl,s0,b1⟩,f,b⟩;have h8:=zH b1;have i5:=zH g8;have t:=zH (show bQ (λ_=>True) [some 272] p p from λ_ _ _ h _=>h);clear b1 g8;have s:=bQ.stp n.out b7.out b;clear n;have n:=zH s;clear s;(have b1:m.heap.size<=p.heap.size:=by have:=b.size;simp at this;omega);have P:=i2.out;have M:=b7.out;have g:bW w p:=by
      refine(b4.out.trans (show Below w.heap.size m (m.setCell ⟨e.heap.size,0,none⟩ (.slice x A.length y))from BEL)).trans (b.cZ ?_ ?_)
      ·have U:=b4.out.size;first|omega|(simp;omega)
      ·intro k i h;omega
     have Q:Blk p (w.heap.size) 92 jK:=jw b;have N:Blk p (e.heap.size) 92 #[.slice x A.length y,.slice none 0 0,uI 0,uI 0,bV false]:=jw b;obtain⟨n6,o1,n7,o2,n8,o3,n9,o4,o0,o5⟩:=Q.c5;have z9:w.heap.size<p.heap.size:=Q.lt;have i3:=zH Q;clear Q;obtain⟨k4,k9,k5,l0,k6,l1,k7,l2,k8,l3⟩:=N.c5;have z0:e.heap.size<p.heap.size:=N.lt;have a5:=zH N;clear N;have b5:=zH g;clear b g;clear P m6 n1 m7 n2 m8 n3 m9 n4 n0 n5 j4 j9 j5 k0 j6 k1 j7 k2 j8 k3 M;have q1:=zH f;clear f;clear o;refine mV ?_;rw[c2.out];refine⟨none,0,none,0,rfl,su,?_⟩;have T:=b5.out;exact BEL
   ·have x8:(i7 !=0)=true:=by simp[d3]
    rw[aB (by simp[d3])]at d;have c1:=zH d;clear d h1;go_wp2_with fail;refine o.mono ?_;rintro u m ⟨⟨x,y,rfl,r9,b0⟩,f,b⟩;have h9:=zH b0;have i6:=zH g9;have n:=zH (show bQ (λ_=>True) [some 272] m m from λ_ _ _ h _=>h);clear b0 g9;(have b0:e.heap.size<=m.heap.size:=by have:=b.size;simp at this;omega);have D:=i1.out;have g:bW w m:=by
     refine(X.out.trans (show Below w.heap.size e (e.alloc (.cells jK 92))from BEL)).trans (b.cZ ?_ ?_)
     ·have U:=X.out.size;first|omega|(simp;omega)
     ·intro k i h;omega
    have P:Blk m (w.heap.size) 92 jK:=jw b;have M:Blk m (e.heap.size) 92 jK:=jw b;obtain⟨m6,n1,m7,n2,m8,n3,m9,n4,n0,n5⟩:=P.c5;have z8:w.heap.size<m.heap.size:=P.lt;have i2:=zH P;clear P;obtain⟨j4,j9,j5,k0,j6,k1,j7,k2,j8,k3⟩:=M.c5;have y9:e.heap.size<m.heap.size:=M.lt;have b7:=zH M;clear M;have b4:=zH g;clear b g;clear D e8 f3 e9 f4 f0 f5 f1 f6 f2 f7;have q0:=zH f;clear f;clear o;refine mV ?_;rw[c1.out];refine⟨none,0,none,0,rfl,su,?_⟩;have T:=b4.out;exact BEL
  ·have y2:(d2 !=2)=true:=by simp[d7]
   go_wp2_with fail;refine z.mono ?_;rintro u e ⟨c4,c5,rfl,G,f,b⟩;obtain⟨x4,x6,rfl,y5,p6⟩:=Bys.at_ G (aj _ _) (j:=0) sM;simp only[Nat.add_zero,List.getElem_cons_zero]at p6;have a7:=i0.out;have g:bW w e:=by
    refine(a8.out.trans (show Below w.heap.size a2 (a2)from BEL)).trans (b.cZ ?_ ?_)
    ·have U:=a8.out.size;first|omega|(simp;omega)
    ·intro k i h;omega
   have D:Blk e (w.heap.size) 92 jK:=jw b;obtain⟨e8,f3,e9,f4,f0,f5,f1,f6,f2,f7⟩:=D.c5;have z7:w.heap.size<e.heap.size:=D.lt;have i1:=zH D;clear D;have X:=zH g;clear b g;clear a7 t5 v0 t6 v1 t7 v2 t8 v3 t9 v4;have p9:=zH f;clear f;clear G z;refine mV ?_;have d:=c0.out;rw[aB (by simp[d7])]at d;rw[d];refine⟨none,0,none,0,rfl,su,?_⟩;have T:=X.out;exact BEL
end Go.Proofs.YtiflndepmgnojaaGreat
