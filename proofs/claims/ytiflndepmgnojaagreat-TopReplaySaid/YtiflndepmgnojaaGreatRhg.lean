import Derived.Test.YtiflndepmgnojaaGreatLawG
import Derived.Test.YtiflndepmgnojaaGreatEnc
import Derived.Test.YtiflndepmgnojaaGreatGuB
namespace Go.Proofs.YtiflndepmgnojaaGreat
open Go.RowKit
set_option linter.unusedSimpArgs false
set_option linter.unusedVariables false
set_option maxHeartbeats 8000000
set_option maxRecDepth 100000
attribute[local go_sem] BW.cell BW.frozen
theorem Sg {tb:TypeId} (k:Nat) (a3:k<=1000000000) (S i5:Nat->Prop) (p c4:Nat) (g:Gu) (l:Le) (a:Option Addr) (c:Nat) (b:List Int) (now:Int) (w:World)
  (g7:mI w S p g) (g9:AO k g) (k0:iJ w S c4 l) (h0:gM l) (hb:Byt tb w i5 a b) (n2:b.length<=100000) (n3:dP b) (t6:Word now) (d5:Bd S w)
  (n0:Hid (g.over=false)) (j1:Hid ((jy b).err=0)) (g4:Hid ((jW l (jy b).val).why=0)) (d4:Hid (¬(kL (lX l (jW l (jy b).val).val) (jy b).val).why=0)):
  Calls Tryz.prog 52 #[pT p,pT c4,.slice a b.length c,uI now] w λY b3=>vZ w S p c4 (dN g l b now) Y b3:=by
 have i3:=zH k0;have h9:=zH hb;have r8:=zH g9;have t5:=g9.n;obtain⟨q3,q8,q9,r0,r1,r2,r3,r4,r5,r6,r7,g8,j9⟩:=g7.ex;have g6:=g7.mem;have i1:=zH j9;have n4:=g8.lt;obtain⟨m2,g5⟩:=eX (dN g l b now);rw[<-g5];have i4:=zH g5;clear g5 k0 hb g9 g7 j9;obtain⟨i6,⟨h3,h4,h5,h6,h7⟩,q2⟩:=g;simp only at*
 have p8:¬(p=w.heap.size):=oM;have p9:¬(p=w.heap.size+1):=oM;have q0:¬(p=w.heap.size+1+1):=oM;have q1:¬(p=w.heap.size+1+1+1):=oM;go_enter Tryz.func52,Tryz.ntmps52;go_wp2_with fail;obtain⟨b7,d7⟩:=eX ((((w.alloc (.cells #[pT p] 150)).alloc (.cells #[uI now] 30)).alloc (.cells #[jI 0,jI 0,uI 0,bV false] 74)).alloc (.cells jK 92));rw[<-d7];have d6:Loc b7 p w.heap.size (w.heap.size+1) (w.heap.size+1+1) (w.heap.size+1+1+1) now:=by
  rw[d7];exact⟨(((Wx _ _ _).alloc _).alloc _).alloc _,((Blk.qN _ _ _ _).alloc _).alloc _,(Blk.IV _ _ _ _ _).alloc _,Blk.IU _ _ _ _ _ _⟩
 (have a9:bW w b7:=by rw[d7];exact BEL);have j5:=g8.below a9 n4;obtain⟨z,f0⟩:=eX w.heap.size;obtain⟨R,f1⟩:=eX (w.heap.size+1);obtain⟨t,f2⟩:=eX (w.heap.size+1+1);obtain⟨u,f3⟩:=eX (w.heap.size+1+1+1);rw[<-f3,<-f2,<-f1,<-f0];rw[<-f3,<-f2,<-f1,<-f0]at d6;(have j4:∀k,S k->k≠z/\k≠R/\k≠t/\k≠u:=λk a3=>by have:=d5 k a3;omega);have c5:=zH j4;have k2:Mod S gtT w b7:=aH a9;have m:=zH k2;have h8:=zH a9;have o:=zH (i3.out.below a9);have s:=zH (i1.out.below a9);have i0:=zH (aD h9.out a9);have q5:w.heap.size<=t:=oM;have q6:w.heap.size<=u:=oM;have d9:¬(t=u):=oM;have e0:¬(u=t):=oM;have k7:¬(p=z):=oM;have k8:¬(p=R):=oM;have k9:¬(p=t):=oM;have l0:¬(p=u):=oM;have d:=zH d6;have e:=zH j5;have T:=d6.h4.Wu 0;have w5:w.heap.size<=z:=oM;have w6:w.heap.size<=R:=oM;clear d6 j5 a9 k2 j4 i3 i1 h9 g8 p8 p9 q0 q1 d7 f0 f1 f2 f3;cases q2 with
 |true=>exact Wy n0.out dC
 |false=>
  refine(pV ⟨p,6,none⟩ false b7 (e.out.cell 6)).mono ?_;rintro Y q7 ⟨rfl,c3⟩;obtain rfl:b7=q7:=c3.symm;go_wp2_with fail;refine(wV i5 a c b b7 i0.out n2 n3).mono ?_;rintro Y b4 ⟨I,L,J,M,rfl,j8,c0⟩;have n:=zH (j8.mono (S':=λk=>w.heap.size<=k) (λk a3=>ay h8.out.size a3.1));replace d:=zH (d.out.below c0);replace e:=zH (e.out.below c0 e.out.lt);replace m:=zH (m.out.trans (aH c0));replace o:=zH (o.out.below c0);replace s:=zH (s.out.below c0);clear j8 c0 T i0 h8;have T:=d.out.h4.Wu 0;have b2:z<b4.heap.size:=d.out.h4.lt;have n5:p<b4.heap.size:=e.out.lt;have a4:=zH (i4.out.trans (wJ l b now rfl));by_cases e6:(jy b).err=0
  ·generalize jy b=l7 at*
   obtain⟨⟨C,A,D,E,B⟩,s5⟩:=l7;simp only at e6 j1 g4 d4 n a4|-;subst e6;have b1:=a4.out;unfold zN at b1;rw[Ww sM]at b1;simp only at b1;have n6:w.heap.size<=b4.heap.size:=m.out.size;have d0:=d.out.h4.lt;have d1:=d.out.h7.lt;have d2:=d.out.h8.lt;have d3:=d.out.h9.lt;go_wp2_with fail;obtain⟨e3,d8⟩:=eX (b4.alloc (.cells #[.slice I C.length L,.slice J A.length M,uI D,uI E,bV B] 92));rw[<-d8];(have b0:bW b4 e3:=by rw[d8];exact BEL);(have g1:Blk e3 b4.heap.size 92 #[.slice I C.length L,.slice J A.length M,uI D,uI E,bV B]:=by rw[d8];exact Wx _ _ _);obtain⟨y,j0⟩:=eX b4.heap.size;rw[<-j0]at g1|-;have v8:¬(p=y):=oM;have v0:¬(z=y):=oM;have v3:¬(R=y):=oM;have o9:¬(t=y):=oM;have p2:¬(u=y):=oM;have w2:w.heap.size<=y:=oM;(have s0:¬S y:=λh=>by have:=d5 _ h;omega);have f:=zH g1;replace d:=zH (d.out.below b0);replace e:=zH (e.out.below b0 e.out.lt);replace m:=zH (m.out.trans (aH b0));replace o:=zH (o.out.below b0);replace s:=zH (s.out.below b0);replace n:=zH (n.out.below b0);clear g1 b0 d8 j0 T b2 a4 i4 d0 d1 d2 d3;refine(Ch S _ c4 l I L J M ⟨C,A,D,E,B⟩ e3 o.out h0 n.out).mono ?_;rintro Y V ⟨rfl,Z⟩;replace d:=zH (d.out.below Z);replace e:=zH (e.out.below Z e.out.lt);replace m:=zH (m.out.trans (aH Z));replace o:=zH (o.out.below Z);replace s:=zH (s.out.below Z);replace n:=zH (n.out.below Z);replace f:=zH (f.out.below Z f.out.lt);clear Z;generalize jW l ⟨C,A,D,E,B⟩=m1 at*
   obtain⟨c9,o1⟩:=m1;simp only at b1 g4 d4|-;have T:=d.out.h4.Wu 0;have b2:z<V.heap.size:=d.out.h4.lt;have n9:y<V.heap.size:=f.out.lt;have d0:=d.out.h4.lt;have d1:=d.out.h7.lt;have d2:=d.out.h8.lt;have d3:=d.out.h9.lt;have n7:w.heap.size<=V.heap.size:=m.out.size;by_cases i9:o1=0
   ·subst i9
    rw[Ww sM]at b1;have a4:=zH b1;clear b1;go_wp2_with fail;obtain⟨a5,c7⟩:=eX ((V.alloc (.cells #[uI c9] 30)).alloc (.cells #[jI 0] 3));rw[<-c7];(have a0:bW V a5:=by rw[c7];exact BEL);(have g2:Blk a5 V.heap.size 30 #[uI c9]:=by rw[c7];exact(Wx _ _ _).alloc _);(have b9:Blk a5 (V.heap.size+1) 3 #[jI 0]:=by rw[c7];exact Blk.qN _ _ _ _);obtain⟨F,e7⟩:=eX V.heap.size;obtain⟨q,e8⟩:=eX (V.heap.size+1);rw[<-e8,<-e7];rw[<-e7]at g2;rw[<-e8]at b9;have v1:¬(z=F):=oM;have o5:¬(z=q):=oM;have v4:¬(R=F):=oM;have o7:¬(R=q):=oM;have v6:¬(t=F):=oM;have k5:¬(t=q):=oM;have v7:¬(u=F):=oM;have k6:¬(u=q):=oM;have t7:¬(y=F):=oM;have t8:¬(y=q):=oM;have t9:¬(F=q):=oM;have v9:¬(p=F):=oM;have w0:¬(p=q):=oM;have w3:w.heap.size<=F:=oM;have q4:w.heap.size<=q:=oM;(have s1:¬S F:=λh=>by have:=d5 _ h;omega);(have s2:¬S q:=λh=>by have:=d5 _ h;omega);have x:=zH g2;have r:=zH b9;replace d:=zH (d.out.below a0);replace e:=zH (e.out.below a0 e.out.lt);replace m:=zH (m.out.trans (aH a0));replace o:=zH (o.out.below a0);replace s:=zH (s.out.below a0);replace n:=zH (n.out.below a0);replace f:=zH (f.out.below a0 f.out.lt);clear g2 b9 a0 c7 e7 e8 T b2 n9 d0 d1 d2 d3 n7;have o6:¬S z:=λh=>(c5.out _ h).1 rfl;have o8:¬S R:=λh=>(c5.out _ h).2.1 rfl;have p1:¬S t:=λh=>(c5.out _ h).2.2.1 rfl;have p4:¬S u:=λh=>(c5.out _ h).2.2.2 rfl;clear c3 n5 n6 c5;have m8:=x.out.Wu 0;have e5:=r.out.Wu 0;have o0:F<a5.heap.size:=x.out.lt;have h1:q<a5.heap.size:=r.out.lt;go_wp2_with fail;refine(IZ S c4 l c9 a5 o.out h0).mono ?_;rintro Y l5 ⟨⟨s3,rfl⟩,k1,G⟩;have G:Mod S [some 236,some 177] a5 l5:=G;replace d:=zH (d.out.out G o6 o8 p1 p4);replace e:=zH (e.out.mod G dC);replace f:=zH (f.out.mod G dC);replace x:=zH (x.out.mod G dC);replace r:=zH (r.out.mod G dC);replace n:=zH (n.out.keep (G.aM (ts:=[some 272]) dC) sM);replace s:=zH (s.out.keep (G.aM (ts:=[some 314,some 30]) dC) sM sM);replace m:=zH (m.out.trans (G.mono (λ_ _ h=>h) (by simp[gtT])));replace o:=zH k1;clear k1 G m8 e5 o0 h1;have l8:=zH (yS h0 c9);generalize lX l c9=h2 at*
    have m3:=f.out.Wu 0;have m4:=f.out.Wu 1;have m5:=f.out.Wu 2;have m6:=f.out.Wu 3;have m7:=f.out.Wu 4;go_wp2_with fail;refine(Ah S _ c4 h2 I L J M ⟨C,A,D,E,B⟩ l5 o.out l8.out n.out).mono ?_;rintro Y H ⟨rfl,O⟩;replace d:=zH (d.out.below O);replace e:=zH (e.out.below O e.out.lt);replace m:=zH (m.out.trans (aH O));replace o:=zH (o.out.below O);replace s:=zH (s.out.below O);replace n:=zH (n.out.below O);replace f:=zH (f.out.below O f.out.lt);replace x:=zH (x.out.below O x.out.lt);replace r:=zH (r.out.below O r.out.lt);clear O m3 m4 m5 m6 m7;generalize kL h2 ⟨C,A,D,E,B⟩=l6 at*
    obtain⟨N,X⟩:=l6;simp only at a4|-;obtain⟨e5,m9⟩:=r.out.cz 0;have h1:q<H.heap.size:=r.out.lt;have n8:w.heap.size<=H.heap.size:=m.out.size;have d0:=d.out.h4.lt;have d1:=d.out.h7.lt;have d2:=d.out.h8.lt;have d3:=d.out.h9.lt;have o2:=f.out.lt;have o3:=x.out.lt;have o4:=e.out.lt;have T:=d.out.h4.Wu 0;have b2:z<H.heap.size:=d.out.h4.lt;(have s4:(N !=0)=true:=by have h:=d4.out;simp[h]);go_wp2_with fail;obtain⟨b8,c8⟩:=eX ((H.setCell ⟨q,0,none⟩ (jI N)).alloc (.cells #[uI X] 30));rw[<-c8];(have U:Mod (λk=>k=q) [some 3] H b8:=by rw[c8];exact((aV (λk=>k=q) [some 3] H).setCell r.out (λ_=>rfl) sM 0 _).alloc _);(have k4:(H.setCell ⟨q,0,none⟩ (jI N)).heap.size=H.heap.size:=by simp[World.setCell]);(have g3:Blk b8 H.heap.size 30 #[uI X]:=by have h:=Wx (H.setCell ⟨q,0,none⟩ (jI N)) 30 #[uI X];rw[k4]at h;rw[c8];exact h);(have b9:Blk b8 q 3 #[jI N]:=by rw[c8];exact(r.out.bF 0 _).alloc _);obtain⟨K,e9⟩:=eX H.heap.size;rw[<-e9];rw[<-e9]at g3;have v2:¬(z=K):=oM;have v5:¬(R=K):=oM;have p0:¬(t=K):=oM;have p3:¬(u=K):=oM;have w1:¬(p=K):=oM;have w4:w.heap.size<=K:=oM;replace d:=zH (d.out.out U o5 o7 k5 k6);replace e:=zH (e.out.mod U dC);replace f:=zH (f.out.mod U dC);replace x:=zH (x.out.mod U dC);replace r:=zH b9;have W:=zH g3;replace n:=zH (n.out.keep (U.aM (ts:=[some 272]) dC) sM);replace s:=zH (s.out.keep (U.aM (ts:=[some 314,some 30]) dC) sM sM);replace o:=zH (o.out.keep (U.aM (ts:=[some 236,some 177]) dC) sM sM);replace m:=zH (m.out.nA U (λk a3=>by subst a3;exact q4));clear U k4 g3 b9 c8 e9 e5 m9 h1 n8 d0 d1 d2 d3 o2 o3 o4 T b2;have l9:Hid (m2=⟨⟨3,N,X,false⟩,⟨C,A,D,E,B⟩,⟨i6,⟨h3,h4,h5,h6,h7⟩,true⟩,h2⟩):=zH (by rw[a4.out,aB d4.out]);clear a4;refine(Lv ⟨p,6,none⟩ _ b8 (e.out.cell 6) (e.out.frozen 6)).mono ?_;rintro Y e1 ⟨rfl,c3⟩;(have P:Mod (λk=>k=p) [some 256] b8 e1:=by rw[c3];exact((aV (λk=>k=p) [some 256] b8).drew).setCell (e.out.drew) (λ_=>rfl) sM 6 _);(have j6:Blk e1 p 256 #[pT q3,uI h3,uI h4,uI h5,uI h6,uI h7,.int .u32 1,.int .u32 (b32 false),.int .i32 0,q8,q9,r0,r1,r2,r3,r4,r5,r6,r7]:=by rw[c3];exact e.out.drew.bF 6 _);replace d:=zH (d.out.out P (Ne.symm k7) (Ne.symm k8) (Ne.symm k9) (Ne.symm l0));replace e:=zH j6;replace f:=zH (f.out.mod P dC);replace x:=zH (x.out.mod P dC);replace r:=zH (r.out.mod P dC);replace W:=zH (W.out.mod P dC);replace n:=zH (n.out.keep (P.aM (ts:=[some 272]) dC) sM);replace s:=zH (s.out.keep (P.aM (ts:=[some 314,some 30]) dC) sM sM);replace o:=zH (o.out.keep (P.aM (ts:=[some 236,some 177]) dC) sM sM);replace m:=zH (m.out.then (P.mono (λ_ _ h=>h) (by simp[gtT])) (λk _ h=>by subst h;exact g6));clear P j6 c3;have T:=d.out.h4.Wu 0;have b2:z<e1.heap.size:=d.out.h4.lt;go_wp2_with fail;refine(P9 _ R K F q y z p I L J M ⟨C,A,D,E,B⟩ _ _ _ _ _ _ _ _ _ _ _ _ _ _ _ _ _ e1 ⟨⟨_,d.out.h7⟩,⟨_,W.out⟩,⟨_,x.out⟩,⟨_,r.out⟩,f.out,d.out.h4,e.out,n.out⟩).mono ?_;rintro Y l4 ⟨rfl,⟨s6,s7,s8,s9,t0,t1,t2,t3,t4,j7⟩,Q⟩;replace d:=zH (d.out.out Q (Ne.symm k7) (Ne.symm k8) (Ne.symm k9) (Ne.symm l0));replace e:=zH j7;replace f:=zH (f.out.mod Q dC);replace x:=zH (x.out.mod Q dC);replace r:=zH (r.out.mod Q dC);replace W:=zH (W.out.mod Q dC);replace n:=zH (n.out.keep (Q.aM (ts:=[some 272]) dC) sM);replace s:=zH (s.out.keep (Q.aM (ts:=[some 314,some 30]) dC) sM sM);replace o:=zH (o.out.keep (Q.aM (ts:=[some 236,some 177]) dC) sM sM);replace m:=zH (m.out.then (Q.mono (λ_ _ h=>h) (by simp[gtT])) (λk _ h=>by subst h;exact g6));clear Q j7 T b2;go_wp2_with fail;rename_i r9 e4;have i2:=zH e4;clear e4;have b5:=zH d.out.h8;have b6:=zH d.out.h9;have l1:y≠t:=λh=>o9 h.symm;have p5:y≠u:=λh=>p2 h.symm;have l2:q≠t:=λh=>k5 h.symm;have p6:q≠u:=λh=>k6 h.symm;have l3:K≠t:=λh=>p0 h.symm;have p7:K≠u:=λh=>p3 h.symm;refine wp_region_noPanic ?_;refine aZ (S:=(λb3=>(∃i7,Blk b3 t 74 i7/\i7.size=4)/\(∃i8,Blk b3 u 92 i8/\i8.size=5)/\Blk b3 y 92 #[.slice I C.length L,.slice J A.length M,uI D,uI E,bV B]/\Blk b3 q 3 #[jI N]/\Blk b3 K 30 #[uI X])) kR ⟨⟨_,b5.out.drew,rfl⟩,⟨_,b6.out.drew,rfl⟩,f.out.drew,r.out.drew,W.out.drew⟩ (λn1=>?_);refine wpAnyH_take (i:=0) (v:=?_) rfl kR kR kR (λ_ _ _ h=>h) (Or.inl ⟨by rfl,?_⟩) (by assumption) ?_
    rotate_left
    (·(intro w a8;obtain⟨⟨_,_,_⟩,⟨_,_,_⟩,j,a6,a7⟩:=a8;have f4:=j.Wu 0;have f5:=j.Wu 1;have f6:=j.Wu 2;have f7:=j.Wu 3;have f8:=j.Wu 4;have f9:=a6.Wu 0;have g0:=a7.Wu 0;exact gS));refine mP ?_;refine wpAnyH_take (i:=1) (v:=?_) rfl kR kR kR (λ_ _ _ h=>h) (Or.inl ⟨by rfl,?_⟩) (by assumption) ?_;rotate_left
    (·(intro w a8;obtain⟨⟨_,_,_⟩,⟨_,_,_⟩,j,a6,a7⟩:=a8;have f4:=j.Wu 0;have f5:=j.Wu 1;have f6:=j.Wu 2;have f7:=j.Wu 3;have f8:=j.Wu 4;have f9:=a6.Wu 0;have g0:=a7.Wu 0;exact gS));refine mP ?_;refine wpAnyH_take (i:=2) (v:=?_) rfl kR kR kR (λ_ _ _ h=>h) (Or.inl ⟨by rfl,?_⟩) (by assumption) ?_;rotate_left
    (·(intro w a8;obtain⟨⟨_,_,_⟩,⟨_,_,_⟩,j,a6,a7⟩:=a8;have f4:=j.Wu 0;have f5:=j.Wu 1;have f6:=j.Wu 2;have f7:=j.Wu 3;have f8:=j.Wu 4;have f9:=a6.Wu 0;have g0:=a7.Wu 0;exact gS));refine mP ?_;refine wpAnyH_take (i:=3) (v:=?_) rfl kR kR kR (λ_ _ _ h=>h) (Or.inl ⟨by rfl,?_⟩) (by assumption) ?_;rotate_left
    (·(intro w a8;obtain⟨⟨_,_,_⟩,⟨_,_,_⟩,j,a6,a7⟩:=a8;have f4:=j.Wu 0;have f5:=j.Wu 1;have f6:=j.Wu 2;have f7:=j.Wu 3;have f8:=j.Wu 4;have f9:=a6.Wu 0;have g0:=a7.Wu 0;exact gS));refine mP ?_;refine oC (i:=4) 74 (.tmp 8) (.tmp 97) t 0 #[jI 3,jI N,uI X,bV false] rfl kR kR kR kR kR kR (b5.out.drew.there _ sM) kR (by simp[Value.oneCell']) ⟨⟨_,b5.out.drew.Ik,rfl⟩,⟨_,Blk.gy e0 _ _ _ b6.out.drew,rfl⟩,Blk.gy l1 _ _ _ (f.out.drew),Blk.gy l2 _ _ _ (r.out.drew),Blk.gy l3 _ _ _ (W.out.drew)⟩ ?_;refine oC (i:=5) 92 (.tmp 9) (.tmp 98) u 0 #[.slice I C.length L,.slice J A.length M,uI D,uI E,bV B] rfl kR kR kR kR kR kR (Blk.there (Blk.gy e0 _ _ _ b6.out.drew) _ sM) kR (by simp[Value.oneCell']) ⟨⟨_,Blk.gy d9 _ _ _ b5.out.drew.Ik,rfl⟩,⟨_,(Blk.gy e0 _ _ _ b6.out.drew).set5,rfl⟩,Blk.gy p5 _ _ _ (Blk.gy l1 _ _ _ (f.out.drew)),Blk.gy p6 _ _ _ (Blk.gy l2 _ _ _ (r.out.drew)),Blk.gy p7 _ _ _ (Blk.gy l3 _ _ _ (W.out.drew))⟩ ?_;refine bg kR ?_ _;refine NoPanic.normal ?_;have e4:=i2.out;clear i2;obtain⟨e2,c6⟩:=eX ((l4.drew.setCells t 0 [jI 3,jI N,uI X,bV false]).setCells u 0 [.slice I C.length L,.slice J A.length M,uI D,uI E,bV B]);(try simp only[List.toList_toArray]);rw[<-c6];(have k3:St9 (λk=>w.heap.size<=k) l4.drew e2 t u:=by rw[c6];exact(St9.c8 ⟨aV _ _ _,⟨_,b5.out.drew⟩,⟨_,b6.out.drew⟩⟩ d9 q5 _).c9 d9 q6 _);(have j2:Blk e2 t 74 #[jI 3,jI N,uI X,bV false]:=by rw[c6];exact Blk.gy d9 _ _ _ b5.out.drew.Ik);(have j3:Blk e2 u 92 #[.slice I C.length L,.slice J A.length M,uI D,uI E,bV B]:=by rw[c6];exact(Blk.gy e0 _ _ _ b6.out.drew).set5);have m0:=zH k3;obtain⟨w7,x1,w8,x2,w9,x3,x0,x4⟩:=j2.c4;obtain⟨x5,y0,x6,y1,x7,y2,x8,y3,x9,y4⟩:=j3.c5;clear k3 j2 j3 c6 n1;refine mV ?_;rw[l9.out];exact GD (a1:=I) (c1:=L) (a2:=J) (c2:=M) m0.out (mI.bF (g:=⟨i6,⟨h3,h4,h5,h6,h7⟩,true⟩) e.out.drew (s.out.below (bA (aj _ _))) g6 rfl rfl rfl rfl rfl) (o.out.below (bA (aj _ _))) (λk a3=>.inl a3) m.out.drew (n.out.below (bA (aj _ _))).lt_ rfl
   ·exact Wy g4.out i9
  ·exact Wy j1.out e6
theorem Sf {tb:TypeId} (k:Nat) (V:k<=1000000000) (S h5:Nat->Prop) (p b4:Nat) (g:Gu) (l:Le) (a:Option Addr) (c:Nat) (b:List Int) (now:Int) (w:World)
  (f7:mI w S p g) (f9:AO k g) (j7:iJ w S b4 l) (g0:gM l) (hb:Byt tb w h5 a b) (m1:b.length<=100000) (m2:dP b) (s0:Word now) (d2:Bd S w)
  (l9:Hid (g.over=false)) (i7:Hid ((jy b).err=0)) (f5:Hid ((jW l (jy b).val).why=0)) (d1:Hid ((kL (lX l (jW l (jy b).val).val) (jy b).val).why=0)):
  Calls Tryz.prog 52 #[pT p,pT b4,.slice a b.length c,uI now] w λa0 b5=>vZ w S p b4 (dN g l b now) a0 b5:=by
 have h3:=zH j7;have g9:=zH hb;have r2:=zH f9;have j6:=f9.n;obtain⟨p7,q2,q3,q4,q5,q6,q7,q8,q9,r0,r1,f8,j5⟩:=f7.ex;have j3:=f7.mem;have h1:=zH j5;have m3:=f8.lt;obtain⟨l1,f6⟩:=eX (dN g l b now);rw[<-f6];have h4:=zH f6;clear f6 j7 hb f9 f7 j5;obtain⟨h6,⟨g3,g4,d6,g5,g6⟩,p6⟩:=g;simp only at*
 have p2:¬(p=w.heap.size):=oM;have p3:¬(p=w.heap.size+1):=oM;have p4:¬(p=w.heap.size+1+1):=oM;have p5:¬(p=w.heap.size+1+1+1):=oM;go_enter Tryz.func52,Tryz.ntmps52;go_wp2_with fail;obtain⟨b0,d4⟩:=eX ((((w.alloc (.cells #[pT p] 150)).alloc (.cells #[uI now] 30)).alloc (.cells #[jI 0,jI 0,uI 0,bV false] 74)).alloc (.cells jK 92));rw[<-d4];have d3:Loc b0 p w.heap.size (w.heap.size+1) (w.heap.size+1+1) (w.heap.size+1+1+1) now:=by
  rw[d4];exact⟨(((Wx _ _ _).alloc _).alloc _).alloc _,((Blk.qN _ _ _ _).alloc _).alloc _,(Blk.IV _ _ _ _ _).alloc _,Blk.IU _ _ _ _ _ _⟩
 (have a3:bW w b0:=by rw[d4];exact BEL);have j1:=f8.below a3 m3;obtain⟨A,e8⟩:=eX w.heap.size;obtain⟨M,e9⟩:=eX (w.heap.size+1);obtain⟨o,f0⟩:=eX (w.heap.size+1+1);obtain⟨q,f1⟩:=eX (w.heap.size+1+1+1);rw[<-f1,<-f0,<-e9,<-e8];rw[<-f1,<-f0,<-e9,<-e8]at d3;(have j0:∀k,S k->k≠A/\k≠M/\k≠o/\k≠q:=λk V=>by have:=d2 k V;omega);have b6:=zH j0;have j9:Mod S gtT w b0:=aH a3;have j:=zH j9;have g8:=zH a3;have m:=zH (h3.out.below a3);have r:=zH (h1.out.below a3);have h0:=zH (aD g9.out a3);have p9:w.heap.size<=o:=oM;have q0:w.heap.size<=q:=oM;have d7:¬(o=q):=oM;have d8:¬(q=o):=oM;have o6:¬(p=A):=oM;have o7:¬(p=M):=oM;have o8:¬(p=o):=oM;have o9:¬(p=q):=oM;have d:=zH d3;have e:=zH j1;have Y:=d3.h4.Wu 0;have t9:w.heap.size<=A:=oM;have v0:w.heap.size<=M:=oM;clear d3 j1 a3 j9 j0 h3 h1 g9 f8 p2 p3 p4 p5 d4 e8 e9 f0 f1;cases p6 with
 |true=>exact Wy l9.out dC
 |false=>
  refine(pV ⟨p,6,none⟩ false b0 (e.out.cell 6)).mono ?_;rintro a0 q1 ⟨rfl,a6⟩;obtain rfl:b0=q1:=a6.symm;go_wp2_with fail;refine(wV h5 a c b b0 h0.out m1 m2).mono ?_;rintro a0 a7 ⟨K,N,L,O,rfl,j4,b3⟩;have n:=zH (j4.mono (S':=λk=>w.heap.size<=k) (λk V=>ay g8.out.size V.1));replace d:=zH (d.out.below b3);replace e:=zH (e.out.below b3 e.out.lt);replace j:=zH (j.out.trans (aH b3));replace m:=zH (m.out.below b3);replace r:=zH (r.out.below b3);clear j4 b3 Y h0 g8;have Y:=d.out.h4.Wu 0;have c5:A<a7.heap.size:=d.out.h4.lt;have m4:p<a7.heap.size:=e.out.lt;have W:=zH (h4.out.trans (wJ l b now rfl));by_cases e4:(jy b).err=0
  ·generalize jy b=k6 at*
   obtain⟨⟨E,C,F,H,D⟩,r9⟩:=k6;simp only at e4 i7 f5 d1 n W|-;subst e4;have a5:=W.out;unfold zN at a5;rw[Ww sM]at a5;simp only at a5;have m5:w.heap.size<=a7.heap.size:=j.out.size;have c6:=d.out.h4.lt;have c7:=d.out.h7.lt;have c8:=d.out.h8.lt;have c9:=d.out.h9.lt;go_wp2_with fail;obtain⟨e0,d5⟩:=eX (a7.alloc (.cells #[.slice K E.length N,.slice L C.length O,uI F,uI H,bV D] 92));rw[<-d5];(have a4:bW a7 e0:=by rw[d5];exact BEL);(have f2:Blk e0 a7.heap.size 92 #[.slice K E.length N,.slice L C.length O,uI F,uI H,bV D]:=by rw[d5];exact Wx _ _ _);obtain⟨y,i0⟩:=eX a7.heap.size;rw[<-i0]at f2|-;have t2:¬(p=y):=oM;have s4:¬(A=y):=oM;have s7:¬(M=y):=oM;have n8:¬(o=y):=oM;have o2:¬(q=y):=oM;have t6:w.heap.size<=y:=oM;(have r4:¬S y:=λh=>by have:=d2 _ h;omega);have f:=zH f2;replace d:=zH (d.out.below a4);replace e:=zH (e.out.below a4 e.out.lt);replace j:=zH (j.out.trans (aH a4));replace m:=zH (m.out.below a4);replace r:=zH (r.out.below a4);replace n:=zH (n.out.below a4);clear f2 a4 d5 i0 Y c5 W h4 c6 c7 c8 c9;refine(Ch S _ b4 l K N L O ⟨E,C,F,H,D⟩ e0 m.out g0 n.out).mono ?_;rintro a0 R ⟨rfl,T⟩;replace d:=zH (d.out.below T);replace e:=zH (e.out.below T e.out.lt);replace j:=zH (j.out.trans (aH T));replace m:=zH (m.out.below T);replace r:=zH (r.out.below T);replace n:=zH (n.out.below T);replace f:=zH (f.out.below T f.out.lt);clear T;generalize jW l ⟨E,C,F,H,D⟩=l0 at*
   obtain⟨J,n0⟩:=l0;simp only at a5 f5 d1|-;have Y:=d.out.h4.Wu 0;have c5:A<R.heap.size:=d.out.h4.lt;have m8:y<R.heap.size:=f.out.lt;have c6:=d.out.h4.lt;have c7:=d.out.h7.lt;have c8:=d.out.h8.lt;have c9:=d.out.h9.lt;have m6:w.heap.size<=R.heap.size:=j.out.size;by_cases h9:n0=0
   ·subst h9
    rw[Ww sM]at a5;have W:=zH a5;clear a5;go_wp2_with fail;obtain⟨X,c3⟩:=eX ((R.alloc (.cells #[uI J] 30)).alloc (.cells #[jI 0] 3));rw[<-c3];(have U:bW R X:=by rw[c3];exact BEL);(have f3:Blk X R.heap.size 30 #[uI J]:=by rw[c3];exact(Wx _ _ _).alloc _);(have b2:Blk X (R.heap.size+1) 3 #[jI 0]:=by rw[c3];exact Blk.qN _ _ _ _);obtain⟨z,e5⟩:=eX R.heap.size;obtain⟨s,e6⟩:=eX (R.heap.size+1);rw[<-e6,<-e5];rw[<-e5]at f3;rw[<-e6]at b2;have s5:¬(A=z):=oM;have n4:¬(A=s):=oM;have s8:¬(M=z):=oM;have n6:¬(M=s):=oM;have n9:¬(o=z):=oM;have o0:¬(o=s):=oM;have o3:¬(q=z):=oM;have o4:¬(q=s):=oM;have s1:¬(y=z):=oM;have s2:¬(y=s):=oM;have s3:¬(z=s):=oM;have t3:¬(p=z):=oM;have t4:¬(p=s):=oM;have t7:w.heap.size<=z:=oM;have p8:w.heap.size<=s:=oM;(have r5:¬S z:=λh=>by have:=d2 _ h;omega);(have r6:¬S s:=λh=>by have:=d2 _ h;omega);have u:=zH f3;have x:=zH b2;replace d:=zH (d.out.below U);replace e:=zH (e.out.below U e.out.lt);replace j:=zH (j.out.trans (aH U));replace m:=zH (m.out.below U);replace r:=zH (r.out.below U);replace n:=zH (n.out.below U);replace f:=zH (f.out.below U f.out.lt);clear f3 b2 U c3 e5 e6 Y c5 m8 c6 c7 c8 c9 m6;have n5:¬S A:=λh=>(b6.out _ h).1 rfl;have n7:¬S M:=λh=>(b6.out _ h).2.1 rfl;have o1:¬S o:=λh=>(b6.out _ h).2.2.1 rfl;have o5:¬S q:=λh=>(b6.out _ h).2.2.2 rfl;clear a6 m4 m5 b6;have l7:=u.out.Wu 0;have e2:=x.out.Wu 0;have m9:z<X.heap.size:=u.out.lt;have g1:s<X.heap.size:=x.out.lt;go_wp2_with fail;refine(IZ S b4 l J X m.out g0).mono ?_;rintro a0 k4 ⟨⟨r7,rfl⟩,j8,B⟩;have B:Mod S [some 236,some 177] X k4:=B;replace d:=zH (d.out.out B n5 n7 o1 o5);replace e:=zH (e.out.mod B dC);replace f:=zH (f.out.mod B dC);replace u:=zH (u.out.mod B dC);replace x:=zH (x.out.mod B dC);replace n:=zH (n.out.keep (B.aM (ts:=[some 272]) dC) sM);replace r:=zH (r.out.keep (B.aM (ts:=[some 314,some 30]) dC) sM sM);replace j:=zH (j.out.trans (B.mono (λ_ _ h=>h) (by simp[gtT])));replace m:=zH j8;clear j8 B l7 e2 m9 g1;have k7:=zH (yS g0 J);generalize lX l J=g2 at*
    have l2:=f.out.Wu 0;have l3:=f.out.Wu 1;have l4:=f.out.Wu 2;have l5:=f.out.Wu 3;have l6:=f.out.Wu 4;go_wp2_with fail;refine(Ah S _ b4 g2 K N L O ⟨E,C,F,H,D⟩ k4 m.out k7.out n.out).mono ?_;rintro a0 G ⟨rfl,I⟩;replace d:=zH (d.out.below I);replace e:=zH (e.out.below I e.out.lt);replace j:=zH (j.out.trans (aH I));replace m:=zH (m.out.below I);replace r:=zH (r.out.below I);replace n:=zH (n.out.below I);replace f:=zH (f.out.below I f.out.lt);replace u:=zH (u.out.below I u.out.lt);replace x:=zH (x.out.below I x.out.lt);clear I l2 l3 l4 l5 l6;generalize kL g2 ⟨E,C,F,H,D⟩=k5 at*
    obtain⟨Z,e3⟩:=k5;simp only at W|-;obtain⟨e2,l8⟩:=x.out.cz 0;have g1:s<G.heap.size:=x.out.lt;have m7:w.heap.size<=G.heap.size:=j.out.size;have c6:=d.out.h4.lt;have c7:=d.out.h7.lt;have c8:=d.out.h8.lt;have c9:=d.out.h9.lt;have n1:=f.out.lt;have n2:=u.out.lt;have n3:=e.out.lt;have Y:=d.out.h4.Wu 0;have c5:A<G.heap.size:=d.out.h4.lt;(have r8:(Z !=0)=false:=by have h:Z=0:=d1.out;simp[h]);go_wp2_with fail;obtain⟨d0,c4⟩:=eX ((G.setCell ⟨s,0,none⟩ (jI Z)).alloc (.cells #[uI e3] 30));rw[<-c4];(have P:Mod (λk=>k=s) [some 3] G d0:=by rw[c4];exact((aV (λk=>k=s) [some 3] G).setCell x.out (λ_=>rfl) sM 0 _).alloc _);(have k1:(G.setCell ⟨s,0,none⟩ (jI Z)).heap.size=G.heap.size:=by simp[World.setCell]);(have f4:Blk d0 G.heap.size 30 #[uI e3]:=by have h:=Wx (G.setCell ⟨s,0,none⟩ (jI Z)) 30 #[uI e3];rw[k1]at h;rw[c4];exact h);(have b2:Blk d0 s 3 #[jI Z]:=by rw[c4];exact(x.out.bF 0 _).alloc _);obtain⟨b1,e7⟩:=eX G.heap.size;rw[<-e7];rw[<-e7]at f4;have s6:¬(A=b1):=oM;have s9:¬(M=b1):=oM;have t0:¬(o=b1):=oM;have t1:¬(q=b1):=oM;have t5:¬(p=b1):=oM;have t8:w.heap.size<=b1:=oM;replace d:=zH (d.out.out P n4 n6 o0 o4);replace e:=zH (e.out.mod P dC);replace f:=zH (f.out.mod P dC);replace u:=zH (u.out.mod P dC);replace x:=zH b2;have g7:=zH f4;replace n:=zH (n.out.keep (P.aM (ts:=[some 272]) dC) sM);replace r:=zH (r.out.keep (P.aM (ts:=[some 314,some 30]) dC) sM sM);replace m:=zH (m.out.keep (P.aM (ts:=[some 236,some 177]) dC) sM sM);replace j:=zH (j.out.nA P (λk V=>by subst V;exact p8));clear P k1 f4 b2 c4 e7 e2 l8 g1 m7 c6 c7 c8 c9 n1 n2 n3 Y c5;have k8:Hid (l1=⟨⟨2,0,J,false⟩,⟨E,C,F,H,D⟩,⟨h6,⟨g3,g4,d6+1,g5,g6⟩,false⟩,g2⟩):=zH (by rw[W.out,Ww (by have h:Z=0:=d1.out;simp[h])]);clear W;refine(uX ⟨p,3,none⟩ d6 _ j6.c0 (by have:=j6.c1;simp only at this;omega) (e.out.cell 3) (e.out.frozen 3)).mono ?_;rintro a0 b7 ⟨rfl,a6⟩;(have Q:Mod S [some 256] d0 b7:=by rw[a6];exact(aV _ _ _).setCell (e.out) (λ_=>j3) sM 3 _);replace j:=zH (j.out.trans (Q.mono (λ_ _ h=>h) (by simp[gtT])));(have j2:Blk b7 p 256 #[pT p7,uI g3,uI g4,uI (d6+1),uI g5,uI g6,.int .u32 (b32 false),.int .u32 (b32 false),.int .i32 0,q2,q3,q4,q5,q6,q7,q8,q9,r0,r1]:=by rw[a6];exact e.out.bF 3 _);replace d:=zH (show Loc b7 p A M o q now by rw[a6];exact d.out.bF 3 _ (Ne.symm o6) (Ne.symm o7) (Ne.symm o8) (Ne.symm o9));replace m:=zH (m.out.keep (Q.aM (ts:=[some 236,some 177]) dC) sM sM);replace r:=zH (r.out.keep (Q.aM (ts:=[some 314,some 30]) dC) sM sM);replace e:=zH j2;replace f:=zH (f.out.mod Q dC);replace u:=zH (u.out.mod Q dC);replace x:=zH (x.out.mod Q dC);replace g7:=zH (g7.out.mod Q dC);replace n:=zH (n.out.keep (Q.aM (ts:=[some 272]) dC) sM);clear Q j2 a6;go_wp2_with fail;rename_i r3 e1;have h2:=zH e1;clear e1;have a8:=zH d.out.h8;have a9:=zH d.out.h9;have k2:y≠o:=λh=>n8 h.symm;have p0:y≠q:=λh=>o2 h.symm;have k3:z≠o:=λh=>n9 h.symm;have p1:z≠q:=λh=>o3 h.symm;refine wp_region_noPanic ?_;refine aZ (S:=(λb5=>(∃h7,Blk b5 o 74 h7/\h7.size=4)/\(∃h8,Blk b5 q 92 h8/\h8.size=5)/\Blk b5 y 92 #[.slice K E.length N,.slice L C.length O,uI F,uI H,bV D]/\Blk b5 z 30 #[uI J])) kR ⟨⟨_,a8.out.drew,rfl⟩,⟨_,a9.out.drew,rfl⟩,f.out.drew,u.out.drew⟩ (λm0=>?_);refine wpAnyH_take (i:=0) (v:=?_) rfl kR kR kR (λ_ _ _ h=>h) (Or.inl ⟨by rfl,?_⟩) (by assumption) ?_;rotate_left
    (·(intro w b9;obtain⟨⟨_,_,_⟩,⟨_,_,_⟩,t,b8⟩:=b9;have i1:=t.Wu 0;have i2:=t.Wu 1;have i3:=t.Wu 2;have i4:=t.Wu 3;have i5:=t.Wu 4;have i6:=b8.Wu 0;exact gS));refine mP ?_;refine wpAnyH_take (i:=1) (v:=?_) rfl kR kR kR (λ_ _ _ h=>h) (Or.inl ⟨by rfl,?_⟩) (by assumption) ?_;rotate_left
    (·(intro w b9;obtain⟨⟨_,_,_⟩,⟨_,_,_⟩,t,b8⟩:=b9;have i1:=t.Wu 0;have i2:=t.Wu 1;have i3:=t.Wu 2;have i4:=t.Wu 3;have i5:=t.Wu 4;have i6:=b8.Wu 0;exact gS));refine mP ?_;refine wpAnyH_take (i:=2) (v:=?_) rfl kR kR kR (λ_ _ _ h=>h) (Or.inl ⟨by rfl,?_⟩) (by assumption) ?_;rotate_left
    (·(intro w b9;obtain⟨⟨_,_,_⟩,⟨_,_,_⟩,t,b8⟩:=b9;have i1:=t.Wu 0;have i2:=t.Wu 1;have i3:=t.Wu 2;have i4:=t.Wu 3;have i5:=t.Wu 4;have i6:=b8.Wu 0;exact gS));refine mP ?_;refine oC (i:=3) 74 (.tmp 8) (.tmp 104) o 0 #[jI 2,jI 0,uI J,bV false] rfl kR kR kR kR kR kR (a8.out.drew.there _ sM) kR (by simp[Value.oneCell']) ⟨⟨_,a8.out.drew.Ik,rfl⟩,⟨_,Blk.gy d8 _ _ _ a9.out.drew,rfl⟩,Blk.gy k2 _ _ _ (f.out.drew),Blk.gy k3 _ _ _ (u.out.drew)⟩ ?_;refine oC (i:=4) 92 (.tmp 9) (.tmp 105) q 0 #[.slice K E.length N,.slice L C.length O,uI F,uI H,bV D] rfl kR kR kR kR kR kR (Blk.there (Blk.gy d8 _ _ _ a9.out.drew) _ sM) kR (by simp[Value.oneCell']) ⟨⟨_,Blk.gy d7 _ _ _ a8.out.drew.Ik,rfl⟩,⟨_,(Blk.gy d8 _ _ _ a9.out.drew).set5,rfl⟩,Blk.gy p0 _ _ _ (Blk.gy k2 _ _ _ (f.out.drew)),Blk.gy p1 _ _ _ (Blk.gy k3 _ _ _ (u.out.drew))⟩ ?_;refine bg kR ?_ _;refine NoPanic.normal ?_;have e1:=h2.out;clear h2;obtain⟨d9,c0⟩:=eX ((b7.drew.setCells o 0 [jI 2,jI 0,uI J,bV false]).setCells q 0 [.slice K E.length N,.slice L C.length O,uI F,uI H,bV D]);(try simp only[List.toList_toArray]);rw[<-c0];(have k0:St9 (λk=>w.heap.size<=k) b7.drew d9 o q:=by rw[c0];exact(St9.c8 ⟨aV _ _ _,⟨_,a8.out.drew⟩,⟨_,a9.out.drew⟩⟩ d7 p9 _).c9 d7 q0 _);(have i8:Blk d9 o 74 #[jI 2,jI 0,uI J,bV false]:=by rw[c0];exact Blk.gy d7 _ _ _ a8.out.drew.Ik);(have i9:Blk d9 q 92 #[.slice K E.length N,.slice L C.length O,uI F,uI H,bV D]:=by rw[c0];exact(Blk.gy d8 _ _ _ a9.out.drew).set5);have k9:=zH k0;obtain⟨v1,v5,v2,v6,v3,v7,v4,v8⟩:=i8.c4;obtain⟨v9,w4,w0,w5,w1,w6,w2,w7,w3,w8⟩:=i9.c5;clear k0 i8 i9 c0 m0;refine mV ?_;rw[k8.out];exact GD (a1:=K) (c1:=N) (a2:=L) (c2:=O) k9.out (mI.bF (g:=⟨h6,⟨g3,g4,d6+1,g5,g6⟩,false⟩) e.out.drew (r.out.below (bA (aj _ _))) j3 rfl rfl rfl rfl rfl) (m.out.below (bA (aj _ _))) (λk V=>.inl V) j.out.drew (n.out.below (bA (aj _ _))).lt_ rfl
   ·exact Wy f5.out h9
  ·exact Wy i7.out e4
def atI (k:List Int) (i:Nat):Int:=k.getD i 0
def U32 (k:List Int):Prop:=∀a∈k,0<=a/\a<4294967296
theorem LA {k:List Int} (h:U32 k) (i:Nat):0<=atI k i/\atI k i<4294967296:=by
 unfold atI;by_cases a:i<k.length
 ·rw[getD_at a];exact h _ (aN a)
 ·rw[aW,List.getElem?_eq_none oM];exact⟨dC,dC⟩
def fV (k:List Int):Cf where
 mss:=1+atI k 0%40
 bn:=2*(1+atI k 0%40)+atI k 1%50
 jD:=2*(1+atI k 0%40)+atI k 1%50+atI k 2%100
 most:=2*(1+atI k 0%40)+atI k 1%50+atI k 2%100+atI k 3%400
 bits:=if atI k 4%4=1 then 1+atI k 4/4%64 else 64
 one:=if 0<atI k 5%4 then 2+atI k 5/4%30 else 0
 ring:=4+atI k 6%40
 dO:=if atI k 7%4=1 then atI k 7/4%60 else 4611686018427387903
 room:=1+atI k 8%300
 pX:=1+atI k 9%2
 first:=1+atI k 10%200000
 jc:=1+atI k 11%2000
 cap:=1+atI k 11%2000+atI k 12%400000
 gD:=1+atI k 0%40+atI k 13%400
 WL:=1+atI k 14%100000
 bE:=atI k 15%5
 every:=1+atI k 16%100000
theorem CS {k:List Int} (h:U32 k):lV (fV k)where
 bits0:=by simp only[fV];split<;>omega
 bits1:=by simp only[fV];split<;>omega
 one:=by
  have a:=(LA h 5).1;simp only[fV];split<;>exact⟨oM,oM⟩
 one1:=by
  have a:=(LA h 5).1;simp only[fV,beq_eq_false_iff_ne];split<;>omega
 wZ:=by simp only[fV];omega
 lW:=by simp only[fV];omega
 limit0:=by simp only[fV];split<;>omega
 mh:=by simp only[fV];split<;>omega
 Af:=by simp only[fV];omega
 qC:=by simp only[fV];omega
 Gj:=by simp only[fV];omega
 Ca:=by simp only[fV];omega
 zM:=by simp only[fV];omega
 Mg:=by simp only[fV];omega
 Mf:=by simp only[fV];omega
 most:=by simp only[fV];omega
 pX:=by simp only[fV];omega
 KY:=by simp only[fV];omega
 Xv:=by simp only[fV];omega
 KW:=by simp only[fV];omega
 QG:=by simp only[fV];omega
 cap0:=by simp only[fV];omega
 cap1:=by simp only[fV];omega
 Rh:=by simp only[fV];omega
 Rf:=by simp only[fV];omega
 Ie:=by simp only[fV];omega
 BA:=by simp only[fV];omega
 chal0:=by simp only[fV];omega
 chal1:=by simp only[fV];omega
 QM:=by simp only[fV];omega
 XB:=by simp only[fV];omega
def yj:List Int:=[9,0,0,0,0,0,0,0,99,0,99,0,5000,50]
def aliveW:Wo:=Bc (mO (fV yj) [] [] [] 0) ⟨1,0,[97,98,99]⟩
def Db:Rw:=zz aliveW ⟨2,7,[]⟩
theorem Rv:Db.aS.fG=0/\Db.aS.dh.fI=1/\Db.qm=3/\Db.aS.bK=7:=by decide+kernel
def co1 (s:Se):Int:=if s.aS=1 then s.len else 0
def flS:List Se->Int
 |[]=>0
 |s::t=>co1 s+flS t
theorem Lr {s:Se} (a:0<=s.len):0<=co1 s/\co1 s<=s.len:=by unfold co1;split<;>omega
theorem xW:∀(b:List Se),(∀a∈b,0<=a.len)->0<=flS b
 |[],_=>bY 0
 |a::t,h=>by
  have e:=Lr (h a sM);have f:=xW t (λd c=>h d (by simp[c]));unfold flS;omega
theorem GG {m:Int}:∀(b:List Se),(∀a∈b,0<=a.len/\a.len<=m)->flS b<=b.length*m
 |[],_=>by simp[flS]
 |a::t,h=>by
  have c:=h a sM;have f:=Lr c.1;have g:=GG t (λe d=>h e (by simp[d]));(have i:((t.length+1:Nat):Int)*m=t.length*m+m:=by rw[Int.natCast_add,Int.add_mul];simp);unfold flS;rw[aY];omega
theorem Jw (s:Se) (t:List Se):flS (s::t)=co1 s+flS t:=rfl
theorem Aw:∀(d:List Se) (b:Int),(∀a∈d,0<=a.len)->b+flS d<18446744073709551616->iT b d=b+flS d
 |[],b,_,_=>by simp[iT,flS]
 |a::t,b,h,hn=>by
  have k:=xW t (λg f=>h g (by simp[f]));have j:=Lr (h a sM);rw[Jw]at hn;have i:(if a.aS=1 then WI b a.len else b)=b+co1 a:=by
   by_cases c:a.aS=1
   ·have e:co1 a=a.len:=by unfold co1;rw[aB c]
    rw[aB c,e];unfold WI;rw[aB oM]
   ·have e:co1 a=0:=by unfold co1;rw[Ww c]
    rw[Ww c,e];omega
  unfold iT;rw[i,Aw t (b+co1 a) (λg f=>h g (by simp[f])) oM,Jw];omega
theorem gM.yQ {l:Le} (h:gM l):∀a∈l.kept,0<=a.len:=λa b=>(h.ok a b).yQ
theorem Jg {l:Le} (h:gM l):gq l=flS l.kept:=by
 have c:=GG (m:=1500) l.kept (λb a=>⟨(h.ok b a).yQ,(h.ok b a).Dr⟩);have d:=h.len;have e:=h.lW;unfold gq;rw[Aw l.kept 0 h.yQ oM];omega
theorem MQ {g:Gu} {l:Le} {b:List Int} {now:Int} (hb:dP b):(dN g l b now).ack.cu.length<=1000/\Word ((dN g l b now).ack.cu.getLastD ⟨0,0⟩).hi:=by
 rcases Ct g l b now with a|a<;>rw[a]
 ·exact⟨dC,⟨dC,dC⟩⟩
 ·have:=xY b hb
  exact⟨oM,Cu this.2⟩
theorem RD {k:Nat} {e:En} {b:List Int} (h:dG k e):dG (k+1) (sx (dN e.gu e.led b e.now).gu e.told (if(dN e.gu e.led b e.now).ver.dU=true then e.cO+1 else e.cO) {e with led:=(dN e.gu e.led b e.now).led}):=by
 have i:=h.mono (Nat.le_succ k);have d:=EN (b:=b) h.gu h.le h.now;have g:=h.rO;have m:=h.ni;have f:∀b:Bool,0<=(if b=true then e.cO+1 else e.cO)/\(if b=true then e.cO+1 else e.cO)<=((k+1:Nat):Int):=by
  intro b;cases b
  ·exact⟨by simpa using g,by simp;omega⟩
  ·exact⟨by simp;omega,by simp;omega⟩
 have a:(dN e.gu e.led b e.now).led.ring=e.c.ring/\(dN e.gu e.led b e.now).led.dO=e.c.dO/\∀l∈(dN e.gu e.led b e.now).led.kept,l.len<=e.c.mss:=by
  rcases Cr e.gu e.led b e.now with c|⟨j,c⟩<;>rw[c]
  ·exact⟨h.lr,h.ll,h.lm⟩
  ·have:=Ci e.led j
   exact⟨this.1.trans h.lr,this.2.1.trans h.ll,EE h.lm⟩
 exact{i with gu:=d.1,le:=d.2,lr:=a.1,ll:=a.2.1,lm:=a.2.2,rO:=(f _).1,ni:=(f _).2}
theorem toB {w w':World} (h:w=w'):bW w w':=h▸aj _ _
theorem toD {w w':World} (h:∃a,w'=w.drewN a):bW w w':=by obtain⟨a,rfl⟩:=h;exact aA (aj _ _) a
theorem Ld (e:En):cK e=⟨e.aS,e.now,e.cc.win.cr,e.cc.win.dL,gq e.led,iI e,if lq e then 18446744073709551615 else vL [e.gU,jJ e],e.led.next,gT e.led,fT e.dH -e.dH.base,e.fM.gP,e.gu.n⟩:=rfl
theorem CB (k:Nat) (S:Nat->Prop) (p:Nat) (e:En) (w:World) (h:eB w S p e) (N:dG k e):
  Calls Tryz.prog 24 #[pT p] w λC g=>C=.returned (.agg #[jI (cK e).aS,uI (cK e).now,uI (cK e).cr,uI (cK e).dL,uI (cK e).jS,uI (cK e).bK,uI (cK e).gU,uI (cK e).next,uI (cK e).low,uI (cK e).fG,uI (cK e).gP,uI (cK e).dh.dB,uI (cK e).dh.eT,uI (cK e).dh.fI,uI (cK e).dh.bE,uI (cK e).dh.late])/\bW w g:=by
 have i7:=h.lt;(have i9:0<=fT e.dH -e.dH.base/\fT e.dH -e.dH.base<18446744073709551616:=by have e2:=N.qu;have i2:=N.qr;have:=e2.len;have:=e2.qC;unfold fT;omega);obtain⟨i1,b3⟩:=eX (cK e);rw[<-b3];rw[Ld]at b3;have h5:¬(p=w.heap.size):=oM;have d4:=zH h;have d6:=zH N;clear h N;go_enter Tryz.func24,Tryz.ntmps24;go_wp2_with fail;generalize c7:w.alloc (.cells #[jI 0,uI 0,uI 0,uI 0,uI 0,uI 0,uI 0,uI 0,uI 0,uI 0,uI 0,uI 0,uI 0,uI 0,uI 0,uI 0] 38)=f;(have c9:bW w f:=by rw[<-c7];exact BEL);(have c3:Blk f w.heap.size 38 #[jI 0,uI 0,uI 0,uI 0,uI 0,uI 0,uI 0,uI 0,uI 0,uI 0,uI 0,uI 0,uI 0,uI 0,uI 0,uI 0]:=by rw[<-c7];exact Wx _ _ _);obtain⟨W,e1⟩:=eX w.heap.size;have f0:w.heap.size<=W:=oM;rw[<-e1]at c3 h5|-;have a7:=d4.out.below c9;have N:=d6.out;obtain⟨j2,a0,Q,d3,c,h1,c6,b2,e3⟩:=a7.ex;have g4:=c.Wu 18;have g3:=c.Wu 17;have g6:=c.Wu 30;have g7:=c.Wu 31;have c2:=c.Wu 21;have d9:=c.Wu 20;have g8:=c.Wu 41;have g5:=c.Wu 22;have J:=c.lt;have f4:=zH (λg (c:bW f g)=>vB S Q e.led g (b2.below c) N.le);have g0:=zH (λg (c:bW f g)=>(xJ S p e g (a7.below c)).mono (R':=λC K=>C=.returned (uI (iI e))/\bW g K) (λC K h=>⟨h.1,by first|exact toB h.2|exact toB h.2.symm|exact toD h.2⟩));have f6:=zH (λg (c:bW f g)=>(pK S Q e.led g (b2.below c)).mono (R':=λC K=>C=.returned (uI (e.led.next))/\bW g K) (λC K h=>⟨h.1,by first|exact toB h.2|exact toB h.2.symm|exact toD h.2⟩));have f5:=zH (λg (c:bW f g)=>(qY S Q e.led g (b2.below c) N.le).mono (R':=λC K=>C=.returned (uI (gT e.led))/\bW g K) (λC K h=>⟨h.1,by first|exact toB h.2|exact toB h.2.symm|exact toD h.2⟩));have f9:=zH (λg (c:bW f g)=>(Xe S a0 e.dH g (c6.below c) N.qu).mono (R':=λC K=>C=.returned (uI (fT e.dH))/\bW g K) (λC K h=>⟨h.1,by first|exact toB h.2|exact toB h.2.symm|exact toD h.2⟩));have f8:=zH (λg (c:bW f g)=>(Eh S a0 e.dH g (c6.below c)).mono (R':=λC K=>C=.returned (uI (e.dH.base))/\bW g K) (λC K h=>⟨h.1,by first|exact toB h.2|exact toB h.2.symm|exact toD h.2⟩));have f2:=zH (λg (c:bW f g)=>Js S d3 e.gu g (GuW.gu (e3.below c)));have f7:=zH (λg (c:bW f g)=>sP S p e g (a7.below c));have f3:=zH (λg (c:bW f g)=>xx k S p e g (a7.below c) N);have e0:=c.Wu 42;generalize jJ e=a4 at*
 generalize lq e=h6 at*
 generalize iI e=E at*
 generalize fT e.dH=t at*
 generalize e.dH.base=s at*
 generalize gq e.led=y at*
 generalize gT e.led=z at*
 generalize e.led.next=B at*
 generalize e.gU=a1 at*
 generalize e.fM.gP=D at*
 generalize e.cc.win.cr=x at*
 generalize e.cc.win.dL=H at*
 generalize e.now=A at*
 generalize e.aS=G at*
 generalize e.gu.n=a at*
 have a9:=zH c3;have b0:=zH c9;have d7:=zH b3;clear b3 c7 c9 c3 a7 N c h1 c6 b2 e3 d4 d6 e1;have g1:=zH (show IntKind.u64.wrap (t -s)=t -s from by simp[IntKind.wrap,IntKind.bits,IntKind.signed];omega);refine' Ip (F:=_) (λT R=>bW f R/\Blk R T 38 #[jI G,uI A,uI x,uI H,uI y,uI E,uI 18446744073709551615,uI B,uI z,uI (t -s),uI D,uI a.dB,uI a.eT,uI a.fI,uI a.bE,uI a.late]/\f.heap.size<=T) ?tl (λg2=>?mn);case mn=>
  refine aZ (S:=λg=>bW f g) kR (bA (aj _ _)) (λc5=>?_);clear c5;have d:bW f f.drew:=bA (aj _ _);refine tK 0 7 d ?_;refine tK 1 8 d ?_;refine tK 2 9 d ?_;refine tk 3 (some 10) d (hy:=by intro w m;have r:bW f w:=m;have M:w.cell? ⟨p,18,none⟩=some (jI G):=(r.cell (p:=⟨p,18,none⟩) J).trans g4;exact gS) (h:=?_);refine nrm 61 15 ?_;refine tK 4 11 d ?_;refine tK 5 12 d ?_;refine tK 6 13 d ?_;refine tk 7 (some 14) d (hy:=by intro w m;have r:bW f w:=m;have M:w.cell? ⟨p,17,none⟩=some (uI A):=(r.cell (p:=⟨p,17,none⟩) J).trans g3;exact gS) (h:=?_);refine nrm 61 255 ?_;refine tK 8 15 d ?_;refine tK 9 16 d ?_;refine tK 10 17 d ?_;refine tK 11 18 d ?_;refine nrm 61 4095 ?_;refine tK 12 19 d ?_;refine tk 13 (some 20) d (hy:=by intro w m;have r:bW f w:=m;have M:w.cell? ⟨p,30,none⟩=some (uI x):=(r.cell (p:=⟨p,30,none⟩) J).trans g6;exact gS) (h:=?_);refine tK 14 21 d ?_;refine tK 15 22 d ?_;refine nrm 61 65535 ?_;refine tK 16 23 d ?_;refine tK 17 24 d ?_;refine tK 18 25 d ?_;refine tk 19 (some 26) d (hy:=by intro w m;have r:bW f w:=m;have M:w.cell? ⟨p,31,none⟩=some (uI H):=(r.cell (p:=⟨p,31,none⟩) J).trans g7;exact gS) (h:=?_);refine nrm 61 1048575 ?_;refine tK 20 27 d ?_;refine tK 21 28 d ?_;refine tK 22 29 d ?_;refine tk 23 (some 30) d (hy:=by intro w m;have r:bW f w:=m;have M:w.cell? ⟨p,21,none⟩=some ((pT Q)):=(r.cell (p:=⟨p,21,none⟩) J).trans c2;exact gS) (h:=?_);refine nrm 61 16777215 ?_;refine tK 25 32 d ?_;refine tK 27 34 d ?_;refine tK 28 35 d ?_;refine tK 29 36 d ?_;refine nrm 61 989855743 ?_;refine tk 30 (some 37) d (hy:=by intro w m;have r:bW f w:=m;have M:w.cell? ⟨p,21,none⟩=some ((pT Q)):=(r.cell (p:=⟨p,21,none⟩) J).trans c2;exact gS) (h:=?_);refine tK 32 39 d ?_;refine tK 33 40 d ?_;refine tK 34 41 d ?_;refine nrm 61 32128368639 ?_;refine tk 35 (some 42) d (hy:=by intro w m;have r:bW f w:=m;have M:w.cell? ⟨p,21,none⟩=some ((pT Q)):=(r.cell (p:=⟨p,21,none⟩) J).trans c2;exact gS) (h:=?_);refine tK 37 44 d ?_;refine tK 38 45 d ?_;refine tK 39 46 d ?_;refine nrm 61 1028560781311 ?_;refine tk 40 (some 47) d (hy:=by intro w m;have r:bW f w:=m;have M:w.cell? ⟨p,20,none⟩=some ((pT a0)):=(r.cell (p:=⟨p,20,none⟩) J).trans d9;exact gS) (h:=?_);refine tK 42 49 d ?_;refine tK 43 50 d ?_;refine tK 44 51 d ?_;refine nrm 61 32914397986815 ?_;refine tk 45 (some 52) d (hy:=by intro w m;have r:bW f w:=m;have M:w.cell? ⟨p,20,none⟩=some ((pT a0)):=(r.cell (p:=⟨p,20,none⟩) J).trans d9;exact gS) (h:=?_);refine tK 48 55 d ?_;refine tK 49 56 d ?_;refine tK 50 57 d ?_;refine nrm 61 2038423607050239 ?_;refine tK 51 58 d ?_;refine tk 52 (some 59) d (hy:=by intro w m;have r:bW f w:=m;have M:w.cell? ⟨p,41,none⟩=some (uI D):=(r.cell (p:=⟨p,41,none⟩) J).trans g8;exact gS) (h:=?_);refine tK 53 60 d ?_;refine tK 54 61 d ?_;refine nrm 61 35815420812328959 ?_;refine tK 55 62 d ?_;refine tk 56 (some 63) d (hy:=by intro w m;have r:bW f w:=m;have M:w.cell? ⟨p,22,none⟩=some ((pT d3)):=(r.cell (p:=⟨p,22,none⟩) J).trans g5;exact gS) (h:=?_);refine nrm 61 143901811869220863 ?_;have b:=d;(all_goals first|(have I:=c;clear I;refine aI 24 kR ?_)|(refine fo 24 59 kR ?_ ?_;rotate_left;refine fA (op:=_) rfl kR (some 3) kR 38 kR #[jI 0,uI 0,uI 0,uI 0,uI 0,uI 0,uI 0,uI 0,uI 0,uI 0,uI 0,uI 0,uI 0,uI 0,uI 0,uI 0] kR ?_;intro u L o q c;have O:f.heap.size<=u:=ay b.size q;replace b:=b.trans (o.mono b.size);refine⟨b,?_⟩;clear o q;try simp only[aP];refine aI 24 kR ?_));all_goals
   refine WE (op:=_) rfl kR (some 31) kR 68 #[pT Q] kR ((f4.out _ b).mono ?_);rintro e L j;have l:=j.2;(try replace c:=c.below l c.lt);replace b:=b.trans (l.mono b.size);refine⟨uI y,j.1,b,?_⟩;clear j l;refine mP ?_
  (all_goals first|(have I:=c;clear I;refine aI 26 kR ?_)|(refine fo 26 59 kR ?_ ?_;rotate_left;refine fA (op:=_) rfl kR (some 3) kR 38 kR #[jI 0,uI 0,uI 0,uI 0,uI 0,uI 0,uI 0,uI 0,uI 0,uI 0,uI 0,uI 0,uI 0,uI 0,uI 0,uI 0] kR ?_;intro u L o q c;have O:f.heap.size<=u:=ay b.size q;replace b:=b.trans (o.mono b.size);refine⟨b,?_⟩;clear o q;try simp only[aP];refine aI 26 kR ?_));all_goals
   refine WE (op:=_) rfl kR (some 33) kR 69 #[pT p] kR ((g0.out _ b).mono ?_);rintro e L j;have l:=j.2;(try replace c:=c.below l c.lt);replace b:=b.trans (l.mono b.size);refine⟨uI E,j.1,b,?_⟩;clear j l;refine mP ?_
  (all_goals first|(have I:=c;clear I;refine aI 31 kR ?_)|(refine fo 31 59 kR ?_ ?_;rotate_left;refine fA (op:=_) rfl kR (some 3) kR 38 kR #[jI 0,uI 0,uI 0,uI 0,uI 0,uI 0,uI 0,uI 0,uI 0,uI 0,uI 0,uI 0,uI 0,uI 0,uI 0,uI 0] kR ?_;intro u L o q c;have O:f.heap.size<=u:=ay b.size q;replace b:=b.trans (o.mono b.size);refine⟨b,?_⟩;clear o q;try simp only[aP];refine aI 31 kR ?_));all_goals
   refine WE (op:=_) rfl kR (some 38) kR 61 #[pT Q] kR ((f6.out _ b).mono ?_);rintro e L j;have l:=j.2;(try replace c:=c.below l c.lt);replace b:=b.trans (l.mono b.size);refine⟨uI B,j.1,b,?_⟩;clear j l;refine mP ?_
  (all_goals first|(have I:=c;clear I;refine aI 36 kR ?_)|(refine fo 36 59 kR ?_ ?_;rotate_left;refine fA (op:=_) rfl kR (some 3) kR 38 kR #[jI 0,uI 0,uI 0,uI 0,uI 0,uI 0,uI 0,uI 0,uI 0,uI 0,uI 0,uI 0,uI 0,uI 0,uI 0,uI 0] kR ?_;intro u L o q c;have O:f.heap.size<=u:=ay b.size q;replace b:=b.trans (o.mono b.size);refine⟨b,?_⟩;clear o q;try simp only[aP];refine aI 36 kR ?_));all_goals
   refine WE (op:=_) rfl kR (some 43) kR 70 #[pT Q] kR ((f5.out _ b).mono ?_);rintro e L j;have l:=j.2;(try replace c:=c.below l c.lt);replace b:=b.trans (l.mono b.size);refine⟨uI z,j.1,b,?_⟩;clear j l;refine mP ?_
  (all_goals first|(have I:=c;clear I;refine aI 41 kR ?_)|(refine fo 41 59 kR ?_ ?_;rotate_left;refine fA (op:=_) rfl kR (some 3) kR 38 kR #[jI 0,uI 0,uI 0,uI 0,uI 0,uI 0,uI 0,uI 0,uI 0,uI 0,uI 0,uI 0,uI 0,uI 0,uI 0,uI 0] kR ?_;intro u L o q c;have O:f.heap.size<=u:=ay b.size q;replace b:=b.trans (o.mono b.size);refine⟨b,?_⟩;clear o q;try simp only[aP];refine aI 41 kR ?_));all_goals
   refine WE (op:=_) rfl kR (some 48) kR 71 #[pT a0] kR ((f9.out _ b).mono ?_);rintro e L j;have l:=j.2;(try replace c:=c.below l c.lt);replace b:=b.trans (l.mono b.size);refine⟨uI t,j.1,b,?_⟩;clear j l;refine mP ?_
  (all_goals first|(have I:=c;clear I;refine aI 46 kR ?_)|(refine fo 46 59 kR ?_ ?_;rotate_left;refine fA (op:=_) rfl kR (some 3) kR 38 kR #[jI 0,uI 0,uI 0,uI 0,uI 0,uI 0,uI 0,uI 0,uI 0,uI 0,uI 0,uI 0,uI 0,uI 0,uI 0,uI 0] kR ?_;intro u L o q c;have O:f.heap.size<=u:=ay b.size q;replace b:=b.trans (o.mono b.size);refine⟨b,?_⟩;clear o q;try simp only[aP];refine aI 46 kR ?_));all_goals
   refine WE (op:=_) rfl kR (some 53) kR 72 #[pT a0] kR ((f8.out _ b).mono ?_);rintro e L j;have l:=j.2;(try replace c:=c.below l c.lt);replace b:=b.trans (l.mono b.size);refine⟨uI s,j.1,b,?_⟩;clear j l;refine mP ?_
  (all_goals refine tk (v:=uI (t -s)) 47 (some 54) b (hy:=by intro w m;have j0:=g1.out;exact gS) (h:=?_));(all_goals first|(have I:=c;clear I;refine aI 57 kR ?_)|(refine fo 57 59 kR ?_ ?_;rotate_left;refine fA (op:=_) rfl kR (some 3) kR 38 kR #[jI 0,uI 0,uI 0,uI 0,uI 0,uI 0,uI 0,uI 0,uI 0,uI 0,uI 0,uI 0,uI 0,uI 0,uI 0,uI 0] kR ?_;intro u L o q c;have O:f.heap.size<=u:=ay b.size q;replace b:=b.trans (o.mono b.size);refine⟨b,?_⟩;clear o q;try simp only[aP];refine aI 57 kR ?_));all_goals
   refine WE (op:=_) rfl kR (some 64) kR 73 #[pT d3] kR ((f2.out _ b).mono ?_);rintro e L j;have l:=j.2;(try replace c:=c.below l c.lt);replace b:=b.trans (l.mono b.size);refine⟨.agg #[uI a.dB,uI a.eT,uI a.fI,uI a.bE,uI a.late],j.1,b,?_⟩;clear j l;refine mP ?_
  (all_goals refine iL (v:=.agg #[jI G,uI A,uI x,uI H,uI y,uI E,uI 18446744073709551615,uI B,uI z,uI (t -s),uI D,uI a.dB,uI a.eT,uI a.fI,uI a.bE,uI a.late]) 58 (some 65) rfl kR kR kR kR (λ_ _ _ h=>h) (Or.inl ⟨by kernel_rfl,λw _=>by kernel_rfl⟩) b ?_);(all_goals try simp only[aP]);(all_goals first|(have I:=c;clear I;skip)|(refine aI 59 kR ?_;refine fA (op:=_) rfl kR (some 3) kR 38 kR #[jI 0,uI 0,uI 0,uI 0,uI 0,uI 0,uI 0,uI 0,uI 0,uI 0,uI 0,uI 0,uI 0,uI 0,uI 0,uI 0] kR ?_;intro u L o q c;have O:f.heap.size<=u:=ay b.size q;replace b:=b.trans (o.mono b.size);refine⟨b,?_⟩;clear o q;try simp only[aP]));all_goals
   refine dJ (i:=60) 38 (.tmp 3) (.tmp 65) u 0 #[jI G,uI A,uI x,uI H,uI y,uI E,uI 18446744073709551615,uI B,uI z,uI (t -s),uI D,uI a.dB,uI a.eT,uI a.fI,uI a.bE,uI a.late] rfl kR kR kR kR kR kR (c.there _ sM) kR (by simp[Value.oneCell']) (Below.bZ O _ _ _ b) ?_;intro R e4;have Y:=Blk.gF c [jI G,uI A,uI x,uI H,uI y,uI E,uI 18446744073709551615,uI B,uI z,uI (t -s),uI D,uI a.dB,uI a.eT,uI a.fI,uI a.bE,uI a.late] rfl;rw[<-e4]at Y;(have Z:bW f R:=by rw[e4];exact Below.bZ O _ _ _ b);refine bg kR ?_ _;exact g2 _ _ ⟨Z,Y,O⟩
 case tl=>
  intro T R h0;obtain⟨Z,Y,h7⟩:=h0;(try simp only[]);have V:=zH (a9.out.below Z a9.out.lt);have c1:=zH (b0.out.trans (Z.mono b0.out.size));have b8:=zH Y;have b1:=zH Z;have i5:=Y.lt;have i3:=V.out.lt;have i8:=aC J Z.size;clear Y;go_wp2_with fail;refine(f7.out _ b1.out).mono ?_;rintro e h8 ⟨rfl,h4⟩;obtain rfl:R=h8:=h4.symm;cases h6 with
  |true=>
   repeat ((fail_if_success (with_reducible apply eG));first|(refine kP 38 (.tmp 3) rfl rfl (some 78) rfl T kR #[jI G,uI A,uI x,uI H,uI y,uI E,uI 18446744073709551615,uI B,uI z,uI (t -s),uI D,uI a.dB,uI a.eT,uI a.fI,uI a.bE,uI a.late] b8.out _ Tryz.underlying38 kR kR ?_)|(refine iG 38 (.tmp 2) (.tmp 78) rfl rfl rfl W 0 #[jI G,uI A,uI x,uI H,uI y,uI E,uI 18446744073709551615,uI B,uI z,uI (t -s),uI D,uI a.dB,uI a.eT,uI a.fI,uI a.bE,uI a.late] kR kR (V.out.there _ sM) kR (by simp[Value.oneCell']) ?_;intro a2 X;have a5:Blk a2 W 38 #[jI G,uI A,uI x,uI H,uI y,uI E,uI 18446744073709551615,uI B,uI z,uI (t -s),uI D,uI a.dB,uI a.eT,uI a.fI,uI a.bE,uI a.late]:=(by rw[X];exact Blk.gF V.out [jI G,uI A,uI x,uI H,uI y,uI E,uI 18446744073709551615,uI B,uI z,uI (t -s),uI D,uI a.dB,uI a.eT,uI a.fI,uI a.bE,uI a.late] rfl);have b9:=zH a5;have a6:bW w a2:=(by rw[X];exact Below.bZ f0 _ _ _ c1.out);have c0:=zH a6;clear X a5 a6)|go_values|go_skip|go_guarded|go_step|go_upon|go_back|go_simp)
   (try simp only[Exit.inBlock,Exit.then])
   refine iZ 2 38 W #[jI G,uI A,uI x,uI H,uI y,uI E,uI 18446744073709551615,uI B,uI z,uI (t -s),uI D,uI a.dB,uI a.eT,uI a.fI,uI a.bE,uI a.late] kR kR b9.out _ Tryz.underlying38 kR kR rfl ?_;rw[d7.out];exact⟨rfl,c0.out⟩
  |false=>
   go_wp2_with fail;have g9:R.cell? ⟨p,42,none⟩=some (uI a1):=(b1.out.cell (p:=⟨p,42,none⟩) J).trans e0;refine aZ (S:=λg=>bW f g) kR (bA b1.out) (λc5=>?_);clear c5;have P:bW f R.drew:=bA b1.out;refine tK 0 69 P ?_;refine tK 1 70 P ?_;refine tK 2 71 P ?_;refine tk 3 (some 72) P (hy:=by intro w m;have r:bW f w:=m;have M:w.cell? ⟨p,42,none⟩=some (uI a1):=(r.cell (p:=⟨p,42,none⟩) J).trans e0;exact gS) (h:=?_);refine tK 4 73 P ?_;obtain⟨U,e6⟩:=eX (vL [a1,a4]);have d5:=zH e6;clear e6;obtain⟨j1,e7,e9,b4,h2⟩:=info_parts (show(Tryz.prog.info? 30).map (λd2=>(d2.zero,d2.size,d2.bytes))=some (some (uI 0),1,8) by kernel_rfl);refine aI 5 kR ?_;refine WE (op:=_) rfl kR (some 74) kR 63 #[pT p] kR ((f3.out _ P).mono ?_);rintro e h9 j;have b5:bW f h9:=P.trans (j.2.mono P.size);have d0:=(b8.out.drew).below j.2 (b8.out.drew).lt;refine⟨uI a4,j.1,b5,?_⟩;clear j;refine mP ?_;refine aI 6 kR ?_;refine jX (op:=_) rfl kR (some 75) kR 23 30 2 #[(0,.tmp 72),(1,.tmp 74)] kR #[uI a1,uI a4] qH.ht e7 e9 (by rw[b4];decide) (by rw[b4];decide) (by rw[b4];kernel_rfl) ?_;intro a3 b7 hA2 h3 e5;have a8:bW f b7:=b5.trans (hA2.mono b5.size);have d1:=d0.below hA2 d0.lt;refine⟨a8,?_⟩;refine mP ?_;have e8:Wos b7 (λk=>k=a3) (some ⟨a3,0,none⟩) [a1,a4]:=yG (size:=1) (n:=2) e5 rfl;refine aI 7 kR ?_;refine WE (op:=_) rfl kR (some 76) kR 74 #[.slice (some ⟨a3,0,none⟩) 2 2] kR ((ES (λk=>k=a3) (some ⟨a3,0,none⟩) 2 [a1,a4] b7 e8 sM).mono ?_);rintro e i0 j;obtain rfl:b7=i0:=j.2;refine⟨uI U,by rw[d5.out];exact j.1,a8,?_⟩;clear j;refine mP ?_;refine iL (v:=.pointer (some ⟨T,6,none⟩)) 8 (some 77) rfl kR kR kR kR (λ_ _ _ h=>h) (Or.inl ⟨by rfl,λw m=>by go_simp⟩) a8 ?_;refine mP ?_;refine aI 9 kR ?_;refine fF (op:=_) rfl kR kR 30 (.tmp 77) (.tmp 76) kR T 6 (uI U) kR kR rfl kR d1 sM ?_;intro d8 c8;(have b6:bW f d8:=by rw[c8];exact bG a8 h7 _);(have c4:Blk d8 T 38 #[jI G,uI A,uI x,uI H,uI y,uI E,uI U,uI B,uI z,uI (t -s),uI D,uI a.dB,uI a.eT,uI a.fI,uI a.bE,uI a.late]:=by rw[c8];exact d1.bF 6 _);refine⟨b6,?_⟩;clear c8;refine mP ?_;refine bg kR ?_ _;replace V:=zH (a9.out.below b6 a9.out.lt);replace c1:=zH (b0.out.trans (b6.mono b0.out.size));have f1:=zH c4;have i6:=c4.lt;have i4:=V.out.lt;clear c4 b6 d1 d0 a8 b5 hA2 h3 e5 e8 P g9 e7 e9 b4 h2;repeat ((fail_if_success (with_reducible apply eG));first|(refine kP 38 (.tmp 3) rfl rfl (some 78) rfl T kR #[jI G,uI A,uI x,uI H,uI y,uI E,uI U,uI B,uI z,uI (t -s),uI D,uI a.dB,uI a.eT,uI a.fI,uI a.bE,uI a.late] f1.out _ Tryz.underlying38 kR kR ?_)|(refine iG 38 (.tmp 2) (.tmp 78) rfl rfl rfl W 0 #[jI G,uI A,uI x,uI H,uI y,uI E,uI U,uI B,uI z,uI (t -s),uI D,uI a.dB,uI a.eT,uI a.fI,uI a.bE,uI a.late] kR kR (V.out.there _ sM) kR (by simp[Value.oneCell']) ?_;intro a2 X;have a5:Blk a2 W 38 #[jI G,uI A,uI x,uI H,uI y,uI E,uI U,uI B,uI z,uI (t -s),uI D,uI a.dB,uI a.eT,uI a.fI,uI a.bE,uI a.late]:=(by rw[X];exact Blk.gF V.out [jI G,uI A,uI x,uI H,uI y,uI E,uI U,uI B,uI z,uI (t -s),uI D,uI a.dB,uI a.eT,uI a.fI,uI a.bE,uI a.late] rfl);have b9:=zH a5;have a6:bW w a2:=(by rw[X];exact Below.bZ f0 _ _ _ c1.out);have c0:=zH a6;clear X a5 a6)|go_values|go_skip|go_guarded|go_step|go_upon|go_back|go_simp)
   (try simp only[Exit.inBlock,Exit.then])
   refine iZ 2 38 W #[jI G,uI A,uI x,uI H,uI y,uI E,uI U,uI B,uI z,uI (t -s),uI D,uI a.dB,uI a.eT,uI a.fI,uI a.bE,uI a.late] kR kR b9.out _ Tryz.underlying38 kR kR rfl ?_;rw[d7.out,d5.out];exact⟨rfl,c0.out⟩
theorem Am:∀(c a:List Se) (b:Int),gB b (c++a)=gB (gB b a) c
 |[],a,b=>rfl
 |s::t,a,b=>by
  have d:=Am t a b;simp only[List.cons_append,gB];rw[d]
theorem yR:∀(b:List Se) (a:Int),gB a b<=gB (a+1) b/\gB (a+1) b<=gB a b+1
 |[],a=>by simp only[gB];omega
 |s::t,a=>by
  have c:=yR t a;simp only[gB];split
  ·omega
  ·exact c
theorem xU {l:Le} (s:Se) (h:gM l) (f:¬l.dO<l.next) (b:¬eu l<1):
  (gG l s).err=0/\(gG l s).val=l.next/\(gG l s).led.next=l.next+1/\eY (gG l s).led=gB (if s.aS=1 then l.next else l.next+1) l.kept:=by
 unfold gG;rw[Ww f,Ww b];refine⟨rfl,rfl,rfl,?_⟩;unfold eY;dsimp only;have e:gB (l.next+1) (l.kept++[{s with pn:=l.next}])=gB (if s.aS=1 then l.next else l.next+1) l.kept:=by
  rw[Am];rfl
 split
 ·next c=>
  rw[<-e];have a:=h.len;have j:=h.wZ;cases hk:l.kept with
  |nil=>rw[hk]at a c;simp at c a;omega
  |cons x t=>
   have d:x.aS≠1:=λd=>by
    have i:=h.pn 0 x (by rw[hk];rfl);(have g:eY l=x.pn:=by unfold eY;rw[hk];unfold gB;rw[aB d]);rw[nU]at i;rw[hk]at a c;unfold eu at b;rw[g]at b;have k:=h.pE;simp only[aY]at a c;omega
   rw[List.cons_append,List.drop_succ_cons,List.drop_zero]
   conv=>rhs;unfold gB
   rw[Ww d]
 ·exact e
theorem DX {k:Nat} {e:En} (h:dG k e) (i:¬e.c.dO<e.led.next) (a:¬eu e.led<1):¬e.c.dO<(eH e).led.next/\¬eu (eH e).led<1/\eu (eH e).led<=eu e.led:=by
 have p:=h.ll;unfold eH;split
 ·next c=>
  unfold rQ at c;simp only[Bool.and_eq_true,decide_eq_true_eq]at c;obtain⟨l,m,f,b⟩:=xU {seZ with aS:=4} h.le oM a;have n:=yR e.led.kept e.led.next;have g:=(rP e.led {seZ with aS:=4}).1;rw[Ww dC]at b;have d:=c.1.2;have j:=c.2;show¬e.c.dO<(og e.led).led.next/\¬eu (og e.led).led<1/\eu (og e.led).led<=eu e.led;unfold og;unfold eu at d a|-;rw[f,b,g];have o:eY e.led=gB e.led.next e.led.kept:=rfl;omega
 ·exact⟨i,a,bY _⟩
theorem Ea {k:Nat} {e:En} {p:Pi} (h:dG k e) (n:iY e.dH e.c.mss=some p) (j:¬e.c.dO<e.led.next) (o:¬eu e.led<1):eu (jH e p).en.led<eu e.led/\(jH e p).en.cO=e.cO:=by
 obtain⟨x,y,z,A,B,C⟩:=nD h.qu n;obtain⟨q,r,D⟩:=DX h j o;have b:=wM h;have i:=(zh e).1;(have m:(eH e).cO=e.cO:=by unfold eH;split<;>rfl);refine⟨?_,m⟩;have v:=h.cf.Ca;have w:=h.qu.qx;unfold jH wN;show eu (jG (eH e).led _).led<_;unfold jG;rw[Ww (by simp only;omega)];have l:=b.ll;obtain⟨s,t,c,a⟩:=xU ({(⟨0,p.off,p.body.length,yP (jg (eH e)) (eH e).c.bits,(WG (WG (eH e))).now,zn (jg (WG (eH e))),false,0⟩:Se)with aS:=1,used:=false}) b.le (by rw[l,i];exact q) r;have d:=(rP (eH e).led ({(⟨0,p.off,p.body.length,yP (jg (eH e)) (eH e).c.bits,(WG (WG (eH e))).now,zn (jg (WG (eH e))),false,0⟩:Se)with aS:=1,used:=false})).1;rw[aB rfl]at a;have f:eY (eH e).led=gB (eH e).led.next (eH e).led.kept:=rfl;rw[<-f]at a;show eu (gG (eH e).led _).led<_;have u:eu (gG (eH e).led ({(⟨0,p.off,p.body.length,yP (jg (eH e)) (eH e).c.bits,(WG (WG (eH e))).now,zn (jg (WG (eH e))),false,0⟩:Se)with aS:=1,used:=false})).led=eu (eH e).led -1:=by
  unfold eu;rw[c,a,d];omega
 have g:eu (gG (eH e).led ({(⟨0,p.off,p.body.length,yP (jg (eH e)) (eH e).c.bits,(WG (WG (eH e))).now,zn (jg (WG (eH e))),false,0⟩:Se)with aS:=1,used:=false})).led<eu e.led:=oM;exact g
def pm (e:En):Int:=e.cO+eu e.led
theorem PU {k:Nat} {e:En} (h:dG k e):0<=pm e/\pm e<=e.cO+256:=by
 have a:=h.le.room;have b:=h.rO;have c:=h.le.lW;unfold pm;omega
theorem Ny {k:Nat} {e:En} (h:dG k e) (a:(WQ e).err=0):pm (WQ e).en<pm e:=by
 rw[vk]at a|-;by_cases f:lq e=true
 (·rw[aB f]at a;exact Wy a (show¬((9:Int)=0) by decide));rw[Ww f]at a|-;by_cases g:0<e.cO
 ·rw[aB g]
  show e.cO -1+eu e.led<e.cO+eu e.led;omega
 rw[Ww g]at a|-;unfold uS at a|-;cases hq:iY e.dH e.c.mss with
 |none=>rw[hq]at a;exact Wy a (show¬((10:Int)=0) by decide)
 |some p=>
  rw[hq]at a;dsimp only at a|-;by_cases i:e.fP=false/\e.cc.win.cr<gq e.led+p.body.length
  (·rw[aB i]at a;exact Wy a (show¬((7:Int)=0) by decide));rw[Ww i]at a|-;by_cases b:e.c.dO<e.led.next
  (·rw[aB b]at a;exact Wy a (show¬((8:Int)=0) by decide));rw[Ww b]at a|-;by_cases c:eu e.led<1
  (·rw[aB c]at a;exact Wy a (show¬((7:Int)=0) by decide));rw[Ww c]at a|-;by_cases d:vw e.fM e.c.gD e.now p.body.length=true
  ·rw[aB d]
   obtain⟨q,r,s,t,u,v⟩:=nD h.qu hq;have m:Word (p.body.length:Int):=⟨oM,by have:=h.cf.Ca;omega⟩;have l:dG k {e with fM:=WR e.fM e.c.gD e.now p.body.length}:={h with pa:=wF h.pa h.cf.uP h.now m d,ra0:=h.ra0,ra1:=h.ra1};have j:=Ea l hq b c;have n:eu (jH {e with fM:=WR e.fM e.c.gD e.now p.body.length} p).en.led<eu e.led:=j.1;have o:(jH {e with fM:=WR e.fM e.c.gD e.now p.body.length} p).en.cO=e.cO:=j.2;unfold pm;omega
  ·rw[Ww d]at a;exact Wy a (show¬((7:Int)=0) by decide)
def GS (e:En):Prop:=e.gu.over=true->e.aS=4
theorem gs_new (c:Cf) (words:List Int):GS (nK c words):=λh=>by cases h
theorem Mi {e:En} (h:GS e) (now:Int):GS (nO e now):=h
theorem QC {e:En} (h:GS e) (b:List Int):GS (fU e b).en:=by
 unfold fU;split
 ·exact h
 ·exact h
theorem QE {e:En} (h:GS e):GS (kF e).en:=by
 unfold kF;split
 ·exact h
 ·next c=>
  intro a;have:=h a;exact Wy (by rw[this];decide) c
theorem over4 {e:En} (h:GS e) (c:¬lq e=true):e.gu.over=false:=by
 cases ho:e.gu.over with
 |false=>rfl
 |true=>exact Wy (by unfold lq;rw[h ho];rfl) c
theorem Xr (e:En) (l:Int) (b:Bool):(kD e l b).aS=e.aS:=by cases b<;>rfl
theorem zZ:∀(b:List Int) (a:En),(b.foldl jT a).aS=a.aS
 |[],_=>rfl
 |x::t,a=>zZ t (jT a x)
theorem UB (e:En):(iB e).en.aS=e.aS:=zZ (qi e).lost {e with gU:=(qi e).next}
theorem QD {e:En} (h:GS e):GS (jE e):=by
 have f:=(LM e e.now).1;have d:(jE e).aS=e.aS:=by
  rw[Bi];split
  (·rfl);split
  ·show(kD _ _ _).aS=_
   rw[Xr,UB]
  split
  ·split<;>rfl
  ·rfl
 have c:(jE e).gu=e.gu:=by
  have a:=Hr e.gu e.told e.cO e;rw[<-yC]at a;rw[a];rfl
 intro b;rw[c]at b;rw[d];exact h b
theorem Jq {e:En} (h:GS e):GS (WQ e).en:=by
 rw[vk];split
 ·exact h
 next c=>
 split
 ·exact h
 ·have b:=(PT e).1
  intro a;rw[b,over4 h c]at a;cases a
theorem gs_on1 {e:En} (h:GS e) (b:List Int):GS (xw e b).en:=by
 rw[Gc];split
 ·exact h
 next c=>
 dsimp only;have d:=over4 h c;intro a;rw[(Qa _ _ _).1]at a;have f:(dN e.gu e.led b e.now).ver.kind=3:=by
  change (dN e.gu e.led b e.now).gu.over=true at a;revert a;unfold dN;rw[d];rw[Ww dC];split
  (·intro a;exact Wy (show false=true from a) dC);split
  (·intro a;exact Wy (show false=true from a) dC);dsimp only;split
  ·intro _;rfl
  ·intro a;exact Wy (show false=true from a) dC
 unfold onE;rw[aB f]
def u3V (x:Int):List Value:=[.int .u32 x]
theorem RB (x:Int):(u3V x).length=1:=rfl
theorem Sc {o:TypeId} (S:Nat->Prop) (a:Option Addr) (c:Nat) (k:List Int) (i:Nat) (s:i<=100) (w:World) (h:Row w S o 1 a k.length (k.flatMap u3V)) (e:U32 k):
  Calls Tryz.prog 33 #[.slice a k.length c,jI i] w λl p=>l=.returned (uI (atI k i))/\w=p:=by
 have u:¬((i:Int)<0):=oM;by_cases d:i<k.length
 ·obtain⟨j,n,rfl,_,v,f⟩:=h.at_ oM
  (have b:atI k i=k[i]:=by unfold atI;rw[getD_at d]);(have z:w.cell? ⟨j,n+i,none⟩=some (.int .u32 k[i]):=by have:=f (i*1) _ (mr RB k i 0 d oM);rw[Nat.mul_one]at this;exact this);obtain⟨q,r⟩:=e _ (aN d);rw[b];generalize k[i]=g at*
  have x:(i:Int)<(k.length:Int):=oM;have m:¬((k.length:Int)<=(i:Int)):=oM;(have y:IntKind.u64.wrap g=g:=by simp[IntKind.wrap,IntKind.bits,IntKind.signed];omega);have t:(0:Int)<=(i:Int):=oM;clear h e f b;go_enter Tryz.func33,Tryz.ntmps33;go_wp2_with fail;go_ret;exact⟨rfl,rfl⟩
 ·have b:atI k i=0:=by unfold atI;rw[aW,List.getElem?_eq_none oM];rfl
  rw[b];have m:(k.length:Int)<=(i:Int):=oM;clear h e b;go_enter Tryz.func33,Tryz.ntmps33;go_wp2_with fail;go_ret;exact⟨rfl,rfl⟩
theorem MZ {tw:TypeId} (S:Nat->Prop) (a:Option Addr) (c:Nat) (l:List Int) (w:World) (h:Wot tw w S a l) (z:l.length<=c):
  Calls Tryz.prog 16 #[.slice a l.length c,jI 60] w λq o=>(∃g,q=.returned (.slice g (l.take 60).length c)/\Wot tw o S g (l.take 60))/\w=o:=by
 obtain⟨D,j,u,n,v⟩:=info_parts (show(Tryz.prog.info? 30).map (λf=>(f.zero,f.size,f.bytes))=some (some (uI 0),1,8) by kernel_rfl);have i:l.take 60=l.take (min l.length 60):=by
  rcases Nat.le_total l.length 60 with d|d
  ·rw[fJ d,dM,List.take_of_length_le d]
  ·rw[Nat.min_eq_right d]
 rw[i];have C:min (l.length:Int) 60=((min l.length 60:Nat):Int):=oM;have B:min l.length 60<=c:=oM;have m:min l.length 60<=l.length:=oM;have A:min l.length 60<=60:=oM;generalize min l.length 60=b at*
 (have e:(l.take b).length=b:=by rw[aT];omega);rw[e];have hcut:∀w,(Instr.slice 23 (.slice a l.length c) none (some (jI (b:Int))) none).run Tryz.prog w=.ok (.slice (fE a c 0 1) b c) w:=λw=>by
  have h:=tY (P:=Tryz.prog) qH.ht j a l.length c b oM w;rw[n]at h;exact h
 have p:=zH (show Wot tw w S (fE a c 0 1) (l.take b)from by
  have t:=Row.take h (k:=b) m;have s:=t.drop (k:=0) oM (a':=fE a c 0 1) (λ_ x E r=>by
   subst r;unfold fE;split
   ·simp
   ·simp[Go.WideShapes.add_plain])
  unfold Wot;rw[e,pQ qH.len];simpa using s)
 generalize fE a c 0 1=y at*
 clear h i j u n v e m;go_enter Tryz.func16,Tryz.ntmps16;go_wp2_with fail;go_ret;exact⟨⟨_,rfl,p.out⟩,rfl⟩
structure Fp (w0 wr:World) (v:Value) (n:Nat):Prop where
 ex:∃a c,∃l:List Fa,v=.slice a l.length c/\OwnAt wr (λk=>w0.heap.size<=k) 187 4 a l.length c (l.flatMap faV)/\l.length<=n/\∀f∈l,Word f.delay
theorem Fp.below {a w w':World} {n:Nat} {v:Value} (h:Fp a w v n) (hb:bW w w'):Fp a w' v n:=by
 obtain⟨b,c,i,d,e,f,g⟩:=h.ex;exact⟨b,c,i,d,e.below hb,f,g⟩
theorem Fp.mono {a w:World} {n m:Nat} {v:Value} (h:Fp a w v n) (j:n<=m):Fp a w v m:=by
 obtain⟨b,c,g,d,e,i,f⟩:=h.ex;exact⟨b,c,g,d,e,oM,f⟩
end Go.Proofs.YtiflndepmgnojaaGreat
