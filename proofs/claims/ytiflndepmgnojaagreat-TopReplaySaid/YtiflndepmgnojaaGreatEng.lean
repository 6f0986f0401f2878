import Derived.Test.YtiflndepmgnojaaGreatEnf
namespace Go.Proofs.YtiflndepmgnojaaGreat
open Go.RowKit
set_option linter.unusedSimpArgs false
set_option linter.unusedVariables false
set_option maxHeartbeats 8000000
set_option maxRecDepth 100000
attribute[local go_sem] BW.cell BW.frozen
def jC:List (Option TypeId):=[some 154,some 236,some 177,some 234,some 5]
theorem JG (k:Nat) (S:Nat->Prop) (p:Nat) (e:En) (now:Int) (w:World) (h:eB w S p e) (i:dG k e) (b0:Bd S w) (c1:Word now) (O:tH (nO e now).now (nO e now).gU=true):
  Calls Tryz.prog 23 #[pT p,uI now] w λo f=>o=.returned (.tuple #[])/\eB f (grow S w f) p (kr e now)/\Mod S jC w f:=by
 have f5:=h.mem;obtain⟨z,B⟩:=h.set1 17 (uI (max e.now now)) (nO e now) (λ_ _ _ _=>rfl) rfl rfl rfl rfl;have P:dG k (nO e now):=qO i c1;have c3:kr e now=jE (nO e now):=rfl;rw[c3];obtain⟨g3,g2,g1,g0,a7,_⟩:=h.ex;obtain⟨e0,f3⟩:=a7.cz 17;obtain⟨g,a8⟩:=eX (nO e now);rw[<-a8]at z P O|-;obtain⟨q,L⟩:=eX (w.setCell ⟨p,17,none⟩ (uI (max e.now now)));rw[<-L]at z B;have u:=zH z;have a1:=zH P;have a3:=zH (B.mono (T':=jC) (λ_ _ h=>h) (by simp[jC]));have e4:w.heap.size<=q.heap.size:=B.size;have d8:=zH (b0.later e4);obtain⟨y,K⟩:=eX (jE g);rw[<-K];have F:=zH K;clear a8 z B P i c3 h a7 c1 K b0;go_enter Tryz.func23,Tryz.ntmps23;go_wp2_with fail;rw[<-L];clear L e0 f3;refine(sP S p g q u.out).mono ?_;rintro o f ⟨rfl,c5⟩;obtain rfl:=c5.symm;clear c5;cases hov:lq g with
 |true=>
  have d1:Hid (y=g):=zH (by rw[F.out];unfold jE;rw[aB hov]);go_wp2_with fail;refine mE ?_;rw[d1.out];exact⟨rfl,u.out.mono (λ_ h=>oU h),a3.out⟩
 |false=>
  obtain⟨e9,e8,c7,e7,a,_⟩:=u.out.ex;have e1:=a.Wu 17;have e2:=a.Wu 42;clear a;go_wp2_with fail;refine bN kR kR ?_;(repeat (first|go_big_quiet_step (((go_at_call 58;exact aJ ((wQ _ _ _).mono λe f h=>⟨h.1,h.2.symm⟩))))|quiet_step (((go_at_call 58;exact aJ ((wQ _ _ _).mono λe f h=>⟨h.1,h.2.symm⟩))))));refine aK ?_;rintro _ ⟨nq,rfl⟩;obtain⟨m,r⟩:=eX (q.drewN nq);(have a9:eB m S p g:=by rw[r];exact u.out.below (by have b2:=aj q.heap.size q;exact BEL));(have J:Mod S jC w m:=by rw[r];exact a3.out.drewN nq);have c2:w.heap.size<=m.heap.size:=J.size;(have b1:Bd S m:=by rw[r];exact d8.out);rw[<-r];have c9:=zH a9;have d5:=zH J;have a5:=zH b1;clear r a9 J b1 e1 e2;cases hdu:tH g.now g.gU with
  |true=>
   (have c4:y=jm (kD (iB g).en (iB g).lost (iB g).some_):=by rw[F.out];unfold jE;rw[Ww (by simp[hov]),aB hdu]);have b9:=tC a1.out;have d2:=zH (EY k S p g m c9.out a1.out a5.out);have n:=zH b9;have G:=zH c4;clear c4 b9 F;generalize iB g=e3 at*
   obtain⟨C,f0,d⟩:=e3;go_wp2_with fail;refine(d2.out).mono ?_;rintro o j ⟨rfl,b6,R⟩;have e5:=R.size;have x:=zH b6;have a4:=zH (d5.out.then (R:Mod S jC m j) (λ_ _ h=>h));have f4:=zH (a5.out.grow e5);clear b6 R;cases f0 with
   |false=>
    have E:=zH (rz k (grow S m j) p d j x.out n.out.1);go_wp2_with fail;refine(E.out).mono ?_;rintro o t ⟨rfl,b7,T⟩;have e6:=T.size;have s:eB t (grow S w t) p y/\Mod S jC w t:=by
     rw[G.out];exact⟨b7.mono (λk i=>i.elim .inl (λh=>.inr ⟨ay c2 h.1,aC h.2 e6⟩)),a4.out.then (T.mono (T':=jC) (λ_ _ h=>h) (by simp[jC])) (λk c0 i=>i.elim id (λh=>Wy h.1 oM))⟩
    have D:=zH s;clear b7 T s;go_wp2_with fail;refine mE ?_;exact⟨rfl,D.out⟩
   |true=>
    obtain⟨e9,e8,c7,e7,a,_,_,a6,_⟩:=x.out.ex;have f6:=x.out.lt;have g4:=a.Wu 0;have g5:=a.Wu 1;have h3:=a.Wu 2;have h5:=a.Wu 3;have i5:=a.Wu 4;have i6:=a.Wu 5;have i7:=a.Wu 6;have i8:=a.Wu 7;have i9:=a.Wu 8;have j0:=a.Wu 9;have g6:=a.Wu 10;have g7:=a.Wu 11;have g8:=a.Wu 12;have g9:=a.Wu 13;have h0:=a.Wu 14;have h1:=a.Wu 15;have h2:=a.Wu 16;have h6:=a.Wu 30;have h7:=a.Wu 31;have h8:=a.Wu 32;have h9:=a.Wu 33;have i0:=a.Wu 34;have i1:=a.Wu 35;have i2:=a.Wu 36;have i3:=a.Wu 37;have i4:=a.Wu 38;have h4:=a.Wu 21;have a2:=zH (λf (b2:bW j f)=>(pK (grow S m j) c7 d.led f (a6.below b2)).mono (R':=λe c8=>e=.returned (uI d.led.next)/\bW f c8) (λe c8 h=>⟨h.1,by rw[<-h.2];exact aj _ _⟩));have d4:=zH (Ja d.c d.cc C d.led.next n.out.1.cf n.out.1.cc n.out.2);have W:kD d C true={d with cc:=uN d.c d.cc C d.led.next}:=rfl;have Q:=uJ (b:=true) n.out.1 n.out.2;rw[W]at Q;have V:=G.out;simp only[W]at V;generalize uN d.c d.cc C d.led.next=l at*
    have d3:=zH Q;have d7:=zH V;clear a a6 Q V W G;go_wp2_with fail;refine gN kR ?_;refine dR 0 (v:=?_) rfl kR (λ_ _ _ h=>h) (Or.inl ⟨by rfl,?_⟩) ?_;rotate_left
    (·exact λw=>gS);(try simp only[Act.put,Array.setIfInBounds]);(try go_simp);refine eQ 1 15 kR (λf=>∃f2:BW j,f=f2.val) ⟨⟨j.drewN 1,⟨rfl,rfl,rfl,av _,λ_ _=>rfl⟩⟩,rfl⟩ ?_;refine mD ?_;(repeat (first|go_big_quiet_step ((go_at_call 61;exact bU _ (a2.out _ (by apply BW.same))))|quiet_step ((go_at_call 61;exact bU _ (a2.out _ (by apply BW.same))))));refine aK ?_;refine bwI ?_;intro t b3;have b4:bW j t:=b3;have Z:=zH b4;clear b3 b4;refine dA rfl rfl ?_;go_simp;go_at_call 60;refine(d4.out _).mono ?_;rintro o X ⟨rfl,b5⟩;have N:bW j X:=Z.out.trans (b5.mono Z.out.size);have H:eB X (grow S m j) p d:=x.out.below N;have a0:=zH N;have d0:=zH H;obtain⟨j4,j3,j2,j1,c,_⟩:=H.ex;have k4:=c.frozen 30;have j5:=c.Wu 30;have k5:=c.frozen 31;have j6:=c.Wu 31;have k6:=c.frozen 32;have j7:=c.Wu 32;have k7:=c.frozen 33;have j8:=c.Wu 33;have k8:=c.frozen 34;have j9:=c.Wu 34;have k9:=c.frozen 35;have k0:=c.Wu 35;have l0:=c.frozen 36;have k1:=c.Wu 36;have l1:=c.frozen 37;have k2:=c.Wu 37;have l2:=c.frozen 38;have k3:=c.Wu 38;clear b5 N H c;go_simp;refine dR 16 (v:=?_) rfl kR (λ_ _ _ h=>h) (Or.inl ⟨by rfl,?_⟩) ?_;rotate_left
    (·exact λw=>gS);refine dR 17 (v:=?_) rfl kR (λ_ _ _ h=>h) (Or.inl ⟨by rfl,?_⟩) ?_;rotate_left
    (·exact λw=>gS);refine dR 18 (v:=?_) rfl kR (λ_ _ _ h=>h) (Or.inl ⟨by rfl,?_⟩) ?_;rotate_left
    (·exact λw=>gS);(try simp only[Act.put,Array.setIfInBounds]);(try go_simp);refine eQ 19 21 kR (λf=>∃_:Unit,f=_) ⟨(),rfl⟩ ?_;refine mA ?_;rintro f1 ⟨_,c6⟩;rw[c6];clear c6 f1;refine dA rfl rfl ?_;go_simp;refine jY 22 kR kR ?_;refine mC ?_;obtain⟨d9,M⟩:=eX ((((((((((X.setCell ⟨p,30,none⟩ (uI l.win.cr)).setCell ⟨p,31,none⟩ (uI l.win.dL)).setCell ⟨p,32,none⟩ (uI l.win.acc)).setCell ⟨p,33,none⟩ (uI l.win.jF)).setCell ⟨p,34,none⟩ (uI l.win.gX)).setCell ⟨p,35,none⟩ (uI l.win.k)).setCell ⟨p,36,none⟩ (uI l.win.fair)).setCell ⟨p,37,none⟩ (uI l.round.iO)).setCell ⟨p,38,none⟩ (uI l.round.mX)));rw[<-M];obtain⟨I,A⟩:=d0.out.Ij l;rw[<-M]at I A;have f7:=a0.out.size;have f8:=A.size;have d6:=zH ((a4.out.then (aH (S:=S) a0.out) (λ_ _ h=>h)).then (A.mono (T':=jC) (λ_ _ h=>h) (by simp[jC])) (λk c0 i=>i.elim id (λh=>Wy h.1 oM)));have E:=zH (rz k (grow S m j) p {d with cc:=l} d9 I d3.out);clear I A M;go_wp2_with fail;refine(E.out).mono ?_;rintro o Y ⟨rfl,b8,U⟩;have f9:=U.size;have s:eB Y (grow S w Y) p y/\Mod S jC w Y:=by
     rw[d7.out];exact⟨b8.mono (λk i=>i.elim .inl (λh=>.inr ⟨ay c2 h.1,by have:=h.2;omega⟩)),d6.out.then (U.mono (T':=jC) (λ_ _ h=>h) (by simp[jC])) (λk c0 i=>i.elim id (λh=>Wy h.1 oM))⟩
    have D:=zH s;clear b8 U s;go_wp2_with fail;refine mE ?_;exact⟨rfl,D.out⟩
  |false=>
   rw[hdu]at O;cases O
end Go.Proofs.YtiflndepmgnojaaGreat
