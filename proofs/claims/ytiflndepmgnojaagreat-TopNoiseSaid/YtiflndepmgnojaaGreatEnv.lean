import Derived.Test.YtiflndepmgnojaaGreatEnu
namespace Go.Proofs.YtiflndepmgnojaaGreat
open Go.RowKit Tryz
set_option linter.unusedSimpArgs false
set_option linter.unusedVariables false
set_option maxHeartbeats 8000000
set_option maxRecDepth 100000
variable {V:List Value}
attribute[local go_sem] BW.cell BW.frozen
theorem etk4 (k:Nat) (S b3:X4) (p u b c9 n:Nat) (q:X5) (c:List Se) (b5 c1:Nat) (Z:Bool) (X R:En) (w wc:World) (a2:X5) (c2:Nat) (f:List Sp) (d1 e2:Int) (d0:Bool) (top:Int)
  (m8:f.length<=32) (f6:c.length<=8192) (g1:Word top) (f9:u≠p) (b0:X3 (Sps w b3 a2 f)) (F:X3 (∀a1∈c,vX a1))
  (a9:X3 (R=nN (jm (lQ (kE (kD (kv (iB (qV X top)).en f c) (iB (qV X top)).lost (iB (qV X top)).some_) c) c Z))))
  (t:X3 (TkI k S w p q c wc X)) (b1:X3 (Blk wc u 92 #[.slice (some ⟨b,c9,none⟩) n c1,.slice a2 f.length c2,uI d1,uI e2,bV d0]))
  {a3 h9 j0 j1 j2 a4 h0 h1 h2 h3 h4 h5 h6 h7 h8 i0 i1 i2 i3 i4 i5 i6 i7 i8 i9 d3 d4 d5 d6 d7 d8 d9 e0 e1:Value} (m9:V.length=174:=by exact rfl):
  let Q':X7:=bodyPost prog Tryz.f53 λa0 g=>a0=.returned (.tuple #[])/\eB g (grow S w g) p R/\Mod S tkT w g
  Code.wp prog (WO 4 (Tryz.f53.body.getD .skip)) Q' ⟨((pT p)::a3::h9::(pT u)::.slice q c.length b5::bV Z::uI top::j0::j1::j2::a4::h0::h1::h2::h3::h4::h5::h6::h7::h8::i0::i1::i2::i3::i4::i5::i6::i7::i8::i9::d3::d4::d5::d6::d7::d8::d9::e0::e1::V).toArray,[]⟩ wc:=by
 intro Q';generalize V=j4 at*
 revert j4;(repeat (refine lcZ ?_;intro _));refine lzZ ?_
 conv=>arg 2;whnf
 (try dsimp only);obtain⟨y,J,j⟩:=t.o.en;obtain⟨n5,n4,n3,n2,a,_,_,C,_⟩:=j.ex;have g0:=j.lt;obtain⟨f1,f2⟩:=a.cz 43;clear J j a C;go_wp2_with fail;obtain⟨b4,D⟩:=eX (wc.setCell ⟨p,43,none⟩ (uI (max X.dm top)));rw[<-D];have G:=zH (show TkI k S w p q c b4 (qV X top) by rw[D];exact t.o.own (λy K=>K.set1 43 _ _ (λ_ _ _ _=>rfl) rfl rfl rfl rfl) {t.o.ok with dm:=kX t.o.ok.dm g1});have b2:=zH (show Blk b4 u 92 _ by rw[D];exact b1.o.far f9 _);have a7:=zH (tC G.o.ok).2;have E:=zH G.o.find;clear D f1 f2;generalize iB (qV X top)=f3 at*
 obtain⟨g2,g6,e⟩:=f3;simp only at a9 a7 E;refine(E.o).mono ?_;rintro a0 o7 ⟨rfl,b8,j6,c7⟩;obtain⟨H,I⟩:=yx b8 (b2.o.mod c7 dC);clear b8 c7 E G b2 t b1;go_upto_block 0 with(fail);go_cut [] (λwx=>X3 (TkI k S w p q c wx (kv e f c)));case first=>
  go_wp2;go_loopw [10] (λa4 wr=>∃(x:Nat) (l:Int),x<=c.length/\a4=jI l/\l=(x:Int) -1/\X3 (gJ f (c.drop x)=none)/\X3 (TkI k S w p q c wr e)/\X3 (Blk wr u 92 #[.slice (some ⟨b,c9,none⟩) n c1,.slice a2 f.length c2,uI d1,uI e2,bV d0])) (λl _=>(intOf l+1).toNat);(case atStart=>exact⟨c.length,_,av _,rfl,rfl,zH (by rw[List.drop_length];rfl),H,I⟩);case round=>
   clear H I;obtain⟨x,l,f7,rfl,c6,a8,A,B⟩:=hrel;rcases x with _|⟨i⟩
   .obtain rfl:l= -1:=oM
    have U:=a8.o;rw[List.drop_zero]at U;have e8:=zH (show kv e f c=e by unfold kv;rw[U]);clear U c6;go_wp2;go_meet;rw[e8.o];exact A
   .obtain rfl:l=(i:Int):=oM
    have T:i<c.length:=f7;have L:=NJ T a8.o;obtain⟨f4,g3,rfl,P,Y,_⟩:=A.o.row.at_ (aj _ _) T;have W:=(F.o _ (aN T)).2;generalize c[i]=g5 at*
    obtain⟨r,o1,n1,j9,o0,n9,o6,j8⟩:=g5;simp only at Y L W;have a3:=B.o.Wu 1;have f8:=B.o.lt;have a5:=zH (λg (M:bW wr g)=>Lu b3 a2 c2 f r g (aD (aG b0.o (ts:=[some 272]) (A.o.m.aM dC) sM) M) oM);have m6:(0:Int)<=(i:Int):=oM;have m7:(i:Int)<(c.length:Int):=oM;have z:=zH L;clear L c6;go_wp2;refine fq kR kR ?_;(repeat (go_big_quiet_step ((go_at_call 123;exact bU _ (a5.o _ (by apply BW.same))))));refine aK ?_;refine bwI ?_;intro s b9;have v:bW wr s:=b9;obtain⟨o,e9⟩:=yx (A.o.below v) (B.o.below v B.o.lt);have n0:=(v.cell (p:=⟨f4,g3+i*8,none⟩) P).trans Y;have m5:=aC P v.size;clear b9 v Y a3 f8 a5 P;cases hcl:dI f r with
    |false=>
     have e3:X3 (gJ f (c.drop i)=none):=zH (by rw[z.o,hcl];rfl);clear z hcl;go_wp2;go_roundw;(case rel=>exact⟨i,_,oM,rfl,rfl,e3,o,e9⟩);case measure=>simp[intOf]
    |true=>
     have c5:gJ f c=some r:=Gm (m:=i) (by rw[z.o,hcl];rfl);(have O:kv e f c={e with cc:=yg e.c e.cc r e.led.next}:=by unfold kv;rw[c5]);have Q:=AA (m:=f) o.o.ok F.o;rw[O]at Q;have e4:=zH (Oy e.c e.cc r e.led.next o.o.ok.cf o.o.ok.cc W);generalize yg e.c e.cc r e.led.next=j3 at*
     obtain⟨e6,e5⟩:=yx Q O;clear O Q c5 hcl z W;obtain⟨y,J,j⟩:=o.o.en;obtain⟨n8,n7,g4,n6,a,_,_,C,_⟩:=j.ex;obtain⟨g0,k0,c1,c2,k9,l9⟩:=LX j.lt (a.Wu 0) (a.Wu 1) (a.Wu 2) (a.Wu 3) (a.Wu 4);obtain⟨m0,m1,m2,m3,m4,k1⟩:=a.e6 5 6 7 8 9 10;obtain⟨k2,k3,k4,k5,k6,k7⟩:=a.e6 11 12 13 14 15 16;obtain⟨l0,l1,l2,l3,l4,l5⟩:=a.e6 30 31 32 33 34 35;obtain⟨l6,l7,l8,k8⟩:=a.e4 36 37 38 21;have e7:=zH (λg (M:bW s g)=>(pK y g4 e.led g (C.below M)).mono (R':=λb6 d2=>b6=.returned (uI e.led.next)/\bW g d2) (λb6 d2 h=>⟨h.1,by rw[<-h.2];exact aj _ _⟩));clear J j a C;go_wp2;refine gN kR ?_;refine X9 0 ?_;(try simp only[Act.put,Array.setIfInBounds]);(try go_simp);refine eQ 1 19 kR (λg=>∃a1:BW s,g=a1.val) ⟨⟨s.drewN 1,⟨rfl,rfl,rfl,av _,λ_ _=>rfl⟩⟩,rfl⟩ ?_;refine mD ?_;(repeat (go_big_quiet_step ((go_at_call 61;exact bU _ (e7.o _ (by apply BW.same))))));refine aK ?_;refine bwI ?_;intro g7 c0;have N:bW s g7:=c0;refine dA rfl rfl ?_;go_simp;go_at_call 124;refine(e4.o _).mono ?_;rintro a0 g8 ⟨rfl,c3⟩;have c4:bW s g8:=N.trans (c3.mono N.size);have a6:=zH (o.o.below c4);clear c0 N c3 c4;obtain⟨j5,f5,b7⟩:=a6.o.en;obtain⟨o5,o4,o3,o2,d,_⟩:=b7.ex;obtain⟨d3,d4,d5,d6,d7,d8⟩:=d.e6 30 31 32 33 34 35;obtain⟨d9,e0,e1⟩:=d.e3 36 37 38;obtain⟨o8,o9,p0,p1,p2,p3⟩:=LX (d.frozen 30) (d.frozen 31) (d.frozen 32) (d.frozen 33) (d.frozen 34) (d.frozen 35);have p4:=d.frozen 36;have p5:=d.frozen 37;have p6:=d.frozen 38;clear d b7 f5;go_simp;refine X9 20 ?_;refine X9 21 ?_;refine X9 22 ?_;(try simp only[Act.put,Array.setIfInBounds]);(try go_simp);refine eQ 23 25 kR (λg=>∃_:Unit,g=_) ⟨(),rfl⟩ ?_;refine mA ?_;rintro g9 ⟨_,c8⟩;rw[c8];clear c8 g9;refine dA rfl rfl ?_;go_simp;refine jY 26 kR kR ?_;refine mC ?_;go_wp2;go_meet;rw[e5.o];exact zH (a6.o.own (λy K=>K.Ij j3) e6.o)
 case rest=>
  clear I H b0;rename_i j7 f0;exact f0 _ _ (tk13 k S w p q c b5 Z g2 g6 (kv e f c) _ R hcut a7 F a9 f6)
theorem KZ (k:Nat) (S P:X4) (p:Nat) (e:En) (a1:X5) (c1:Nat) (a2:X5) (c2:Nat) (a:Ak) (w:World) (h:eB w S p e) (H:dG k e) (c5:Bd S w) (G:nu w P a1 c1 a2 c2 a) (d2:1<=a.cu.length) (T:a.cu.length<=32) (b1:a.aO.length<=32)
  (b0:∀t∈a.cu,gT e.led<=t.lo/\t.lo<=t.hi/\t.hi<e.led.next):
  Yk 53 #[pT p,.agg #[.slice a1 a.cu.length c1,.slice a2 a.aO.length c2,uI a.dw,uI a.xor,bV a.kZ]] w λd5 q=>d5=.returned (.tuple #[])/\eB q (grow S w q) p (qh e a)/\Mod S tkT w q:=by
 obtain⟨f3,i,m,n,l⟩:=a;rcases f3 with _|⟨d,b⟩
 (.simp at d2);simp only at T b1 b0|-;have b3:=zi (a:=⟨d::b,i,m,n,l⟩) H;(have d1:e.led.kept.length<=256:=by have:=H.le.len;have:=H.le.lW;omega);have d3:(d::b)[b.length]'sM∈d::b:=aN _;have A:((d::b).getLastD ⟨0,0⟩)=(d::b)[b.length]'sM:=by
  rw[List.getLastD_eq_getLast?,List.getLast?_eq_getElem?];simp only[aY,Nat.add_sub_cancel];rw[aL sM];rfl
 have d4:Word ((d::b)[b.length]'sM).hi:=(G.sok _ d3).hi;obtain⟨e9,y⟩:=eX (qh e ⟨d::b,i,m,n,l⟩);rw[<-y];rw[yA]at y;simp only[A]at y;obtain⟨Z,e3,e2⟩:=Av (λq (a7:bW w q)=>GH k S P p e a1 c1 a2 c2 ⟨d::b,i,m,n,l⟩ q (h.below a7) H (c5.later a7.size) (aD G.cu a7) T b0) G.cu G.aO;have i6:=h.lt;(have i9:b.length<=31:=by simp at T;omega);have g4:=b1;clear h H c5 G d2 T b1 b0 d3 A;have R:(ed e ⟨d::b,i,m,n,l⟩).fresh.length<=8192:=ay b3.2.2 (by have:=Nat.mul_le_mul (show(d::b).length<=32 by simp;omega) d1;exact this);generalize ed e ⟨d::b,i,m,n,l⟩=h1 at*
 obtain⟨r,g7,f⟩:=h1;simp only at b3 y Z R;obtain⟨d0,c9,g6⟩:=b3;obtain⟨b8,c0⟩:=yx c9 d0;obtain⟨D,A⟩:=eX (((d::b)[b.length]'sM).hi);rw[<-A]at y d4;obtain⟨e6,e0⟩:=yx A y;clear c9 d0 A y d1 g6;go_enter Tryz.func53,Tryz.ntmps53;go_wp2_with fail;obtain⟨a3,Q⟩:=eX (w.alloc (.cells #[.slice a1 (b.length+1) c1,.slice a2 i.length c2,uI m,uI n,bV l] 92));rw[<-Q];(have c6:bW w a3:=by rw[Q];exact BEL);(have b6:Blk a3 w.heap.size 92 #[.slice a1 (b.length+1) c1,.slice a2 i.length c2,uI m,uI n,bV l]:=by rw[Q];exact Wx _ _ _);have N:=zH c6;obtain⟨F,c7⟩:=eX w.heap.size;rw[<-c7]at b6|-;have i7:p<F:=oM;have z:F≠p:=oM;have c3:=zH b6;clear Q c6 b6;refine(Z.o a3 N.o).mono ?_;rintro d5 h6 ⟨a4,f2,rfl,b4,g1⟩;obtain⟨E,O⟩:=yx (TkI.from_ N.o b4 c0.o) (c3.o.mod b4.m dC);simp only at E g1;have g5:=N.o.size;clear b4 Z N c3 c0 c7 g5;have f4:=O.o.Wu 0;have g3:=O.o.lt;obtain⟨a5,b7,rfl,g0,B,s⟩:=Sps.at_ (show Sps h6 P a1 (d::b)from aG e3.o (ts:=[some 272]) (E.o.m.aM dC) sM) (aj _ _) (j:=b.length) sM;rw[<-e6.o]at s;have b5:wrap64 (b.length:Int)=b.length:=qG oM;clear B;go_upto_region 4 with fail;clear b5 s f4 g3 g0;go_cut [42] (λh3 wx=>h3=bV (topB r D)/\X3 (TkI k S w p a4 r wx f)/\X3 (Blk wx F 92 #[.slice (some ⟨a5,b7,none⟩) (b.length+1) c1,.slice a2 i.length c2,uI m,uI n,bV l]));case first=>
  rcases r with _|⟨u,c⟩
  .go_wp2
   go_meet;exact⟨rfl,E,O⟩
  .obtain⟨f5,g9,rfl,g2,B,s,I,J,X,K,L,M⟩:=E.o.row.at_ (aj _ _) (j:=c.length) sM
   have b5:wrap64 (c.length:Int)=c.length:=qG (by simp at R;omega);have o:=ML u c D;generalize(u::c)[c.length]'sM=t at*
   obtain⟨h0,h4,g8,f1,C,h2,h5,f0⟩:=t;simp only at B s I J X K L M o;clear s I J X K L M;have Y:=zH o;clear o;go_wp2;go_meet;exact⟨by rw[Y.o],E,O⟩
 case rest=>
  obtain⟨rfl,v,a0⟩:=hcut;go_upto_if 42 with fail;go_cut [] (λwx=>X3 (TkI k S w p a4 r wx (iF f r D))/\X3 (Blk wx F 92 #[.slice (some ⟨a5,b7,none⟩) (b.length+1) c1,.slice a2 i.length c2,uI m,uI n,bV l]));case first=>
   cases o:topB r D with
   |false=>
    have Y:=zH o;clear o;go_wp2;go_meet;exact⟨by rw[BB,Y.o];exact v,a0⟩
   |true=>
    rcases r with _|⟨u,c⟩
    (.cases o);have V:=BB f (u::c) D;rw[o,aB rfl,show((u::c).getLastD seZ)=(u::c)[c.length]'sM by rw[List.getLastD_eq_getLast?,last_at];rfl]at V;have W:=(b8.o _ (aN (show c.length<(u::c).length by simp))).1.sat;obtain⟨f5,g9,rfl,g2,B,s,I,J,X,K,L,M⟩:=v.o.row.at_ (aj _ _) (j:=c.length) sM;have b5:wrap64 (c.length:Int)=c.length:=qG (by simp at R;omega);generalize(u::c)[c.length]'sM=t at*
    obtain⟨h0,h4,g8,f1,C,h2,h5,f0⟩:=t;simp only at B s I J X K L M V W;have U:=v.o.ok.rtt;have b2:=v.o.ok.now;have a9:=nC b2 W;have e5:=zH (λq=>(sI f.now C b2 W q).mono (R':=λe d6=>e=.returned (uI (WU f.now C))/\bW q d6) (λe d6 h=>⟨h.1,by rw[<-h.2];exact aj _ _⟩));have e4:=zH (Kt f.rtt (WU f.now C) U.bK U.var a9);have e8:=zH (show dG k {f with rtt:=mY f.rtt (WU f.now C)}from{v.o.ok with rtt:=Ad U a9});generalize mY f.rtt (WU f.now C)=h8 at*
    have e1:=zH V;clear o V W B s I J K L M U b2 a9;obtain⟨d7,f7,a6⟩:=v.o.en;obtain⟨j3,j2,j1,j0,x,_,_,f6,_⟩:=a6.ex;obtain⟨i8,i0,i1,i2,i3,i4⟩:=LX a6.lt (x.Wu 17) (x.Wu 23) (x.Wu 24) (x.Wu 25) (x.Wu 26);have i5:=x.Wu 27;clear f7 a6 x f6;go_wp2;refine dQ 19 kR kR ?_;refine mD ?_;(repeat (go_big_quiet_step (first|(go_at_call 122;exact bU _ (e5.o _))|(go_at_call 121;exact bU _ (e4.o _)))));refine aK ?_;refine bwI ?_;intro h7 c8;have a8:bW wc h7:=c8;obtain⟨b9,d8⟩:=yx (v.o.below a8) a8;clear c8 a8;obtain⟨h9,f8,c4⟩:=b9.o.en;obtain⟨j7,j6,j5,j4,g,_⟩:=c4.ex;obtain⟨j8,j9,k0,k1,k2⟩:=g.e5 23 24 25 26 27;obtain⟨k3,k4,k5,k6,k7⟩:=Ju (g.frozen 23) (g.frozen 24) (g.frozen 25) (g.frozen 26) (g.frozen 27);clear g c4 f8;refine dA rfl rfl ?_;go_simp;refine mR ?_;go_wp2;go_meet;refine⟨?_,zH ((a0.o.below d8.o a0.o.lt).far z _|>.far z _|>.far z _|>.far z _|>.far z _)⟩;rw[e1.o];exact zH (b9.o.own (λd7 f9=>f9.setrt h8) e8.o)
  case rest=>
   obtain⟨d9,e7⟩:=hcut;go_step;exact etk4 k S P p F a5 b7 (b.length+1) a4 r f2 c1 g7 _ e9 w wc a2 c2 i m n l D g4 R d4 z e2 b8 e0 d9 e7
end Go.Proofs.YtiflndepmgnojaaGreat
