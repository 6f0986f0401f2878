import Derived.Test.YtiflndepmgnojaaGreatEnu
namespace Go.Proofs.YtiflndepmgnojaaGreat
open Go.RowKit
set_option linter.unusedSimpArgs false
set_option linter.unusedVariables false
set_option maxHeartbeats 8000000
set_option maxRecDepth 100000
attribute[local go_sem] BW.cell BW.frozen
theorem etk4 (k:Nat) (S b5:Nat->Prop) (p u b d1 n:Nat) (q:Option Addr) (c:List Se) (b7 c1:Nat) (a0:Bool) (X R:En) (w wc:World) (a2:Option Addr) (c2:Nat) (f:List Sp) (d3 e4:Int) (d2:Bool) (top:Int)
  (m9:f.length<=32) (f7:c.length<=8192) (g2:Word top) (g0:u≠p) (b2:Hid (Sps w b5 a2 f)) (H:Hid (∀a3∈c,vX a3))
  (b1:Hid (R=nN (jm (lQ (kE (kD (kv (iB (qV X top)).en f c) (iB (qV X top)).lost (iB (qV X top)).some_) c) c a0))))
  (t:Hid (TkI k S w p q c wc X)) (b3:Hid (Blk wc u 92 #[.slice (some ⟨b,d1,none⟩) n c1,.slice a2 f.length c2,uI d3,uI e4,bV d2]))
  {a4 i0 j1 j2 j3 a5 h1 h2 h3 h4 h5 h6 h7 h8 h9 i1 i2 i3 i4 i5 i6 i7 i8 i9 j0 d5 d6 d7 d8 d9 e0 e1 e2 e3:Value} {a6:List Value} (n0:a6.length=174:=by exact rfl):
  let Q':Exit->Act->World->Prop:=bodyPost Tryz.prog Tryz.f53 λa1 g=>a1=.returned (.tuple #[])/\eB g (grow S w g) p R/\Mod S tkT w g
  Code.wp Tryz.prog (WO 4 (Tryz.f53.body.getD .skip)) Q' ⟨((pT p)::a4::i0::(pT u)::.slice q c.length b7::bV a0::uI top::j1::j2::j3::a5::h1::h2::h3::h4::h5::h6::h7::h8::h9::i1::i2::i3::i4::i5::i6::i7::i8::i9::j0::d5::d6::d7::d8::d9::e0::e1::e2::e3::a6).toArray,[]⟩ wc:=by
 intro Q';generalize a6=j5 at*
 revert j5;(repeat (refine lcZ ?_;intro _));refine lzZ ?_
 conv=>arg 2;whnf
 (try dsimp only);obtain⟨z,L,j⟩:=t.out.en;obtain⟨n6,n5,n4,n3,a,_,_,D,_⟩:=j.ex;have g1:=j.lt;obtain⟨f2,f3⟩:=a.cz 43;clear L j a D;go_wp2_with fail;obtain⟨b6,E⟩:=eX (wc.setCell ⟨p,43,none⟩ (uI (max X.dm top)));rw[<-E];have I:=zH (show TkI k S w p q c b6 (qV X top) by rw[E];exact t.out.own (λz M=>M.set1 43 _ _ (λ_ _ _ _=>rfl) rfl rfl rfl rfl) {t.out.ok with dm:=kX t.out.ok.dm g2});have b4:=zH (show Blk b6 u 92 _ by rw[E];exact b3.out.far g0 _);have a9:=zH (tC I.out.ok).2;have G:=zH I.out.find;clear E f2 f3;generalize iB (qV X top)=f4 at*
 obtain⟨g3,g7,e⟩:=f4;simp only at b1 a9 G;refine(G.out).mono ?_;rintro a1 o8 ⟨rfl,c0,j7,c9⟩;have J:=zH c0;have K:=zH (b4.out.mod c9 dC);clear c0 c9 G I b4 t b3;go_upto_block 0 with(fail);go_cut [] (λwx=>Hid (TkI k S w p q c wx (kv e f c)));case first=>
  go_wp2_with fail;go_loopw [10] (λa5 wr=>∃(y:Nat) (l:Int),y<=c.length/\a5=jI l/\l=(y:Int) -1/\Hid (gJ f (c.drop y)=none)/\Hid (TkI k S w p q c wr e)/\Hid (Blk wr u 92 #[.slice (some ⟨b,d1,none⟩) n c1,.slice a2 f.length c2,uI d3,uI e4,bV d2])) (λl _=>(intOf l+1).toNat);(case atStart=>exact⟨c.length,_,av _,rfl,rfl,zH (by rw[List.drop_length];rfl),J,K⟩);case round=>
   clear J K;obtain⟨y,l,f8,rfl,c8,b0,B,C⟩:=hrel;rcases y with _|⟨i⟩
   ·obtain rfl:l= -1:=oM
    have W:=b0.out;rw[List.drop_zero]at W;have e9:=zH (show kv e f c=e by unfold kv;rw[W]);clear W c8;go_wp2_with fail;go_meet;rw[e9.out];exact B
   ·obtain rfl:l=(i:Int):=oM
    have V:i<c.length:=f8;have N:=NJ V b0.out;obtain⟨f5,g4,rfl,T,Z,_⟩:=B.out.row.at_ (aj _ _) V;have Y:=(H.out _ (aN V)).2;generalize c[i]=g6 at*
    obtain⟨r,o2,n2,k0,o1,o0,o7,j9⟩:=g6;simp only at Z N Y;have a4:=C.out.Wu 1;have f9:=C.out.lt;have F:=zH (λg (O:bW wr g)=>Lu b5 a2 c2 f r g (aD (aG b2.out (ts:=[some 272]) (B.out.m.aM dC) sM) O) oM);have m7:(0:Int)<=(i:Int):=oM;have m8:(i:Int)<(c.length:Int):=oM;have A:=zH N;clear N c8;go_wp2_with fail;refine fq kR kR ?_;(repeat (first|go_big_quiet_step ((go_at_call 123;exact bU _ (F.out _ (by apply BW.same))))|quiet_step ((go_at_call 123;exact bU _ (F.out _ (by apply BW.same))))));refine aK ?_;refine bwI ?_;intro s c3;have x:bW wr s:=c3;have o:=zH (B.out.below x);have f0:=zH (C.out.below x C.out.lt);have n1:=(x.cell (p:=⟨f5,g4+i*8,none⟩) T).trans Z;have m6:=aC T x.size;clear c3 x Z a4 f9 F T;cases hcl:dI f r with
    |false=>
     have e5:Hid (gJ f (c.drop i)=none):=zH (by rw[A.out,hcl];rfl);clear A hcl;go_wp2_with fail;go_roundw;(case rel=>exact⟨i,_,oM,rfl,rfl,e5,o,f0⟩);case measure=>simp[intOf]
    |true=>
     have c7:gJ f c=some r:=Gm (m:=i) (by rw[A.out,hcl];rfl);(have Q:kv e f c={e with cc:=yg e.c e.cc r e.led.next}:=by unfold kv;rw[c7]);have U:=AA (m:=f) o.out.ok H.out;rw[Q]at U;have e6:=zH (Oy e.c e.cc r e.led.next o.out.ok.cf o.out.ok.cc Y);generalize yg e.c e.cc r e.led.next=j4 at*
     have e8:=zH U;have e7:=zH Q;clear Q U c7 hcl A Y;obtain⟨z,L,j⟩:=o.out.en;obtain⟨n9,n8,g5,n7,a,_,_,D,_⟩:=j.ex;have g1:=j.lt;have k1:=a.Wu 0;have c1:=a.Wu 1;have c2:=a.Wu 2;have l0:=a.Wu 3;have m0:=a.Wu 4;have m1:=a.Wu 5;have m2:=a.Wu 6;have m3:=a.Wu 7;have m4:=a.Wu 8;have m5:=a.Wu 9;have k2:=a.Wu 10;have k3:=a.Wu 11;have k4:=a.Wu 12;have k5:=a.Wu 13;have k6:=a.Wu 14;have k7:=a.Wu 15;have k8:=a.Wu 16;have l1:=a.Wu 30;have l2:=a.Wu 31;have l3:=a.Wu 32;have l4:=a.Wu 33;have l5:=a.Wu 34;have l6:=a.Wu 35;have l7:=a.Wu 36;have l8:=a.Wu 37;have l9:=a.Wu 38;have k9:=a.Wu 21;have a8:=zH (λg (O:bW s g)=>(pK z g5 e.led g (D.below O)).mono (R':=λb8 d4=>b8=.returned (uI e.led.next)/\bW g d4) (λb8 d4 h=>⟨h.1,by rw[<-h.2];exact aj _ _⟩));clear L j a D;go_wp2_with fail;refine gN kR ?_;refine dR 0 (v:=?_) rfl kR (λ_ _ _ h=>h) (Or.inl ⟨by rfl,?_⟩) ?_;rotate_left
     (·exact λw=>gS);(try simp only[Act.put,Array.setIfInBounds]);(try go_simp);refine eQ 1 19 kR (λg=>∃a3:BW s,g=a3.val) ⟨⟨s.drewN 1,⟨rfl,rfl,rfl,av _,λ_ _=>rfl⟩⟩,rfl⟩ ?_;refine mD ?_;(repeat (first|go_big_quiet_step ((go_at_call 61;exact bU _ (a8.out _ (by apply BW.same))))|quiet_step ((go_at_call 61;exact bU _ (a8.out _ (by apply BW.same))))));refine aK ?_;refine bwI ?_;intro g8 c4;have P:bW s g8:=c4;refine dA rfl rfl ?_;go_simp;go_at_call 124;refine(e6.out _).mono ?_;rintro a1 g9 ⟨rfl,c5⟩;have c6:bW s g9:=P.trans (c5.mono P.size);have a7:=zH (o.out.below c6);clear c4 P c5 c6;obtain⟨j6,f6,b9⟩:=a7.out.en;obtain⟨o6,o5,o4,o3,d,_⟩:=b9.ex;have d5:=d.Wu 30;have d6:=d.Wu 31;have d7:=d.Wu 32;have d8:=d.Wu 33;have d9:=d.Wu 34;have e0:=d.Wu 35;have e1:=d.Wu 36;have e2:=d.Wu 37;have e3:=d.Wu 38;have o9:=d.frozen 30;have p0:=d.frozen 31;have p1:=d.frozen 32;have p2:=d.frozen 33;have p3:=d.frozen 34;have p4:=d.frozen 35;have p5:=d.frozen 36;have p6:=d.frozen 37;have p7:=d.frozen 38;clear d b9 f6;go_simp;refine dR 20 (v:=?_) rfl kR (λ_ _ _ h=>h) (Or.inl ⟨by rfl,?_⟩) ?_;rotate_left
     (·exact λw=>gS);refine dR 21 (v:=?_) rfl kR (λ_ _ _ h=>h) (Or.inl ⟨by rfl,?_⟩) ?_;rotate_left
     (·exact λw=>gS);refine dR 22 (v:=?_) rfl kR (λ_ _ _ h=>h) (Or.inl ⟨by rfl,?_⟩) ?_;rotate_left
     (·exact λw=>gS);(try simp only[Act.put,Array.setIfInBounds]);(try go_simp);refine eQ 23 25 kR (λg=>∃_:Unit,g=_) ⟨(),rfl⟩ ?_;refine mA ?_;rintro h0 ⟨_,d0⟩;rw[d0];clear d0 h0;refine dA rfl rfl ?_;go_simp;refine jY 26 kR kR ?_;refine mC ?_;go_wp2_with fail;go_meet;rw[e7.out];exact zH (a7.out.own (λz M=>M.Ij j4) e8.out)
 case rest=>
  clear K J b2;rename_i j8 f1;exact f1 _ _ (tk13 k S w p q c b7 a0 g3 g7 (kv e f c) _ R hcut a9 H b1 f7)
theorem KZ (k:Nat) (S P:Nat->Prop) (p:Nat) (e:En) (a1:Option Addr) (c1:Nat) (a2:Option Addr) (c2:Nat) (a:Ak) (w:World) (h:eB w S p e) (H:dG k e) (c7:Bd S w) (G:nu w P a1 c1 a2 c2 a) (d4:1<=a.cu.length) (T:a.cu.length<=32) (b1:a.aO.length<=32)
  (b0:∀t∈a.cu,gT e.led<=t.lo/\t.lo<=t.hi/\t.hi<e.led.next):
  Calls Tryz.prog 53 #[pT p,.agg #[.slice a1 a.cu.length c1,.slice a2 a.aO.length c2,uI a.dw,uI a.xor,bV a.kZ]] w λd7 q=>d7=.returned (.tuple #[])/\eB q (grow S w q) p (qh e a)/\Mod S tkT w q:=by
 obtain⟨f3,i,m,n,l⟩:=a;rcases f3 with _|⟨d,b⟩
 (·simp at d4);simp only at T b1 b0|-;have b3:=zi (a:=⟨d::b,i,m,n,l⟩) H;(have d3:e.led.kept.length<=256:=by have:=H.le.len;have:=H.le.lW;omega);have d5:(d::b)[b.length]'sM∈d::b:=aN _;have A:((d::b).getLastD ⟨0,0⟩)=(d::b)[b.length]'sM:=by
  rw[List.getLastD_eq_getLast?,List.getLast?_eq_getElem?];simp only[aY,Nat.add_sub_cancel];rw[aL sM];rfl
 have d6:Word ((d::b)[b.length]'sM).hi:=(G.sok _ d5).hi;obtain⟨e9,y⟩:=eX (qh e ⟨d::b,i,m,n,l⟩);rw[<-y];rw[yA]at y;simp only[A]at y;have Z:=zH (λq (a7:bW w q)=>GH k S P p e a1 c1 a2 c2 ⟨d::b,i,m,n,l⟩ q (h.below a7) H (c7.later a7.size) (aD G.cu a7) T b0);have e5:=zH G.cu;have e4:=zH G.aO;have i6:=h.lt;(have i9:b.length<=31:=by simp at T;omega);have g4:=b1;clear h H c7 G d4 T b1 b0 d5 A;have R:(ed e ⟨d::b,i,m,n,l⟩).fresh.length<=8192:=ay b3.2.2 (by have:=Nat.mul_le_mul (show(d::b).length<=32 by simp;omega) d3;exact this);generalize ed e ⟨d::b,i,m,n,l⟩=h1 at*
 obtain⟨r,g7,f⟩:=h1;simp only at b3 y Z R;obtain⟨d2,d1,g6⟩:=b3;have b8:=zH d1;have c0:=zH d2;obtain⟨D,A⟩:=eX (((d::b)[b.length]'sM).hi);rw[<-A]at y d6;have e6:=zH A;have e2:=zH y;clear d1 d2 A y d3 g6;go_enter Tryz.func53,Tryz.ntmps53;go_wp2_with fail;obtain⟨a3,Q⟩:=eX (w.alloc (.cells #[.slice a1 (b.length+1) c1,.slice a2 i.length c2,uI m,uI n,bV l] 92));rw[<-Q];(have c8:bW w a3:=by rw[Q];exact BEL);(have b6:Blk a3 w.heap.size 92 #[.slice a1 (b.length+1) c1,.slice a2 i.length c2,uI m,uI n,bV l]:=by rw[Q];exact Wx _ _ _);have N:=zH c8;obtain⟨F,c9⟩:=eX w.heap.size;rw[<-c9]at b6|-;have i7:p<F:=oM;have z:F≠p:=oM;have c5:=zH b6;clear Q c8 b6;refine(Z.out a3 N.out).mono ?_;rintro d7 h6 ⟨a4,f2,rfl,b4,g1⟩;have E:=zH (TkI.from_ N.out b4 c0.out);have O:=zH (c5.out.mod b4.m dC);simp only at E g1;have g5:=N.out.size;clear b4 Z N c5 c0 c9 g5;have f4:=O.out.Wu 0;have g3:=O.out.lt;obtain⟨a5,b7,rfl,g0,B,s⟩:=Sps.at_ (show Sps h6 P a1 (d::b)from aG e5.out (ts:=[some 272]) (E.out.m.aM dC) sM) (aj _ _) (j:=b.length) sM;rw[<-e6.out]at s;have b5:wrap64 (b.length:Int)=b.length:=qG oM;clear B;go_upto_region 4 with fail;clear b5 s f4 g3 g0;go_cut [42] (λh3 wx=>h3=bV (topB r D)/\Hid (TkI k S w p a4 r wx f)/\Hid (Blk wx F 92 #[.slice (some ⟨a5,b7,none⟩) (b.length+1) c1,.slice a2 i.length c2,uI m,uI n,bV l]));case first=>
  rcases r with _|⟨u,c⟩
  ·go_wp2_with fail
   go_meet;exact⟨rfl,E,O⟩
  ·obtain⟨f5,g9,rfl,g2,B,s,I,J,X,K,L,M⟩:=E.out.row.at_ (aj _ _) (j:=c.length) sM
   have b5:wrap64 (c.length:Int)=c.length:=qG (by simp at R;omega);have o:=ML u c D;generalize(u::c)[c.length]'sM=t at*
   obtain⟨h0,h4,g8,f1,C,h2,h5,f0⟩:=t;simp only at B s I J X K L M o;clear s I J X K L M;have Y:=zH o;clear o;go_wp2_with fail;go_meet;exact⟨by rw[Y.out],E,O⟩
 case rest=>
  obtain⟨rfl,v,a0⟩:=hcut;go_upto_if 42 with fail;go_cut [] (λwx=>Hid (TkI k S w p a4 r wx (iF f r D))/\Hid (Blk wx F 92 #[.slice (some ⟨a5,b7,none⟩) (b.length+1) c1,.slice a2 i.length c2,uI m,uI n,bV l]));case first=>
   cases o:topB r D with
   |false=>
    have Y:=zH o;clear o;go_wp2_with fail;go_meet;exact⟨by rw[BB,Y.out];exact v,a0⟩
   |true=>
    rcases r with _|⟨u,c⟩
    (·cases o);have V:=BB f (u::c) D;rw[o,aB rfl,show((u::c).getLastD seZ)=(u::c)[c.length]'sM by rw[List.getLastD_eq_getLast?,last_at];rfl]at V;have W:=(b8.out _ (aN (show c.length<(u::c).length by simp))).1.sat;obtain⟨f5,g9,rfl,g2,B,s,I,J,X,K,L,M⟩:=v.out.row.at_ (aj _ _) (j:=c.length) sM;have b5:wrap64 (c.length:Int)=c.length:=qG (by simp at R;omega);generalize(u::c)[c.length]'sM=t at*
    obtain⟨h0,h4,g8,f1,C,h2,h5,f0⟩:=t;simp only at B s I J X K L M V W;have U:=v.out.ok.rtt;have b2:=v.out.ok.now;have a9:=nC b2 W;have c4:=zH (λq=>(sI f.now C b2 W q).mono (R':=λe d8=>e=.returned (uI (WU f.now C))/\bW q d8) (λe d8 h=>⟨h.1,by rw[<-h.2];exact aj _ _⟩));have c3:=zH (Kt f.rtt (WU f.now C) U.bK U.var a9);have e8:=zH (show dG k {f with rtt:=mY f.rtt (WU f.now C)}from{v.out.ok with rtt:=Ad U a9});generalize mY f.rtt (WU f.now C)=h8 at*
    have e3:=zH V;clear o V W B s I J K L M U b2 a9;obtain⟨d9,f7,a6⟩:=v.out.en;obtain⟨j3,j2,j1,j0,x,_,_,f6,_⟩:=a6.ex;have i8:=a6.lt;have i0:=x.Wu 17;have i1:=x.Wu 23;have i2:=x.Wu 24;have i3:=x.Wu 25;have i4:=x.Wu 26;have i5:=x.Wu 27;clear f7 a6 x f6;go_wp2_with fail;refine dQ 19 kR kR ?_;refine mD ?_;(repeat (first|go_big_quiet_step (first|(go_at_call 122;exact bU _ (c4.out _))|(go_at_call 121;exact bU _ (c3.out _)))|quiet_step (first|(go_at_call 122;exact bU _ (c4.out _))|(go_at_call 121;exact bU _ (c3.out _)))));refine aK ?_;refine bwI ?_;intro h7 d0;have a8:bW wc h7:=d0;have b9:=zH (v.out.below a8);have e0:=zH a8;clear d0 a8;obtain⟨h9,f8,c6⟩:=b9.out.en;obtain⟨j7,j6,j5,j4,g,_⟩:=c6.ex;have j8:=g.Wu 23;have j9:=g.Wu 24;have k0:=g.Wu 25;have k1:=g.Wu 26;have k2:=g.Wu 27;have k3:=g.frozen 23;have k4:=g.frozen 24;have k5:=g.frozen 25;have k6:=g.frozen 26;have k7:=g.frozen 27;clear g c6 f8;refine dA rfl rfl ?_;go_simp;refine mR ?_;go_wp2_with fail;go_meet;refine⟨?_,zH ((a0.out.below e0.out a0.out.lt).far z _|>.far z _|>.far z _|>.far z _|>.far z _)⟩;rw[e3.out];exact zH (b9.out.own (λd9 f9=>f9.setrt h8) e8.out)
  case rest=>
   obtain⟨e1,e7⟩:=hcut;go_step;exact etk4 k S P p F a5 b7 (b.length+1) a4 r f2 c1 g7 _ e9 w wc a2 c2 i m n l D g4 R d6 z e4 b8 e2 e1 e7
end Go.Proofs.YtiflndepmgnojaaGreat
