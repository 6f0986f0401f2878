import Derived.Test.YtiflndepmgnojaaGreatEnt
namespace Go.Proofs.YtiflndepmgnojaaGreat
open Go.RowKit Tryz
set_option linter.unusedSimpArgs false
set_option linter.unusedVariables false
set_option maxHeartbeats 8000000
set_option maxRecDepth 100000
variable {I:List Sp} {V:List Value} {b k m p:Nat}
attribute[local go_sem] BW.cell BW.frozen
theorem TkI.from_ {S:X4} {w d wr:World} {e:X5} {a:Rse} (hb:bW w d) (h:StF S d p wr a e b) (c:dG k a.en):TkI k S w p e a.fresh wr a.en:=by
 obtain⟨g,i,j,l,m,n⟩:=h.ex;exact⟨⟨g,i,λk c=>(j k c).imp id (λf=>⟨ay hb.size f.1,f.2⟩),l,m,n⟩,c,(aH hb).then (h.m.mono (λ_ _ h=>h) (by simp[stT,tkT])) (λ_ _ h=>h)⟩
def topB (a:List Se) (top:Int):Bool:=match a.getLast? with
 |none=>false
 |some s=>s.pn==top
theorem BB (e:En) (a:List Se) (top:Int):iF e a top=(if topB a top then{e with rtt:=mY e.rtt (WU e.now (a.getLastD seZ).sat)}else e):=by
 unfold iF topB;rcases List.eq_nil_or_concat a with rfl|⟨d,c,rfl⟩
 .rfl
 .simp only[List.concat_eq_append,List.getLast?_append,List.getLast?_singleton,Option.some_or,List.getLastD_eq_getLast?,Option.getD_some]
  by_cases b:c.pn=top<;>simp[b]
theorem last_at {a:Type} {x:a} {xs:List a}:(x::xs).getLast?=some ((x::xs)[xs.length]'sM):=by
 rw[List.getLast?_eq_getElem?];simp only[aY,Nat.add_sub_cancel];rw[aL sM]
theorem ML (x:Se) (xs:List Se) (top:Int):topB (x::xs) top=(((x::xs)[xs.length]'sM).pn==top):=by unfold topB;rw[last_at]
theorem Ce (b:List Sp):∀(c a:List Se),gJ b (c++a)=match gJ b a with|some p=>some p|none=>gJ b c
 |[],a=>by cases h:gJ b a<;>(rw[List.nil_append,h];try rfl)
 |s::t,a=>by
  have d:=Ce b t a;show(match gJ b (t++a)with|some p=>some p|none=>if dI b s.pn then some s.pn else none)=_
  rw[d];cases gJ b a<;>rfl
theorem NJ {l:List Se} (a:m<l.length) (h:gJ I (l.drop (m+1))=none):gJ I (l.drop m)=if dI I l[m].pn then some l[m].pn else none:=by
 rw[aR a];show(match gJ I (l.drop (m+1))with|some p=>some p|none=>if dI I l[m].pn then some l[m].pn else none)=_
 rw[h]
theorem Gm {l:List Se} {p:Int} (h:gJ I (l.drop m)=some p):gJ I l=some p:=by
 have:=Ce I (l.take m) (l.drop m);rw[List.take_append_drop,h]at this;exact this
def WO:Nat->Code->Code
 |0,c=>c
 |n+1,.seq _ b=>WO n b
 |_+1,c=>c
theorem tk24 (k:Nat) (S:X4) (w:World) (p:Nat) (n:X5) (b:List Se) (a5:Nat) (f:Bool) (a:En) (wc:World) (R:En) (t:X3 (TkI k S w p n b wc a)) (A:X3 (R=nN (jm (lQ a b f)))) (f7:b.length<=8192)
  {b8 c9 d8 d9 e0 e1 e2 b9 c0 c1 c2 c3 c4 c5 c6 c7 c8 d0 d1 d2 d3 d4 d5 d6 d7 D E:Value} (f9:V.length=183:=by exact rfl):
  let Q':X7:=bodyPost prog Tryz.f53 λb5 l=>b5=.returned (.tuple #[])/\eB l (grow S w l) p R/\Mod S tkT w l
  Code.wp prog (WO 11 (Tryz.f53.body.getD .skip)) Q' ⟨((pT p)::b8::c9::d8::.slice n b.length a5::bV f::d9::e0::e1::e2::b9::c0::c1::c2::c3::c4::c5::c6::c7::c8::d0::d1::d2::d3::d4::d5::d6::d7::D::E::V).toArray,[]⟩ wc:=by
 intro Q';generalize V=e5 at*
 revert e5;(repeat (refine lcZ ?_;intro _));refine lzZ ?_
 conv=>arg 2;whnf
 (try dsimp only);go_upto_region 24 with fail;go_cut [183] (λb6 wx=>b6=bV (decide (0<b.length)||f)/\X3 (TkI k S w p n b wx a));case first=>
  rcases b with _|⟨g6,g7⟩
  .cases f with
   |false=>go_wp2;go_meet;exact⟨rfl,t⟩
   |true=>go_wp2;go_meet;exact⟨rfl,t⟩
  .go_wp2
   go_meet;exact⟨sM,t⟩
 case rest=>
  obtain⟨rfl,i⟩:=hcut;clear t;go_upto_if 183 with fail;go_cut [] (λwx=>X3 (TkI k S w p n b wx (lQ a b f)));case first=>
   cases hc:(decide (0<b.length)||f)with
   |false=>
    (have r:lQ a b f=a:=by unfold lQ;rw[Ww (by simp at hc;simp[hc])]);have y:=zH r;clear r hc;go_wp2;go_meet;rw[y.o];exact i
   |true=>
    (have r:lQ a b f={a with dS:=KD a.now,fP:=false}:=by unfold lQ;rw[aB (by simpa using hc)]);obtain⟨y,I⟩:=yx r (show dG k {a with dS:=⟨0,a.now⟩}from{i.o.ok with pr:=Ej i.o.ok.now});have a1:=zH (λl=>(Ra a.dS.count a.dS.since a.now l).mono (R':=λK Y=>K=.returned (.agg #[jI 0,uI a.now])/\bW l Y) (λK Y h=>⟨h.1,by obtain⟨e8,f1,a8⟩:=h.2;rw[a8];exact BEL⟩));clear r hc;obtain⟨g,o,c⟩:=i.o.en;obtain⟨g4,g3,g2,g1,d,_,_,a7,_⟩:=c.ex;obtain⟨f8,e9,f2,f3⟩:=Hl c.lt (d.Wu 17) (d.Wu 28) (d.Wu 29);clear o c d a7;go_wp2;refine dQ 12 kR kR ?_;refine mD ?_;(repeat (go_big_quiet_step ((go_at_call 127;exact bU _ (a1.o _)))));refine aK ?_;refine bwI ?_;intro Z N;have C:bW wc Z:=N;obtain⟨H,e7⟩:=yx (i.o.below C) C;clear N C;obtain⟨e6,a9,L⟩:=H.o.en;obtain⟨X,W,U,T,s,_⟩:=L.ex;obtain⟨D,E⟩:=s.e2 28 29;have e3:=s.frozen 28;have e4:=s.frozen 29;clear s L a9;refine dA rfl rfl ?_;go_simp;refine mR ?_;obtain⟨a4,B⟩:=eX ((Z.setCell ⟨p,28,none⟩ (jI 0)).setCell ⟨p,29,none⟩ (uI a.now));rw[<-B];have F:=zH (show TkI k S w p n b a4 {a with dS:=⟨0,a.now⟩} by
     rw[B];exact H.o.own (λg q=>by
      obtain⟨b0,b2⟩:=q.set1 28 (jI 0) {a with dS:=⟨0,a.dS.since⟩} (λ_ _ _ _=>rfl) rfl rfl rfl rfl;obtain⟨b1,b3⟩:=b0.set1 29 (uI a.now) {a with dS:=⟨0,a.now⟩} (λ_ _ _ _=>rfl) rfl rfl rfl rfl;exact⟨b1,b2.trans b3⟩) I.o)
    clear B D E e3 e4;obtain⟨g,o,c⟩:=F.o.en;obtain⟨X,W,U,T,d,_⟩:=c.ex;obtain⟨f4,f6⟩:=d.cz 46;clear o c d;go_wp2;go_meet;rw[y.o];exact zH (F.o.own (e':={a with dS:=⟨0,a.now⟩,fP:=false}) (λg q=>q.set1 46 (bV false) _ (λ_ _ _ _=>rfl) rfl rfl rfl rfl) {I.o with})
  case rest=>
   have G:=hcut;clear i;generalize lQ a b f=a6 at*
   go_wp2_with fail;refine Yd G.o.paced ?_;rintro a0 ⟨M,_⟩;have u:=zH M;clear M G;generalize jm a6=e at*
   obtain⟨g,o,c⟩:=u.o.en;obtain⟨X,W,U,T,d,_⟩:=c.ex;obtain⟨v,J⟩:=d.cz 18;have O:=c.lt;have a2:=zH (JJ g p e a0 c u.o.ok.qu);clear o c d;by_cases j:e.aS=2
   .rw[j]at v
    have a3:=zH j;clear j;go_wp2_with fail;refine Yd a2.o ?_;rintro b7 ⟨g0,Q⟩;(have x:bW a0 b7:=by rw[Q];exact aA (aj _ _) _);have z:=zH (u.o.below x);have f0:=(x.cell (p:=⟨p,18,none⟩) O).trans v;have f5:=(x.frozen (p:=⟨p,18,none⟩) O).trans J;clear Q x v J;cases hdn:rC e with
    |false=>
     have m:X3 (R=e):=zH (by rw[A.o];unfold nN;rw[Ww (by simp[hdn])]);go_wp2;refine mE ?_;rw[m.o];exact⟨rfl,z.o.fin⟩
    |true=>
     have m:X3 (R={e with aS:=3}):=zH (by rw[A.o];unfold nN;rw[aB ⟨a3.o,hdn⟩]);go_wp2;refine mE ?_;rw[m.o];exact⟨rfl,(z.o.own (e':={e with aS:=3}) (λg q=>q.set1 18 (jI 3) _ (λ_ _ _ _=>rfl) rfl rfl rfl rfl) {z.o.ok with st0:=by simp,st1:=by simp}).fin⟩
   .have b4:(e.aS==2)=false:=by simp[j]
    have m:X3 (R=e):=zH (by rw[A.o];unfold nN;rw[Ww (by simp[j])]);obtain⟨g5,P⟩:=eX e.aS;rw[<-P]at v b4;clear j P;go_wp2;refine mE ?_;rw[m.o];exact⟨rfl,u.o.fin⟩
theorem tk22 (k:Nat) (S:X4) (w:World) (p:Nat) (j:X5) (d:List Se) (x:Nat) (t:Bool) (e:Int) (b:En) (wc:World) (R:En) (f:X3 (TkI k S w p j d wc b)) (N:X3 (∀a6∈d,vX a6)) (o:X3 (e=ko b.cc.round d)) (W:0<=e) (X:e<=1500*d.length) (Q:X3 (R=nN (jm (lQ (kE b d) d t)))) (a3:d.length<=8192)
  {a7 b7 c8 c9 d0 d1 d2 a8 a9 b0 b1 b2 b3 b4 b5 b6 b8 b9 c0 c1 c2 c3 c4 c5 c6 c7 D E F G H I J K L:Value} (g6:V.length=174:=by exact rfl):
  let Q':X7:=bodyPost prog Tryz.f53 λa4 g=>a4=.returned (.tuple #[])/\eB g (grow S w g) p R/\Mod S tkT w g
  Code.wp prog (WO 10 (Tryz.f53.body.getD .skip)) Q' ⟨((pT p)::a7::b7::c8::.slice j d.length x::bV t::c9::d0::d1::d2::a8::uI e::a9::b0::b1::b2::b3::b4::b5::b6::b8::b9::c0::c1::c2::c3::c4::c5::c6::c7::D::E::F::G::H::I::J::K::L::V).toArray,[]⟩ wc:=by
 intro Q';generalize V=d4 at*
 revert d4;(repeat (refine lcZ ?_;intro _));refine lzZ ?_
 conv=>arg 2;whnf
 (try dsimp only);go_upto_if 158 with fail;go_cut [] (λwx=>X3 (TkI k S w p j d wx (kE b d)));case first=>
  by_cases n:0<e
  .have a2:decide (e>0)=true:=sO
   (have i:kE b d={b with cc:=vQ b.c b.cc e b.now (iI b)}:=by unfold kE;rw[<-o.o,aB n]);have s:=CG (l:=d) f.o.ok N.o oM;rw[i]at s;have A:Word e:=⟨oM,oM⟩;obtain⟨M,q⟩:=yx (SK b.c b.cc e b.now (iI b) f.o.ok.cf f.o.ok.cc A f.o.ok.now (rZ f.o.ok)) i;generalize vQ b.c b.cc e b.now (iI b)=d3 at*
   have P:=zH s;clear s i A;obtain⟨u,Z,m⟩:=f.o.en;obtain⟨h0,g9,g8,g7,a,_,_,Y,_⟩:=m.ex;obtain⟨g5,e7,d8,d9,e8,e9⟩:=LX m.lt (a.Wu 17) (a.Wu 0) (a.Wu 1) (a.Wu 2) (a.Wu 3);obtain⟨f9,g0,g1,g2,g3,g4⟩:=a.e6 4 5 6 7 8 9;obtain⟨e0,e1,e2,e3,e4,e5⟩:=a.e6 10 11 12 13 14 15;obtain⟨e6,f0,f1,f2,f3,f4⟩:=a.e6 16 30 31 32 33 34;obtain⟨f5,f6,f7,f8⟩:=a.e4 35 36 37 38;have T:=zH (λg (n:bW wc g)=>(xJ u p b g (m.below n)).mono (R':=λy C=>y=.returned (uI (iI b))/\bW g C) (λy C h=>⟨h.1,by rw[h.2];exact aj _ _⟩));clear Z m a Y;go_wp2;refine dQ 19 kR kR ?_;refine mD ?_;(repeat (go_big_quiet_step (first|(go_at_call 69;exact bU _ (T.o _ (by apply BW.same)))|(go_at_call 126;exact bU _ (M.o _)))));refine aK ?_;refine bwI ?_;intro a5 B;have r:bW wc a5:=B;obtain⟨v,d6⟩:=yx (f.o.below r) r;clear B r;obtain⟨d5,a0,z⟩:=v.o.en;obtain⟨h4,h3,h2,h1,c,_⟩:=z.ex;obtain⟨D,E,F,G,H,I⟩:=c.e6 30 31 32 33 34 35;obtain⟨J,K,L⟩:=c.e3 36 37 38;obtain⟨h5,h6,h7,h8,h9,i0⟩:=LX (c.frozen 30) (c.frozen 31) (c.frozen 32) (c.frozen 33) (c.frozen 34) (c.frozen 35);have i1:=c.frozen 36;have i2:=c.frozen 37;have i3:=c.frozen 38;clear c z a0;refine dA rfl rfl ?_;go_simp;refine mR ?_;go_wp2;go_meet;rw[q.o];exact zH (v.o.own (λu a1=>a1.Ij d3) P.o)
  .have a2:decide (e>0)=false:=sO
   (have i:kE b d=b:=by unfold kE;rw[<-o.o,Ww n]);have q:=zH i;clear i;go_wp2;go_meet;rw[q.o];exact f
 case rest=>
  have O:=hcut;clear f o W X;rename_i d7 U;exact U _ _ (tk24 k S w p j d x t (kE b d) _ R O Q a3)
theorem tk15 (k:Nat) (S:X4) (w:World) (p:Nat) (m:X5) (a:List Se) (a0:Nat) (J:Bool) (c:En) (wc:World) (R:En) (P:X3 (TkI k S w p m a wc c)) (A:X3 (∀e8∈a,vX e8)) (c8:X3 (R=nN (jm (lQ (kE c a) a J)))) (d8:a.length<=8192)
  {e9 c4 l0 o1 p2 q3 r4 f0 K h1 c1 j2 j5 j6 j7 j8 j9 k0 k1 k2 k3 k4 k5 k6 k7 k8 k9 l1 l2 l3 l4 l5 l6 l7 l8 l9 m0 m1 m2 m3 m4 m5 m6 m7 m8 m9 n0 n1 n2 n3 n4 n5 n6 n7 n8 n9 o0 o2 o3 o4 o5 o6 o7 o8 o9 p0 p1 p3 p4 p5 p6 p7 p8 p9 q0 q1 q2 q4 q5 q6 q7 q8 q9 r0 r1 r2 r3 r5 r6 r7 r8 r9 s0 s1 s2 s3 s4 f1 f2 f3 f4 f5 f6 f7 f8 f9 g0 g1 g2 g3 g4 g5 g6 g7 g8 g9 h0 h2 h3 h4 h5 h6 h7 h8 h9 i0 i1 i2 i3 i4 i5 i6 i7 i8 i9 j0 j1 j3 j4 c2 c3:Value} (t5:V.length=69:=by exact rfl):
  let Q':X7:=bodyPost prog Tryz.f53 λe4 l=>e4=.returned (.tuple #[])/\eB l (grow S w l) p R/\Mod S tkT w l
  Code.wp prog (WO 8 (Tryz.f53.body.getD .skip)) Q' ⟨((pT p)::e9::c4::l0::.slice m a.length a0::bV J::o1::p2::q3::r4::f0::K::h1::c1::j2::j5::j6::j7::j8::j9::k0::k1::k2::k3::k4::k5::k6::k7::k8::k9::l1::l2::l3::l4::l5::l6::l7::l8::l9::m0::m1::m2::m3::m4::m5::m6::m7::m8::m9::n0::n1::n2::n3::n4::n5::n6::n7::n8::n9::o0::o2::o3::o4::o5::o6::o7::o8::o9::p0::p1::p3::p4::p5::p6::p7::p8::p9::q0::q1::q2::q4::q5::q6::q7::q8::q9::r0::r1::r2::r3::r5::r6::r7::r8::r9::s0::s1::s2::s3::s4::f1::f2::f3::f4::f5::f6::f7::f8::f9::g0::g1::g2::g3::g4::g5::g6::g7::g8::g9::h0::h2::h3::h4::h5::h6::h7::h8::h9::i0::i1::i2::i3::i4::i5::i6::i7::i8::i9::j0::j1::j3::j4::c2::c3::V).toArray,[]⟩ wc:=by
 intro Q';generalize V=s5 at*
 revert s5;(repeat (refine lcZ ?_;intro _));refine lzZ ?_
 conv=>arg 2;whnf
 (try dsimp only);obtain⟨g,s⟩:=eX (ko c.cc.round a);have F:=rX c.cc.round a 0 oM (λe e2=>A.o e e2);(have d5:0<=g:=by rw[s];exact F.1);(have d6:g<=1500*a.length:=by rw[s];have:=F.2;unfold ko;omega);have M:=zH s;clear F s;obtain⟨r,a7⟩:=eX c.cc.round.iO;obtain⟨a1,a4⟩:=eX c.cc.round.mX;obtain⟨O,T,c5⟩:=Av (show a.foldl (λq e=>if WM c.cc.round e.pn then q+e.len else q) 0=g from M.o.symm) a7 a4;clear a7 a4;go_upto_block 2 with(fail);go_cut [11] (λe5 wx=>e5=uI g/\X3 (TkI k S w p m a wx c));case rest=>
  obtain⟨rfl,j⟩:=hcut;rename_i s7 d0;exact d0 _ _ (tk22 k S w p m a a0 J g c _ R j A M d5 d6 c8 d8)
 go_wp2;go_loopw [140,11,13,142,143] (λI K c1 c2 c3 wr=>∃(d:Nat) (f:Int),d<=a.length/\I=jI d/\K=uI f/\X3 (0<=f/\f<=1500*d)/\X3 ((a.drop d).foldl (λq e=>if WM c.cc.round e.pn then q+e.len else q) f=g)/\X3 (TkI k S w p m a wr c)) (λI _ _ _ _ _=>a.length -(intOf I).toNat);(case atStart=>exact⟨0,0,oM,rfl,rfl,zH ⟨oM,oM⟩,O,P⟩);case round=>
  clear P O;obtain⟨d,f,e0,rfl,rfl,L,z,j⟩:=hrel;obtain⟨s8,s9⟩:=L.o;by_cases u:d<a.length
  .obtain⟨t1,t6,rfl,d9,a8,a9,b0,b1,b2,b3,b4,b5⟩:=j.o.row.at_ (aj _ _) u
   have b:=z.o;rw[aR u,List.foldl_cons]at b;have G:=(A.o _ (aN u)).1;generalize a[d]=e at*
   obtain⟨i,b8,o,X,b7,b6,b9,W⟩:=e;have t2:0<=o:=G.yQ;have t3:o<=1500:=G.Dr;simp only at a8 a9 b0 b1 b2 b3 b4 b5 b;clear G;obtain⟨s6,d4,D⟩:=j.o.en;obtain⟨v0,t9,t8,t7,C,_⟩:=D.ex;(have Y:wr.cell? ⟨p,37,none⟩=some (uI r):=by rw[T.o];exact C.cell 37);(have Z:wr.cell? ⟨p,38,none⟩=some (uI a1):=by rw[c5.o];exact C.cell 38);have v:=D.lt;clear d4 D C;(have a5:WM c.cc.round i=decide (r<=i):=by rw[T.o];rfl);rw[a5]at b;have N:=zH b;have a6:=(λl=>(NT r a1 i l).mono (R':=λa2 c0=>a2=.returned (bV (decide (r<=i)))/\bW l c0) (λa2 c0 h=>⟨h.1,by obtain⟨t0,d3⟩:=h.2;rw[d3];exact BEL⟩));clear b a5;generalize decide (r<=i)=c9 at*
   have c6:=zH a6;clear a6;go_wp2_with fail;obtain⟨B,t⟩:=eX (wr.alloc (.cells #[uI i,uI b8,uI o,uI X,uI b7,bV b6,bV b9,jI W] 177));rw[<-t];(have n:bW wr B:=by rw[t];exact BEL);(have x:Blk B wr.heap.size 177 #[uI i,uI b8,uI o,uI X,uI b7,bV b6,bV b9,jI W]:=by rw[t];exact Wx _ _ _);have c7:=zH (j.o.below n);obtain⟨e6,d1,d2,e1,e3⟩:=Ju (x.Wu 0) ((n.cell (p:=⟨p,37,none⟩) v).trans Y) ((n.cell (p:=⟨p,38,none⟩) v).trans Z) (aC v n.size) x.lt;have U:=zH x;clear t n x Y Z a8 a9 b0 b1 b2 b3 b4 b5 d9 v;generalize wr.heap.size=v1 at*
   refine fq kR kR ?_;(repeat (go_big_quiet_step ((go_at_call 125;exact bU _ (c6.o _)))));refine aK ?_;refine bwI ?_;intro e7 a3;have E:bW B e7:=a3;have Q:=zH (c7.o.below E);have H:=U.o.below E U.o.lt;have c4:=H.Wu 2;have t4:=H.lt;clear a3 E H e6 d1 d2 e1 e3;cases c9 with
   |true=>
    have b:=N.o;rw[aB rfl]at b;have y:=zH b;clear b;go_wp2;go_roundw;(case rel=>exact⟨d+1,f+o,oM,by go_num,rfl,zH ⟨oM,oM⟩,y,Q⟩);case measure=>exact Yl
   |false=>
    have b:=N.o;rw[Ww dC]at b;have y:=zH b;clear b;go_wp2;go_roundw;(case rel=>exact⟨d+1,f,oM,by go_num,rfl,zH ⟨oM,oM⟩,y,Q⟩);case measure=>exact Yl
  .obtain rfl:d=a.length:=oM
   have b:=z.o;rw[List.drop_length]at b;have d7:f=g:=b;subst d7;clear b z L u e0;go_wp2;go_meet;exact⟨rfl,j⟩
theorem tk13 (k:Nat) (S:X4) (w:World) (p:Nat) (l:X5) (g:List Se) (x:Nat) (s:Bool) (f:Int) (j:Bool) (d:En) (wc:World) (R:En) (i:X3 (TkI k S w p l g wc d)) (m:X3 (Word f)) (T:X3 (∀t∈g,vX t)) (Y:X3 (R=nN (jm (lQ (kE (kD d f j) g) g s)))) (a4:g.length<=8192)
  {a9 c0 d1 d2 d3 b0 b1 b2 b3 b4 b5 b6 b7 b8 b9 c1 c2 c3 c4 c5 c6 c7 c8 c9 d0 H I J K L M N O P:Value} (g6:V.length=174:=by exact rfl):
  let Q':X7:=bodyPost prog Tryz.f53 λF e=>F=.returned (.tuple #[])/\eB e (grow S w e) p R/\Mod S tkT w e
  Code.wp prog (WO 7 (Tryz.f53.body.getD .skip)) Q' ⟨((pT p)::a9::c0::d1::.slice l g.length x::bV s::d2::d3::uI f::bV j::b0::b1::b2::b3::b4::b5::b6::b7::b8::b9::c1::c2::c3::c4::c5::c6::c7::c8::c9::d0::H::I::J::K::L::M::N::O::P::V).toArray,[]⟩ wc:=by
 intro Q';generalize V=d5 at*
 revert d5;(repeat (refine lcZ ?_;intro _));refine lzZ ?_
 conv=>arg 2;whnf
 (try dsimp only);go_upto_if 116 with fail;go_cut [] (λwx=>X3 (TkI k S w p l g wx (kD d f j)));case first=>
  cases j with
  |false=>
   go_wp2;go_meet;exact i
  |true=>
   have r:=uJ (b:=true) i.o.ok m.o;have q:kD d f true={d with cc:=uN d.c d.cc f d.led.next}:=rfl;rw[q]at r;obtain⟨X,Q⟩:=yx (Ja d.c d.cc f d.led.next i.o.ok.cf i.o.ok.cc m.o) q;generalize uN d.c d.cc f d.led.next=d4 at*
   have U:=zH r;clear r q;obtain⟨u,a0,n⟩:=i.o.en;obtain⟨g9,g8,a5,g7,a,_,_,z,_⟩:=n.ex;obtain⟨g5,d8,d9,e7,e9,f9⟩:=LX n.lt (a.Wu 0) (a.Wu 1) (a.Wu 2) (a.Wu 3) (a.Wu 4);obtain⟨g0,g1,g2,g3,g4,e0⟩:=a.e6 5 6 7 8 9 10;obtain⟨e1,e2,e3,e4,e5,e6⟩:=a.e6 11 12 13 14 15 16;obtain⟨f0,f1,f2,f3,f4,f5⟩:=a.e6 30 31 32 33 34 35;obtain⟨f6,f7,f8,e8⟩:=a.e4 36 37 38 21;have W:=zH (λe (a3:bW wc e)=>(pK u a5 d.led e (z.below a3)).mono (R':=λy G=>y=.returned (uI d.led.next)/\bW e G) (λy G h=>⟨h.1,by rw[<-h.2];exact aj _ _⟩));clear a0 n a z;go_wp2;refine gN kR ?_;refine X9 0 ?_;(try simp only[Act.put,Array.setIfInBounds]);(try go_simp);refine eQ 1 15 kR (λe=>∃t:BW wc,e=t.val) ⟨⟨wc.drewN 1,⟨rfl,rfl,rfl,av _,λ_ _=>rfl⟩⟩,rfl⟩ ?_;refine mD ?_;(repeat (go_big_quiet_step ((go_at_call 61;exact bU _ (W.o _ (by apply BW.same))))));refine aK ?_;refine bwI ?_;intro a6 B;have o:bW wc a6:=B;refine dA rfl rfl ?_;go_simp;go_at_call 60;refine(X.o _).mono ?_;rintro F a7 ⟨rfl,C⟩;have D:bW wc a7:=o.trans (C.mono o.size);have v:=zH (i.o.below D);clear B o C D;obtain⟨d6,a1,A⟩:=v.o.en;obtain⟨h3,h2,h1,h0,c,_⟩:=A.ex;obtain⟨H,I,J,K,L,M⟩:=c.e6 30 31 32 33 34 35;obtain⟨N,O,P⟩:=c.e3 36 37 38;obtain⟨h4,h5,h6,h7,h8,h9⟩:=LX (c.frozen 30) (c.frozen 31) (c.frozen 32) (c.frozen 33) (c.frozen 34) (c.frozen 35);have i0:=c.frozen 36;have i1:=c.frozen 37;have i2:=c.frozen 38;clear c A a1;go_simp;refine X9 16 ?_;refine X9 17 ?_;refine X9 18 ?_;(try simp only[Act.put,Array.setIfInBounds]);(try go_simp);refine eQ 19 21 kR (λe=>∃_:Unit,e=_) ⟨(),rfl⟩ ?_;refine mA ?_;rintro a8 ⟨_,E⟩;rw[E];clear E a8;refine dA rfl rfl ?_;go_simp;refine jY 22 kR kR ?_;refine mC ?_;go_wp2;go_meet;rw[Q.o];exact zH (v.o.own (λu a2=>a2.Ij d4) U.o)
 case rest=>
  clear i m;rename_i d7 Z;exact Z _ _ (tk15 k S w p l g x s (kD d f j) _ R hcut T Y a4)
end Go.Proofs.YtiflndepmgnojaaGreat
