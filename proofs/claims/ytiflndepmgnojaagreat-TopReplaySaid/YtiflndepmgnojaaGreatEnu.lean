import Derived.Test.YtiflndepmgnojaaGreatEnt
namespace Go.Proofs.YtiflndepmgnojaaGreat
open Go.RowKit
set_option linter.unusedSimpArgs false
set_option linter.unusedVariables false
set_option maxHeartbeats 8000000
set_option maxRecDepth 100000
attribute[local go_sem] BW.cell BW.frozen
theorem TkI.from_ {k p g:Nat} {S:Nat->Prop} {w c wr:World} {d:Option Addr} {a:Rse} (hb:bW w c) (h:StF S c p wr a d g) (b:dG k a.en):TkI k S w p d a.fresh wr a.en:=by
 obtain⟨f,i,j,l,m,n⟩:=h.ex;exact⟨⟨f,i,λk b=>(j k b).imp id (λe=>⟨ay hb.size e.1,e.2⟩),l,m,n⟩,b,(aH hb).then (h.m.mono (λ_ _ h=>h) (by simp[stT,tkT])) (λ_ _ h=>h)⟩
def topB (a:List Se) (top:Int):Bool:=match a.getLast? with
 |none=>false
 |some s=>s.pn==top
theorem BB (e:En) (a:List Se) (top:Int):iF e a top=(if topB a top then{e with rtt:=mY e.rtt (WU e.now (a.getLastD seZ).sat)}else e):=by
 unfold iF topB;rcases List.eq_nil_or_concat a with rfl|⟨d,c,rfl⟩
 ·rfl
 ·simp only[List.concat_eq_append,List.getLast?_append,List.getLast?_singleton,Option.some_or,List.getLastD_eq_getLast?,Option.getD_some]
  by_cases b:c.pn=top<;>simp[b]
theorem last_at {a:Type} {x:a} {xs:List a}:(x::xs).getLast?=some ((x::xs)[xs.length]'sM):=by
 rw[List.getLast?_eq_getElem?];simp only[aY,Nat.add_sub_cancel];rw[aL sM]
theorem ML (x:Se) (xs:List Se) (top:Int):topB (x::xs) top=(((x::xs)[xs.length]'sM).pn==top):=by unfold topB;rw[last_at]
theorem Ce (b:List Sp):∀(c a:List Se),gJ b (c++a)=match gJ b a with|some p=>some p|none=>gJ b c
 |[],a=>by cases h:gJ b a<;>(rw[List.nil_append,h];try rfl)
 |s::t,a=>by
  have d:=Ce b t a;show(match gJ b (t++a)with|some p=>some p|none=>if dI b s.pn then some s.pn else none)=_
  rw[d];cases gJ b a<;>rfl
theorem NJ {a:List Sp} {l:List Se} {m:Nat} (b:m<l.length) (h:gJ a (l.drop (m+1))=none):gJ a (l.drop m)=if dI a l[m].pn then some l[m].pn else none:=by
 rw[aR b];show(match gJ a (l.drop (m+1))with|some p=>some p|none=>if dI a l[m].pn then some l[m].pn else none)=_
 rw[h]
theorem Gm {a:List Sp} {l:List Se} {m:Nat} {p:Int} (h:gJ a (l.drop m)=some p):gJ a l=some p:=by
 have:=Ce a (l.take m) (l.drop m);rw[List.take_append_drop,h]at this;exact this
def WO:Nat->Code->Code
 |0,c=>c
 |n+1,.seq _ b=>WO n b
 |_+1,c=>c
theorem tk24 (k:Nat) (S:Nat->Prop) (w:World) (p:Nat) (n:Option Addr) (b:List Se) (a6:Nat) (f:Bool) (a:En) (wc:World) (R:En) (t:Hid (TkI k S w p n b wc a)) (A:Hid (R=nN (jm (lQ a b f)))) (f7:b.length<=8192)
  {b8 c9 d8 d9 e0 e1 e2 b9 c0 c1 c2 c3 c4 c5 c6 c7 c8 d0 d1 d2 d3 d4 d5 d6 d7 E F:Value} {G:List Value} (f9:G.length=183:=by exact rfl):
  let Q':Exit->Act->World->Prop:=bodyPost Tryz.prog Tryz.f53 λD l=>D=.returned (.tuple #[])/\eB l (grow S w l) p R/\Mod S tkT w l
  Code.wp Tryz.prog (WO 11 (Tryz.f53.body.getD .skip)) Q' ⟨((pT p)::b8::c9::d8::.slice n b.length a6::bV f::d9::e0::e1::e2::b9::c0::c1::c2::c3::c4::c5::c6::c7::c8::d0::d1::d2::d3::d4::d5::d6::d7::E::F::G).toArray,[]⟩ wc:=by
 intro Q';generalize G=e5 at*
 revert e5;(repeat (refine lcZ ?_;intro _));refine lzZ ?_
 conv=>arg 2;whnf
 (try dsimp only);go_upto_region 24 with fail;go_cut [183] (λb6 wx=>b6=bV (decide (0<b.length)||f)/\Hid (TkI k S w p n b wx a));case first=>
  rcases b with _|⟨g6,g7⟩
  ·cases f with
   |false=>go_wp2_with fail;go_meet;exact⟨rfl,t⟩
   |true=>go_wp2_with fail;go_meet;exact⟨rfl,t⟩
  ·go_wp2_with fail
   go_meet;exact⟨sM,t⟩
 case rest=>
  obtain⟨rfl,i⟩:=hcut;clear t;go_upto_if 183 with fail;go_cut [] (λwx=>Hid (TkI k S w p n b wx (lQ a b f)));case first=>
   cases hc:(decide (0<b.length)||f)with
   |false=>
    (have r:lQ a b f=a:=by unfold lQ;rw[Ww (by simp at hc;simp[hc])]);have y:=zH r;clear r hc;go_wp2_with fail;go_meet;rw[y.out];exact i
   |true=>
    (have r:lQ a b f={a with dS:=KD a.now,fP:=false}:=by unfold lQ;rw[aB (by simpa using hc)]);have y:=zH r;have L:=zH (show dG k {a with dS:=⟨0,a.now⟩}from{i.out.ok with pr:=Ej i.out.ok.now});have H:=zH (λl=>(Ra a.dS.count a.dS.since a.now l).mono (R':=λN a0=>N=.returned (.agg #[jI 0,uI a.now])/\bW l a0) (λN a0 h=>⟨h.1,by obtain⟨e8,f1,a9⟩:=h.2;rw[a9];exact BEL⟩));clear r hc;obtain⟨g,o,c⟩:=i.out.en;obtain⟨g4,g3,g2,g1,d,_,_,a8,_⟩:=c.ex;have f8:=c.lt;have e9:=d.Wu 17;have f2:=d.Wu 28;have f3:=d.Wu 29;clear o c d a8;go_wp2_with fail;refine dQ 12 kR kR ?_;refine mD ?_;(repeat (first|go_big_quiet_step ((go_at_call 127;exact bU _ (H.out _)))|quiet_step ((go_at_call 127;exact bU _ (H.out _)))));refine aK ?_;refine bwI ?_;intro a1 Q;have C:bW wc a1:=Q;have K:=zH (i.out.below C);have e7:=zH C;clear Q C;obtain⟨e6,b0,O⟩:=K.out.en;obtain⟨Z,Y,X,W,s,_⟩:=O.ex;have E:=s.Wu 28;have F:=s.Wu 29;have e3:=s.frozen 28;have e4:=s.frozen 29;clear s O b0;refine dA rfl rfl ?_;go_simp;refine mR ?_;obtain⟨a5,B⟩:=eX ((a1.setCell ⟨p,28,none⟩ (jI 0)).setCell ⟨p,29,none⟩ (uI a.now));rw[<-B];have I:=zH (show TkI k S w p n b a5 {a with dS:=⟨0,a.now⟩} by
     rw[B];exact K.out.own (λg q=>by
      obtain⟨b1,b3⟩:=q.set1 28 (jI 0) {a with dS:=⟨0,a.dS.since⟩} (λ_ _ _ _=>rfl) rfl rfl rfl rfl;obtain⟨b2,b4⟩:=b1.set1 29 (uI a.now) {a with dS:=⟨0,a.now⟩} (λ_ _ _ _=>rfl) rfl rfl rfl rfl;exact⟨b2,b3.trans b4⟩) L.out)
    clear B E F e3 e4;obtain⟨g,o,c⟩:=I.out.en;obtain⟨Z,Y,X,W,d,_⟩:=c.ex;obtain⟨f4,f6⟩:=d.cz 46;clear o c d;go_wp2_with fail;go_meet;rw[y.out];exact zH (I.out.own (e':={a with dS:=⟨0,a.now⟩,fP:=false}) (λg q=>q.set1 46 (bV false) _ (λ_ _ _ _=>rfl) rfl rfl rfl rfl) {L.out with})
  case rest=>
   have J:=hcut;clear i;generalize lQ a b f=a7 at*
   go_wp2_with fail;refine(J.out.paced).mono ?_;rintro D a2 ⟨rfl,P,_⟩;have u:=zH P;clear P J;generalize jm a7=e at*
   obtain⟨g,o,c⟩:=u.out.en;obtain⟨Z,Y,X,W,d,_⟩:=c.ex;obtain⟨v,M⟩:=d.cz 18;have T:=c.lt;have a3:=zH (JJ g p e a2 c u.out.ok.qu);clear o c d;by_cases j:e.aS=2
   ·rw[j]at v
    have a4:=zH j;clear j;go_wp2_with fail;refine(a3.out).mono ?_;rintro D b7 ⟨rfl,g0,V⟩;(have x:bW a2 b7:=by rw[V];exact aA (aj _ _) _);have z:=zH (u.out.below x);have f0:=(x.cell (p:=⟨p,18,none⟩) T).trans v;have f5:=(x.frozen (p:=⟨p,18,none⟩) T).trans M;clear V x v M;cases hdn:rC e with
    |false=>
     have m:Hid (R=e):=zH (by rw[A.out];unfold nN;rw[Ww (by simp[hdn])]);go_wp2_with fail;refine mE ?_;rw[m.out];exact⟨rfl,z.out.fin⟩
    |true=>
     have m:Hid (R={e with aS:=3}):=zH (by rw[A.out];unfold nN;rw[aB ⟨a4.out,hdn⟩]);go_wp2_with fail;refine mE ?_;rw[m.out];exact⟨rfl,(z.out.own (e':={e with aS:=3}) (λg q=>q.set1 18 (jI 3) _ (λ_ _ _ _=>rfl) rfl rfl rfl rfl) {z.out.ok with st0:=by simp,st1:=by simp}).fin⟩
   ·have b5:(e.aS==2)=false:=by simp[j]
    have m:Hid (R=e):=zH (by rw[A.out];unfold nN;rw[Ww (by simp[j])]);obtain⟨g5,U⟩:=eX e.aS;rw[<-U]at v b5;clear j U;go_wp2_with fail;refine mE ?_;rw[m.out];exact⟨rfl,u.out.fin⟩
theorem tk22 (k:Nat) (S:Nat->Prop) (w:World) (p:Nat) (j:Option Addr) (d:List Se) (A:Nat) (t:Bool) (e:Int) (b:En) (wc:World) (R:En) (f:Hid (TkI k S w p j d wc b)) (P:Hid (∀a6∈d,vX a6)) (o:Hid (e=ko b.cc.round d)) (W:0<=e) (X:e<=1500*d.length) (U:Hid (R=nN (jm (lQ (kE b d) d t)))) (a3:d.length<=8192)
  {a7 b7 c8 c9 d0 d1 d2 a8 a9 b0 b1 b2 b3 b4 b5 b6 b8 b9 c0 c1 c2 c3 c4 c5 c6 c7 G H I J K L M N O:Value} {u:List Value} (g6:u.length=174:=by exact rfl):
  let Q':Exit->Act->World->Prop:=bodyPost Tryz.prog Tryz.f53 λa4 g=>a4=.returned (.tuple #[])/\eB g (grow S w g) p R/\Mod S tkT w g
  Code.wp Tryz.prog (WO 10 (Tryz.f53.body.getD .skip)) Q' ⟨((pT p)::a7::b7::c8::.slice j d.length A::bV t::c9::d0::d1::d2::a8::uI e::a9::b0::b1::b2::b3::b4::b5::b6::b8::b9::c0::c1::c2::c3::c4::c5::c6::c7::G::H::I::J::K::L::M::N::O::u).toArray,[]⟩ wc:=by
 intro Q';generalize u=d4 at*
 revert d4;(repeat (refine lcZ ?_;intro _));refine lzZ ?_
 conv=>arg 2;whnf
 (try dsimp only);go_upto_if 158 with fail;go_cut [] (λwx=>Hid (TkI k S w p j d wx (kE b d)));case first=>
  by_cases n:0<e
  ·have a2:decide (e>0)=true:=by simp;omega
   (have i:kE b d={b with cc:=vQ b.c b.cc e b.now (iI b)}:=by unfold kE;rw[<-o.out,aB n]);have s:=CG (l:=d) f.out.ok P.out oM;rw[i]at s;have D:Word e:=⟨oM,oM⟩;have x:=zH (SK b.c b.cc e b.now (iI b) f.out.ok.cf f.out.ok.cc D f.out.ok.now (rZ f.out.ok));have q:=zH i;generalize vQ b.c b.cc e b.now (iI b)=d3 at*
   have T:=zH s;clear s i D;obtain⟨v,Z,m⟩:=f.out.en;obtain⟨h0,g9,g8,g7,a,_,_,Y,_⟩:=m.ex;have g5:=m.lt;have e7:=a.Wu 17;have d8:=a.Wu 0;have d9:=a.Wu 1;have e8:=a.Wu 2;have e9:=a.Wu 3;have f9:=a.Wu 4;have g0:=a.Wu 5;have g1:=a.Wu 6;have g2:=a.Wu 7;have g3:=a.Wu 8;have g4:=a.Wu 9;have e0:=a.Wu 10;have e1:=a.Wu 11;have e2:=a.Wu 12;have e3:=a.Wu 13;have e4:=a.Wu 14;have e5:=a.Wu 15;have e6:=a.Wu 16;have f0:=a.Wu 30;have f1:=a.Wu 31;have f2:=a.Wu 32;have f3:=a.Wu 33;have f4:=a.Wu 34;have f5:=a.Wu 35;have f6:=a.Wu 36;have f7:=a.Wu 37;have f8:=a.Wu 38;have z:=zH (λg (n:bW wc g)=>(xJ v p b g (m.below n)).mono (R':=λB F=>B=.returned (uI (iI b))/\bW g F) (λB F h=>⟨h.1,by rw[h.2];exact aj _ _⟩));clear Z m a Y;go_wp2_with fail;refine dQ 19 kR kR ?_;refine mD ?_;(repeat (first|go_big_quiet_step (first|(go_at_call 69;exact bU _ (z.out _ (by apply BW.same)))|(go_at_call 126;exact bU _ (x.out _)))|quiet_step (first|(go_at_call 69;exact bU _ (z.out _ (by apply BW.same)))|(go_at_call 126;exact bU _ (x.out _)))));refine aK ?_;refine bwI ?_;intro a5 E;have r:bW wc a5:=E;have y:=zH (f.out.below r);have d6:=zH r;clear E r;obtain⟨d5,a0,C⟩:=y.out.en;obtain⟨h4,h3,h2,h1,c,_⟩:=C.ex;have G:=c.Wu 30;have H:=c.Wu 31;have I:=c.Wu 32;have J:=c.Wu 33;have K:=c.Wu 34;have L:=c.Wu 35;have M:=c.Wu 36;have N:=c.Wu 37;have O:=c.Wu 38;have h5:=c.frozen 30;have h6:=c.frozen 31;have h7:=c.frozen 32;have h8:=c.frozen 33;have h9:=c.frozen 34;have i0:=c.frozen 35;have i1:=c.frozen 36;have i2:=c.frozen 37;have i3:=c.frozen 38;clear c C a0;refine dA rfl rfl ?_;go_simp;refine mR ?_;go_wp2_with fail;go_meet;rw[q.out];exact zH (y.out.own (λv a1=>a1.Ij d3) T.out)
  ·have a2:decide (e>0)=false:=by simp;omega
   (have i:kE b d=b:=by unfold kE;rw[<-o.out,Ww n]);have q:=zH i;clear i;go_wp2_with fail;go_meet;rw[q.out];exact f
 case rest=>
  have Q:=hcut;clear f o W X;rename_i d7 V;exact V _ _ (tk24 k S w p j d A t (kE b d) _ R Q U a3)
theorem tk15 (k:Nat) (S:Nat->Prop) (w:World) (p:Nat) (m:Option Addr) (a:List Se) (a1:Nat) (J:Bool) (c:En) (wc:World) (R:En) (T:Hid (TkI k S w p m a wc c)) (A:Hid (∀e8∈a,vX e8)) (c8:Hid (R=nN (jm (lQ (kE c a) a J)))) (d8:a.length<=8192)
  {e9 c5 l0 o1 p2 q3 r4 f0 K h1 c2 j2 j5 j6 j7 j8 j9 k0 k1 k2 k3 k4 k5 k6 k7 k8 k9 l1 l2 l3 l4 l5 l6 l7 l8 l9 m0 m1 m2 m3 m4 m5 m6 m7 m8 m9 n0 n1 n2 n3 n4 n5 n6 n7 n8 n9 o0 o2 o3 o4 o5 o6 o7 o8 o9 p0 p1 p3 p4 p5 p6 p7 p8 p9 q0 q1 q2 q4 q5 q6 q7 q8 q9 r0 r1 r2 r3 r5 r6 r7 r8 r9 s0 s1 s2 s3 s4 f1 f2 f3 f4 f5 f6 f7 f8 f9 g0 g1 g2 g3 g4 g5 g6 g7 g8 g9 h0 h2 h3 h4 h5 h6 h7 h8 h9 i0 i1 i2 i3 i4 i5 i6 i7 i8 i9 j0 j1 j3 j4 c3 c4:Value} {L:List Value} (t5:L.length=69:=by exact rfl):
  let Q':Exit->Act->World->Prop:=bodyPost Tryz.prog Tryz.f53 λe4 l=>e4=.returned (.tuple #[])/\eB l (grow S w l) p R/\Mod S tkT w l
  Code.wp Tryz.prog (WO 8 (Tryz.f53.body.getD .skip)) Q' ⟨((pT p)::e9::c5::l0::.slice m a.length a1::bV J::o1::p2::q3::r4::f0::K::h1::c2::j2::j5::j6::j7::j8::j9::k0::k1::k2::k3::k4::k5::k6::k7::k8::k9::l1::l2::l3::l4::l5::l6::l7::l8::l9::m0::m1::m2::m3::m4::m5::m6::m7::m8::m9::n0::n1::n2::n3::n4::n5::n6::n7::n8::n9::o0::o2::o3::o4::o5::o6::o7::o8::o9::p0::p1::p3::p4::p5::p6::p7::p8::p9::q0::q1::q2::q4::q5::q6::q7::q8::q9::r0::r1::r2::r3::r5::r6::r7::r8::r9::s0::s1::s2::s3::s4::f1::f2::f3::f4::f5::f6::f7::f8::f9::g0::g1::g2::g3::g4::g5::g6::g7::g8::g9::h0::h2::h3::h4::h5::h6::h7::h8::h9::i0::i1::i2::i3::i4::i5::i6::i7::i8::i9::j0::j1::j3::j4::c3::c4::L).toArray,[]⟩ wc:=by
 intro Q';generalize L=s5 at*
 revert s5;(repeat (refine lcZ ?_;intro _));refine lzZ ?_
 conv=>arg 2;whnf
 (try dsimp only);obtain⟨g,s⟩:=eX (ko c.cc.round a);have F:=rX c.cc.round a 0 oM (λe e2=>A.out e e2);(have d5:0<=g:=by rw[s];exact F.1);(have d6:g<=1500*a.length:=by rw[s];have:=F.2;unfold ko;omega);have N:=zH s;clear F s;obtain⟨r,a8⟩:=eX c.cc.round.iO;obtain⟨a2,a5⟩:=eX c.cc.round.mX;have P:=zH (show a.foldl (λq e=>if WM c.cc.round e.pn then q+e.len else q) 0=g from N.out.symm);have V:=zH a8;have c6:=zH a5;clear a8 a5;go_upto_block 2 with(fail);go_cut [11] (λe5 wx=>e5=uI g/\Hid (TkI k S w p m a wx c));case rest=>
  obtain⟨rfl,j⟩:=hcut;rename_i s7 d0;exact d0 _ _ (tk22 k S w p m a a1 J g c _ R j A N d5 d6 c8 d8)
 go_wp2_with fail;go_loopw [140,11,13,142,143] (λI K c2 c3 c4 wr=>∃(d:Nat) (f:Int),d<=a.length/\I=jI d/\K=uI f/\Hid (0<=f/\f<=1500*d)/\Hid ((a.drop d).foldl (λq e=>if WM c.cc.round e.pn then q+e.len else q) f=g)/\Hid (TkI k S w p m a wr c)) (λI _ _ _ _ _=>a.length -(intOf I).toNat);(case atStart=>exact⟨0,0,oM,rfl,rfl,zH ⟨oM,oM⟩,P,T⟩);case round=>
  clear T P;obtain⟨d,f,e0,rfl,rfl,M,z,j⟩:=hrel;obtain⟨s8,s9⟩:=M.out;by_cases u:d<a.length
  ·obtain⟨t1,t6,rfl,d9,a9,b0,b1,b2,b3,b4,b5,b6⟩:=j.out.row.at_ (aj _ _) u
   have b:=z.out;rw[aR u,List.foldl_cons]at b;have G:=(A.out _ (aN u)).1;generalize a[d]=e at*
   obtain⟨i,b9,o,Y,b8,b7,c0,X⟩:=e;have t2:0<=o:=G.yQ;have t3:o<=1500:=G.Dr;simp only at a9 b0 b1 b2 b3 b4 b5 b6 b;clear G;obtain⟨s6,d4,D⟩:=j.out.en;obtain⟨v0,t9,t8,t7,C,_⟩:=D.ex;(have Z:wr.cell? ⟨p,37,none⟩=some (uI r):=by rw[V.out];exact C.cell 37);(have a0:wr.cell? ⟨p,38,none⟩=some (uI a2):=by rw[c6.out];exact C.cell 38);have v:=D.lt;clear d4 D C;(have a6:WM c.cc.round i=decide (r<=i):=by rw[V.out];rfl);rw[a6]at b;have O:=zH b;have a7:=(λl=>(NT r a2 i l).mono (R':=λa3 c1=>a3=.returned (bV (decide (r<=i)))/\bW l c1) (λa3 c1 h=>⟨h.1,by obtain⟨t0,d3⟩:=h.2;rw[d3];exact BEL⟩));clear b a6;generalize decide (r<=i)=c9 at*
   have Q:=zH a7;clear a7;go_wp2_with fail;obtain⟨B,t⟩:=eX (wr.alloc (.cells #[uI i,uI b9,uI o,uI Y,uI b8,bV b7,bV c0,jI X] 177));rw[<-t];(have n:bW wr B:=by rw[t];exact BEL);(have x:Blk B wr.heap.size 177 #[uI i,uI b9,uI o,uI Y,uI b8,bV b7,bV c0,jI X]:=by rw[t];exact Wx _ _ _);have c7:=zH (j.out.below n);have e6:=x.Wu 0;have d1:=(n.cell (p:=⟨p,37,none⟩) v).trans Z;have d2:=(n.cell (p:=⟨p,38,none⟩) v).trans a0;have e1:=aC v n.size;have e3:=x.lt;have W:=zH x;clear t n x Z a0 a9 b0 b1 b2 b3 b4 b5 b6 d9 v;generalize wr.heap.size=v1 at*
   refine fq kR kR ?_;(repeat (first|go_big_quiet_step ((go_at_call 125;exact bU _ (Q.out _)))|quiet_step ((go_at_call 125;exact bU _ (Q.out _)))));refine aK ?_;refine bwI ?_;intro e7 a4;have E:bW B e7:=a4;have U:=zH (c7.out.below E);have H:=W.out.below E W.out.lt;have c5:=H.Wu 2;have t4:=H.lt;clear a4 E H e6 d1 d2 e1 e3;cases c9 with
   |true=>
    have b:=O.out;rw[aB rfl]at b;have y:=zH b;clear b;go_wp2_with fail;go_roundw;(case rel=>exact⟨d+1,f+o,oM,by go_num,rfl,zH ⟨oM,oM⟩,y,U⟩);case measure=>simp[intOf];omega
   |false=>
    have b:=O.out;rw[Ww dC]at b;have y:=zH b;clear b;go_wp2_with fail;go_roundw;(case rel=>exact⟨d+1,f,oM,by go_num,rfl,zH ⟨oM,oM⟩,y,U⟩);case measure=>simp[intOf];omega
  ·obtain rfl:d=a.length:=oM
   have b:=z.out;rw[List.drop_length]at b;have d7:f=g:=b;subst d7;clear b z M u e0;go_wp2_with fail;go_meet;exact⟨rfl,j⟩
theorem tk13 (k:Nat) (S:Nat->Prop) (w:World) (p:Nat) (l:Option Addr) (g:List Se) (A:Nat) (s:Bool) (f:Int) (j:Bool) (d:En) (wc:World) (R:En) (i:Hid (TkI k S w p l g wc d)) (m:Hid (Word f)) (W:Hid (∀t∈g,vX t)) (Z:Hid (R=nN (jm (lQ (kE (kD d f j) g) g s)))) (a5:g.length<=8192)
  {b0 c1 d2 d3 d4 b1 b2 b3 b4 b5 b6 b7 b8 b9 c0 c2 c3 c4 c5 c6 c7 c8 c9 d0 d1 K L M N O P Q T U:Value} {u:List Value} (g7:u.length=174:=by exact rfl):
  let Q':Exit->Act->World->Prop:=bodyPost Tryz.prog Tryz.f53 λI e=>I=.returned (.tuple #[])/\eB e (grow S w e) p R/\Mod S tkT w e
  Code.wp Tryz.prog (WO 7 (Tryz.f53.body.getD .skip)) Q' ⟨((pT p)::b0::c1::d2::.slice l g.length A::bV s::d3::d4::uI f::bV j::b1::b2::b3::b4::b5::b6::b7::b8::b9::c0::c2::c3::c4::c5::c6::c7::c8::c9::d0::d1::K::L::M::N::O::P::Q::T::U::u).toArray,[]⟩ wc:=by
 intro Q';generalize u=d6 at*
 revert d6;(repeat (refine lcZ ?_;intro _));refine lzZ ?_
 conv=>arg 2;whnf
 (try dsimp only);go_upto_if 116 with fail;go_cut [] (λwx=>Hid (TkI k S w p l g wx (kD d f j)));case first=>
  cases j with
  |false=>
   go_wp2_with fail;go_meet;exact i
  |true=>
   have r:=uJ (b:=true) i.out.ok m.out;have q:kD d f true={d with cc:=uN d.c d.cc f d.led.next}:=rfl;rw[q]at r;have Y:=zH (Ja d.c d.cc f d.led.next i.out.ok.cf i.out.ok.cc m.out);have V:=zH q;generalize uN d.c d.cc f d.led.next=d5 at*
   have X:=zH r;clear r q;obtain⟨x,a1,n⟩:=i.out.en;obtain⟨h0,g9,a6,g8,a,_,_,C,_⟩:=n.ex;have g6:=n.lt;have d9:=a.Wu 0;have e0:=a.Wu 1;have e8:=a.Wu 2;have f0:=a.Wu 3;have g0:=a.Wu 4;have g1:=a.Wu 5;have g2:=a.Wu 6;have g3:=a.Wu 7;have g4:=a.Wu 8;have g5:=a.Wu 9;have e1:=a.Wu 10;have e2:=a.Wu 11;have e3:=a.Wu 12;have e4:=a.Wu 13;have e5:=a.Wu 14;have e6:=a.Wu 15;have e7:=a.Wu 16;have f1:=a.Wu 30;have f2:=a.Wu 31;have f3:=a.Wu 32;have f4:=a.Wu 33;have f5:=a.Wu 34;have f6:=a.Wu 35;have f7:=a.Wu 36;have f8:=a.Wu 37;have f9:=a.Wu 38;have e9:=a.Wu 21;have z:=zH (λe (a4:bW wc e)=>(pK x a6 d.led e (C.below a4)).mono (R':=λB J=>B=.returned (uI d.led.next)/\bW e J) (λB J h=>⟨h.1,by rw[<-h.2];exact aj _ _⟩));clear a1 n a C;go_wp2_with fail;refine gN kR ?_;refine dR 0 (v:=?_) rfl kR (λ_ _ _ h=>h) (Or.inl ⟨by rfl,?_⟩) ?_;rotate_left
   (·exact λw=>gS);(try simp only[Act.put,Array.setIfInBounds]);(try go_simp);refine eQ 1 15 kR (λe=>∃t:BW wc,e=t.val) ⟨⟨wc.drewN 1,⟨rfl,rfl,rfl,av _,λ_ _=>rfl⟩⟩,rfl⟩ ?_;refine mD ?_;(repeat (first|go_big_quiet_step ((go_at_call 61;exact bU _ (z.out _ (by apply BW.same))))|quiet_step ((go_at_call 61;exact bU _ (z.out _ (by apply BW.same))))));refine aK ?_;refine bwI ?_;intro a7 E;have o:bW wc a7:=E;refine dA rfl rfl ?_;go_simp;go_at_call 60;refine(Y.out _).mono ?_;rintro I a8 ⟨rfl,F⟩;have G:bW wc a8:=o.trans (F.mono o.size);have y:=zH (i.out.below G);clear E o F G;obtain⟨d7,a2,D⟩:=y.out.en;obtain⟨h4,h3,h2,h1,c,_⟩:=D.ex;have K:=c.Wu 30;have L:=c.Wu 31;have M:=c.Wu 32;have N:=c.Wu 33;have O:=c.Wu 34;have P:=c.Wu 35;have Q:=c.Wu 36;have T:=c.Wu 37;have U:=c.Wu 38;have h5:=c.frozen 30;have h6:=c.frozen 31;have h7:=c.frozen 32;have h8:=c.frozen 33;have h9:=c.frozen 34;have i0:=c.frozen 35;have i1:=c.frozen 36;have i2:=c.frozen 37;have i3:=c.frozen 38;clear c D a2;go_simp;refine dR 16 (v:=?_) rfl kR (λ_ _ _ h=>h) (Or.inl ⟨by rfl,?_⟩) ?_;rotate_left
   (·exact λw=>gS);refine dR 17 (v:=?_) rfl kR (λ_ _ _ h=>h) (Or.inl ⟨by rfl,?_⟩) ?_;rotate_left
   (·exact λw=>gS);refine dR 18 (v:=?_) rfl kR (λ_ _ _ h=>h) (Or.inl ⟨by rfl,?_⟩) ?_;rotate_left
   (·exact λw=>gS);(try simp only[Act.put,Array.setIfInBounds]);(try go_simp);refine eQ 19 21 kR (λe=>∃_:Unit,e=_) ⟨(),rfl⟩ ?_;refine mA ?_;rintro a9 ⟨_,H⟩;rw[H];clear H a9;refine dA rfl rfl ?_;go_simp;refine jY 22 kR kR ?_;refine mC ?_;go_wp2_with fail;go_meet;rw[V.out];exact zH (y.out.own (λx a3=>a3.Ij d5) X.out)
 case rest=>
  clear i m;rename_i d8 a0;exact a0 _ _ (tk15 k S w p l g A s (kD d f j) _ R hcut W Z a5)
end Go.Proofs.YtiflndepmgnojaaGreat
