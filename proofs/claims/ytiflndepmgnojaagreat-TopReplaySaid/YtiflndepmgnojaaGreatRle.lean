import Derived.Lib.SlBytesConst
import Derived.NoCompilerSame
import Derived.Test.YtiflndepmgnojaaGreatRkc
import Derived.Test.YtiflndepmgnojaaGreatWoh
namespace Go.Proofs.YtiflndepmgnojaaGreat
open Go.RowKit
set_option linter.unusedSimpArgs false
set_option linter.unusedVariables false
set_option maxHeartbeats 8000000
set_option maxRecDepth 100000
attribute[local go_sem] BW.cell BW.frozen
theorem Wn:Elem Tryz.prog 95 47 1 24 bvV:=
 ⟨by kernel_rfl,by
  obtain⟨b,d,e,f,g⟩:=info_parts (show(Tryz.prog.info? 47).map (λb=>(b.zero,b.size,b.bytes))=some (some (.slice none 0 0),1,24) by kernel_rfl);exact⟨b,_,d,e,f,g,rfl⟩,dC,λ_=>rfl,λj i c=>by simp[bvV]at c;rw[c];rfl⟩
theorem MJ {e:Nat->Nat} {w b:World} {p k:Nat} {f:Wp} {x:Wo} (h:dD e w p f k x b) {g:Nat} {t:TypeId} {c:Array Value} (hb:Blk w g t c) (d:some t∉woT):Blk b g t c:=hb.mod h.m d
theorem wd5 (y u:Nat->Nat) (j w:World) (p n e:Nat) (f:Wp) (x:Wo) (c:Int) (wc:World) (l:Hid (dD u w p f x.eO.toNat x wc)) (R:Hid (∀v b E,dD u w p f v b E->dD y j p f v b E)) (K:Hid (Blk w e 41 #[jI 0,uI 0,uI 0,uI 0,uI 0,uI 0,uI 0,uI 0,uI 0,uI 0,uI 0,uI 0,uI 0,uI 0,uI 0,uI 0,uI 0,uI 0,uI 0,uI 0,uI 0,jI 0])) (W:j.heap.size<=e) (b0:n<=148) (g:Hid (WdX (n+1) (n+1) 0 0 x))
  {a3 a4 a5:Value} {z:List Value} (b1:z.length=104:=by exact rfl):
  let Q':Exit->Act->World->Prop:=bodyPost Tryz.prog Tryz.f11 λX i=>X=.returned (.agg (zzRow (woRow x) c))/\dD y j p f x.eO.toNat x i
  Code.wp Tryz.prog (WO 5 (Tryz.f11.body.getD .skip)) Q' ⟨((pT p)::a3::a4::a5::(pT e)::jI c::z).toArray,[]⟩ wc:=by
 intro Q';generalize z=a6 at*
 revert a6;(repeat (refine lcZ ?_;intro _));refine lzZ ?_
 conv=>arg 2;whnf
 (try dsimp only);have A:=zH (MJ l.out K.out dC);obtain⟨Y,Z,a0,a1,a2⟩:=g.out.small oM oM;have I:x.eO.toNat<=100000:=by
  have a7:=g.out.ahi;have a8:=g.out.ahc;omega
 have C:=zH (λi (U:bW wc i)=>GV u w i p x.eO.toNat x.eO.toNat _ f x (l.out.below U) g.out.en g.out.pe I oM oM);obtain⟨b,t⟩:=eX (woRow x);rw[<-t]at C;have T:=zH t;clear t Y Z a0 a1 a2 I;repeat ((fail_if_success (with_reducible apply eG));first|(go_at_call 14;refine(C.out _ (aj _ _)).mono ?_;rintro a9 d ⟨rfl,s⟩;have O:=zH (l.out.below s);have B:=zH (A.out.below s A.out.lt);clear s)|(refine iG 41 (.tmp 11) (.tmp 106) rfl rfl rfl d.heap.size 0 (zzRow b b.err) kR kR ((Wx d 41 #[jI 0,uI 0,uI 0,uI 0,uI 0,uI 0,uI 0,uI 0,uI 0,uI 0,uI 0,uI 0,uI 0,uI 0,uI 0,uI 0,uI 0,uI 0,uI 0,uI 0,uI 0,jI 0]).there _ sM) kR (by simp[Value.oneCell']) ?_;intro F m;have D:=zH (show Blk F d.heap.size 41 (zzRow b b.err) by rw[m];exact Blk.gF (Wx d 41 _) [jI b.aS.aS,uI b.aS.now,uI b.aS.cr,uI b.aS.dL,uI b.aS.jS,uI b.aS.bK,uI b.aS.gU,uI b.aS.next,uI b.aS.low,uI b.aS.fG,uI b.aS.gP,uI b.aS.dh.dB,uI b.aS.dh.eT,uI b.aS.dh.fI,uI b.aS.dh.bE,uI b.aS.dh.late,uI b.sent,uI b.eO,uI b.told,uI b.tJ,uI b.qm,jI b.err] rfl);have L:=zH (show bW d F by rw[m];exact Below.bZ (av _) _ _ _ BEL);clear m)|(refine qR 39 (.tmp 108) (.tmp 107) rfl rfl rfl d.heap.size 21 (jI c) kR kR rfl kR D.out sM ?_;intro G o;have S:=zH (show Blk G d.heap.size 41 (zzRow b c) by rw[o];exact D.out.bF 21 _);have r:bW d G:=(by rw[o];exact bG L.out (av _) _);have M:=zH (O.out.below r);have k:=zH (B.out.below r B.out.lt);clear o r)|(refine kP 41 (.tmp 11) rfl rfl (some 109) rfl d.heap.size kR (zzRow b c) S.out _ Tryz.underlying41 kR kR ?_)|(refine iG 41 (.tmp 4) (.tmp 109) rfl rfl rfl e 0 (zzRow b c) kR kR (k.out.there _ sM) kR (by simp[Value.oneCell']) ?_;intro H q;have J:=zH (show Blk H e 41 (zzRow b c) by rw[q];exact Blk.gF k.out [jI b.aS.aS,uI b.aS.now,uI b.aS.cr,uI b.aS.dL,uI b.aS.jS,uI b.aS.bK,uI b.aS.gU,uI b.aS.next,uI b.aS.low,uI b.aS.fG,uI b.aS.gP,uI b.aS.dh.dB,uI b.aS.dh.eT,uI b.aS.dh.fI,uI b.aS.dh.bE,uI b.aS.dh.late,uI b.sent,uI b.eO,uI b.told,uI b.tJ,uI b.qm,jI c] rfl);have N:=zH (show dD y j p f x.eO.toNat x H by rw[q];exact(R.out _ _ _ M.out).loc (Mod.bZ [jI b.aS.aS,uI b.aS.now,uI b.aS.cr,uI b.aS.dL,uI b.aS.jS,uI b.aS.bK,uI b.aS.gU,uI b.aS.next,uI b.aS.low,uI b.aS.fG,uI b.aS.gP,uI b.aS.dh.dB,uI b.aS.dh.eT,uI b.aS.dh.fI,uI b.aS.dh.bE,uI b.aS.dh.late,uI b.sent,uI b.eO,uI b.told,uI b.tJ,uI b.qm,jI c] 0 _ _ k.out) dC (λv V=>by rw[V];exact W));clear q)|go_values|go_skip|go_guarded|go_step|go_upon|go_back|go_simp)
 (try simp only[Exit.inBlock,Exit.then])
 refine iZ 4 41 e (zzRow b c) kR kR J.out _ Tryz.underlying41 kR kR rfl ?_;refine⟨?_,N.out⟩;rw[T.out]
section
variable {P:Program} {Q:Exit->Act->World->Prop} {a:Act} {w:World}
theorem FP {e:Nat} {l:List Oper} (F:Option Addr->Nat->Act) (C:Option Addr->Nat->World->Prop) (f:∀b c d,C b c d->Q .normal (F b c) d) (h:(∀b c d,C b c d->Q .normal (F b c) d)->(Code.region e l.toArray true).wp P Q a w):(Code.region e l.toArray true).wp P Q a w:=h f
end
theorem wd4 (f1 K:Nat->Nat) (b4 w:World) (p n a8:Nat) (o:Wp) (x:Wo) (d1:Int) (wc:World) (k9:Hid (dD K w p o x.eO.toNat x wc)) (l9:Hid (∀d k7 A,dD K w p o d k7 A->dD f1 b4 p o d k7 A)) (k8:Hid (Blk w a8 41 #[jI 0,uI 0,uI 0,uI 0,uI 0,uI 0,uI 0,uI 0,uI 0,uI 0,uI 0,uI 0,uI 0,uI 0,uI 0,uI 0,uI 0,uI 0,uI 0,uI 0,uI 0,jI 0])) (o0:b4.heap.size<=a8) (o1:n<=148) (m1:Hid (WdX (n+1) n 0 0 x)) (R:Wo) (l6:Hid (R=GY x))
  {f4 f5 k3 k4 k5:Value} {g2:List Value} (q8:g2.length=102:=by exact rfl):
  let Q':Exit->Act->World->Prop:=bodyPost Tryz.prog Tryz.f11 λp0 N=>p0=.returned (.agg (zzRow (woRow R) d1))/\dD f1 b4 p o R.eO.toNat R N
  Code.wp Tryz.prog (WO 4 (Tryz.f11.body.getD .skip)) Q' ⟨((pT p)::f4::f5::k3::(pT a8)::jI d1::k4::k5::g2).toArray,[]⟩ wc:=by
 intro Q';generalize g2=p5 at*
 revert p5;(repeat (refine lcZ ?_;intro _));refine lzZ ?_
 conv=>arg 2;whnf
 (try dsimp only);have e3:=zA m1.out;have l3:=zH e3;have j3:=PV e3;have l2:=zH j3;clear e3 j3;go_upto_block 1 with fail;go_cut [] (λwx=>Hid (dD K w p o R.eO.toNat R wx)/\Hid (WdX (n+1) (n+1) 0 0 R));case first=>
  go_wp2_with fail;go_loopg [] (x.en.cO.toNat+257) (λd wr=>∃b,Hid (dD K w p o b.eO.toNat b wr)/\Hid (WdP n b)/\Hid (pm b.en<d)/\Hid (qI d b=R));(case atStart=>exact⟨x,k9,l3,l2,zH (by rw[l6.out];rfl)⟩);case round=>
   obtain⟨b,g9,f,c3,h1⟩:=hrel;obtain⟨d,i⟩:∃d,gk=d+1:=⟨gk -1,by have h6:=(PU f.out.en).1;have a9:=c3.out;omega⟩;subst i;obtain⟨W,M,o7⟩:=g9.out.c04;have o9:b.heard+b.sent+n<=80000000:=by
    have f4:=f.out.ahc;have f5:=f.out.ahi;have k3:=f.out.bkc;have r2:=f.out.bki;have r3:=f.out.sent;have k4:=f.out.en.rO;have k5:=f.out.en.le.room;omega
   obtain⟨L,e5⟩:=eX (fD b.en b.now);have z:=zH e5;obtain⟨c,i3⟩:=eX L.b;obtain⟨a0,i5⟩:=eX L.err;have X:=zH i3;have b8:=zH i5;clear e5 i3 i5;go_upto_region 20 with fail;refine' FP (F:=_) (λk I A=>Hid (dD K w p o b.eO.toNat {b with en:=L.en} A)/\Hid (Bys A (λ_=>True) k c)) ?tl (λZ=>?mn);case mn=>
    have r:bW wr wr.drew:=bA (aj _ _);refine aZ (S:=λN=>N.cell? ⟨p,0,none⟩=some ((pT o.e))/\N.cell? ⟨p,4,none⟩=some (uI b.now)) kR (⟨W,M⟩) (λd4=>?_);clear d4;have e:wr.drew.cell? ⟨p,0,none⟩=some ((pT o.e))/\wr.drew.cell? ⟨p,4,none⟩=some (uI b.now):=⟨W,M⟩;refine tK 0 64 e ?_;refine tK 1 65 e ?_;refine tK 2 66 e ?_;refine tk 3 (some 67) e (hy:=by intro p1 d5;have b3:=d5.1;exact gS) (h:=?_);refine nrm 14 15 ?_;refine tK 4 68 e ?_;refine tK 5 69 e ?_;refine tK 6 70 e ?_;refine tk 7 (some 71) e (hy:=by intro p1 d5;have b3:=d5.2;exact gS) (h:=?_);refine nrm 14 255 ?_;refine aI 8 kR ?_;refine WE (op:=_) rfl kR (some 72) kR 37 #[(pT o.e),uI b.now] kR (((g9.out.below r).poll f.out.en o9 f.out.now).mono ?_);rintro q3 k6 ⟨k,I,b2,n3,d7,e7⟩;rw[<-z.out]at b2 d7 e7 n3;rw[<-X.out,<-b8.out]at b2;rw[<-X.out]at d7;obtain⟨W,M,_⟩:=e7.c04;have V:k6.cell? ⟨p,0,none⟩=some ((pT o.e))/\k6.cell? ⟨p,4,none⟩=some (uI b.now):=⟨W,M⟩;refine⟨_,b2,V,?_⟩;clear b2 W M;refine mP ?_;refine tK 9 63 V ?_;refine tK 10 73 V ?_;refine tK 11 74 V ?_;refine tK 12 7 V ?_;refine nrm 14 8191 ?_;refine tK 13 8 V ?_;refine nrm 14 16383 ?_;refine bg kR ?_ _;exact Z k I _ ⟨zH e7,zH d7⟩
   case tl=>
    intro k I g m7;obtain⟨g8,Y⟩:=m7;clear W M o7;(try simp only[]);by_cases D:a0=0
    ·have C:(fD b.en b.now).err=0:=by rw[<-z.out,<-b8.out];exact D
     obtain⟨⟨f2,f3⟩,_⟩:=BS f.out.en f.out.now C;rw[<-z.out,<-X.out]at f2 f3;have J:dP c/\c.length<=100000:=⟨f2,f3⟩;obtain⟨j7,j4⟩:=DI f.out C;have e4:=IC (w:=b) d C;rw[h1.out]at e4;have h2:=zH j7;have h0:=zH j4;have g7:=zH e4;(have o2:(a0 !=0)=false:=by simpa using D);(have o4:decide (a0≠0)=false:=by simpa using D);obtain⟨t,u,m,q2,p6,i7,e2,d9,d8,q5,j1,j2⟩:=g8.out.sentP;(have q6:m.length<=1000000000:=by rw[i7];show b.sent<=_;omega);have O:=zH e2;have c0:=zH j1;have c1:=zH j2;obtain⟨q9,e1,e9,y,q4⟩:=info_parts (show(Tryz.prog.info? 47).map (λf0=>(f0.zero,f0.size,f0.bytes))=some (some (.slice none 0 0),1,24) by kernel_rfl);have e5:=e2.lt;clear e2 j1 j2 i7 D C f2 f3 j7 j4 e4;go_upto_region 22 with fail;refine' yI (F:=_) (λA=>Hid (dD K w p o b.eO.toNat {b with en:=L.en,sent:=b.sent+1} A)/\Hid (Bys A (λ_=>True) k c)) ?tl2 (λZ=>?mn2);case mn2=>
      have r:bW g g.drew:=bA (aj _ _);refine aZ (S:=λN=>True) kR (trivial) (λd4=>?_);clear d4;have e:True:=trivial;refine tK 0 77 e ?_;refine tK 1 78 e ?_;refine tK 2 79 e ?_;refine tK 3 80 e ?_;refine nrm 12 15 ?_;refine tK 5 82 e ?_;refine nrm 12 47 ?_;refine fo 4 6 kR ?_ ?_
      ·refine iw (op:=_) rfl kR (some 81) kR (.slice t m.length u) ?_ ?_
       ·have b3:g.drew.cell? ⟨p,9,none⟩=some (.slice t m.length u):=((O.out.below r O.out.lt).cell 9).trans d8
        go_simp
       refine⟨trivial,?_⟩;refine mP ?_;refine aI 6 kR ?_;refine jl (op:=_) rfl kR (fe.wp _ (.tmp 82) rfl g.drew.heap.size none 0 [] kR (iq _ _ _ _) k I c kR (aD Y.out r) (by simp only[List.length_nil];omega) dC (av _) ?_);intro B T f8 v s;rw[List.nil_append]at v;have a3:Below g.drew.heap.size g.drew f8:=(aj _ _).grown s (av _) (by simp[Value.ownBlock]);have b1:=(OwnAt.fresh (w:=g.drew) v).cap_;have n9:Bys f8 (λd=>g.heap.size<=d/\d<f8.heap.size) B c:=aF (OwnAt.fresh (w:=g.drew) v).row (λd i=>⟨ay r.size i.1,i.2⟩);have h7:=r.trans (a3.mono r.size);rw[List.nil_append];refine⟨trivial,?_⟩;clear v s a3;refine mP ?_;refine aI 7 kR ?_;refine jX (op:=_) rfl kR (some 84) kR 95 47 1 #[(0,.tmp 83)] kR #[.slice B c.length T] Wn.ht e1 e9 (by rw[y];decide) (by rw[y];decide) (by rw[y];kernel_rfl) ?_;intro h5 g1 l a7 n1;have n6:Bys g1 (λd=>g.heap.size<=d/\d<g1.heap.size) B c:=aF (aD n9 l) (λd i=>⟨i.1,aC i.2 l.size⟩);have d3:=h7.trans (l.mono h7.size);refine⟨trivial,?_⟩;clear l a7;refine mP ?_;refine aI 8 kR ?_;refine jl (op:=_) rfl kR (Wn.wpOD (some 85) kR (.tmp 81) (.tmp 84) rfl t u m kR (c0.out.below d3) (some ⟨h5,0,none⟩) 1 [(⟨c,B,T⟩:Bv)] kR (Wn.single (⟨c,B,T⟩:Bv) n1 rfl) (by simp only[bO];omega) dC ?_);intro c5 c8 f6 o3 i8 s;clear s;obtain⟨G,H⟩:=c1.out g1 f6 (⟨c,B,T⟩:Bv) c5 c8 d3 n6 b1 J.2 o3 i8;have a5:Bys f6 (λ_=>True) k c:=aG (aD Y.out d3) (ts:=[some 5]) (i8.aM dC) sM;refine⟨trivial,?_⟩;refine mP ?_;refine tK 9 86 e ?_;refine tK 10 87 e ?_;refine nrm 12 2047 ?_;refine aI 11 kR ?_;refine fF (op:=_) rfl kR kR 95 (.tmp 87) (.tmp 85) kR p 9 (.slice c5 (m++[(⟨c,B,T⟩:Bv)]).length c8) kR kR rfl kR G (by rw[d9];decide) ?_;intro p2 j8;rw[<-j8]at H;have a4:Bys p2 (λ_=>True) k c:=(by rw[j8];exact aG a5 (ts:=[some 5]) (((aV (λ_=>True) [some 110] f6).setCell G (λ_=>trivial) sM 9 _).aM dC) sM);refine⟨trivial,?_⟩;refine mP ?_;refine bg kR ?_ _;exact Z B T h5 c5 c8 _ ⟨zH H,zH a4⟩
      ·refine jl (op:=_) rfl kR (fe.wp _ (.tmp 82) rfl g.drew.heap.size none 0 [] kR (iq _ _ _ _) k I c kR (aD Y.out r) (by simp only[List.length_nil];omega) dC (av _) ?_)
       intro j q b5 v s;rw[List.nil_append]at v;have a3:Below g.drew.heap.size g.drew b5:=(aj _ _).grown s (av _) (by simp[Value.ownBlock]);have b1:=(OwnAt.fresh (w:=g.drew) v).cap_;have i6:Bys b5 (λd=>g.heap.size<=d/\d<b5.heap.size) j c:=aF (OwnAt.fresh (w:=g.drew) v).row (λd i=>⟨ay r.size i.1,i.2⟩);have a2:=r.trans (a3.mono r.size);rw[List.nil_append];refine⟨trivial,?_⟩;clear v s a3;refine mP ?_;refine fo 4 7 kR ?_ ?_
       ·refine iw (op:=_) rfl kR (some 81) kR (.slice t m.length u) ?_ ?_
        ·have b3:b5.cell? ⟨p,9,none⟩=some (.slice t m.length u):=((O.out.below a2 O.out.lt).cell 9).trans d8
         go_simp
        refine⟨trivial,?_⟩;refine mP ?_;refine aI 7 kR ?_;refine jX (op:=_) rfl kR (some 84) kR 95 47 1 #[(0,.tmp 83)] kR #[.slice j c.length q] Wn.ht e1 e9 (by rw[y];decide) (by rw[y];decide) (by rw[y];kernel_rfl) ?_;intro h3 f7 l a7 m9;have n7:Bys f7 (λd=>g.heap.size<=d/\d<f7.heap.size) j c:=aF (aD i6 l) (λd i=>⟨i.1,aC i.2 l.size⟩);have d2:=a2.trans (l.mono a2.size);refine⟨trivial,?_⟩;clear l a7;refine mP ?_;refine aI 8 kR ?_;refine jl (op:=_) rfl kR (Wn.wpOD (some 85) kR (.tmp 81) (.tmp 84) rfl t u m kR (c0.out.below d2) (some ⟨h3,0,none⟩) 1 [(⟨c,j,q⟩:Bv)] kR (Wn.single (⟨c,j,q⟩:Bv) m9 rfl) (by simp only[bO];omega) dC ?_);intro c6 c9 f9 o5 i9 s;clear s;obtain⟨G,H⟩:=c1.out f7 f9 (⟨c,j,q⟩:Bv) c6 c9 d2 n7 b1 J.2 o5 i9;have a5:Bys f9 (λ_=>True) k c:=aG (aD Y.out d2) (ts:=[some 5]) (i9.aM dC) sM;refine⟨trivial,?_⟩;refine mP ?_;refine tK 9 86 e ?_;refine tK 10 87 e ?_;refine nrm 12 2047 ?_;refine aI 11 kR ?_;refine fF (op:=_) rfl kR kR 95 (.tmp 87) (.tmp 85) kR p 9 (.slice c6 (m++[(⟨c,j,q⟩:Bv)]).length c9) kR kR rfl kR G (by rw[d9];decide) ?_;intro p3 j9;rw[<-j9]at H;have a4:Bys p3 (λ_=>True) k c:=(by rw[j9];exact aG a5 (ts:=[some 5]) (((aV (λ_=>True) [some 110] f9).setCell G (λ_=>trivial) sM 9 _).aM dC) sM);refine⟨trivial,?_⟩;refine mP ?_;refine bg kR ?_ _;exact Z j q h3 c6 c9 _ ⟨zH H,zH a4⟩
       ·refine jX (op:=_) rfl kR (some 84) kR 95 47 1 #[(0,.tmp 83)] kR #[.slice j c.length q] Wn.ht e1 e9 (by rw[y];decide) (by rw[y];decide) (by rw[y];kernel_rfl) ?_
        intro h4 b6 l a7 n0;have n8:Bys b6 (λd=>g.heap.size<=d/\d<b6.heap.size) j c:=aF (aD i6 l) (λd i=>⟨i.1,aC i.2 l.size⟩);have b0:=a2.trans (l.mono a2.size);refine⟨trivial,?_⟩;clear l a7;refine mP ?_;refine aI 4 kR ?_;refine iw (op:=_) rfl kR (some 81) kR (.slice t m.length u) ?_ ?_
        ·have b3:b6.cell? ⟨p,9,none⟩=some (.slice t m.length u):=((O.out.below b0 O.out.lt).cell 9).trans d8
         go_simp
        refine⟨trivial,?_⟩;refine mP ?_;refine aI 8 kR ?_;refine jl (op:=_) rfl kR (Wn.wpOD (some 85) kR (.tmp 81) (.tmp 84) rfl t u m kR (c0.out.below b0) (some ⟨h4,0,none⟩) 1 [(⟨c,j,q⟩:Bv)] kR (Wn.single (⟨c,j,q⟩:Bv) n0 rfl) (by simp only[bO];omega) dC ?_);intro c7 d0 g0 o6 j0 s;clear s;obtain⟨G,H⟩:=c1.out b6 g0 (⟨c,j,q⟩:Bv) c7 d0 b0 n8 b1 J.2 o6 j0;have a5:Bys g0 (λ_=>True) k c:=aG (aD Y.out b0) (ts:=[some 5]) (j0.aM dC) sM;refine⟨trivial,?_⟩;refine mP ?_;refine tK 9 86 e ?_;refine tK 10 87 e ?_;refine nrm 12 2047 ?_;refine aI 11 kR ?_;refine fF (op:=_) rfl kR kR 95 (.tmp 87) (.tmp 85) kR p 9 (.slice c7 (m++[(⟨c,j,q⟩:Bv)]).length d0) kR kR rfl kR G (by rw[d9];decide) ?_;intro p4 k0;rw[<-k0]at H;have a4:Bys p4 (λ_=>True) k c:=(by rw[k0];exact aG a5 (ts:=[some 5]) (((aV (λ_=>True) [some 110] g0).setCell G (λ_=>trivial) sM 9 _).aM dC) sM);refine⟨trivial,?_⟩;refine mP ?_;refine bg kR ?_ _;exact Z j q h4 c7 d0 _ ⟨zH H,zH a4⟩
     case tl2=>
      intro p8 q1 p9 p7 q0 m3 m8;obtain⟨l0,g4⟩:=m8;have g5:=zH (yY _ k I c m3 g4.out J.2 J.1);obtain⟨U,i4⟩:=eX ((ky c).val);obtain⟨a1,e0⟩:=eX ((ky c).err);rw[<-i4,<-e0]at g5;have g6:=zH e0;clear i4 e0;(try simp only[]);go_wp2_with fail;refine(g5.out).mono ?_;rintro m6 k1 ⟨m4,m5,rfl,n2,o8,h9⟩;have g3:=zH h9;clear h9 o8 n2;go_upto_if 94 with fail;obtain⟨c4,d6⟩:=eX (k1.alloc (.cells #[uI U.pn,uI U.bn,uI U.off,uI U.bX,jI U.ecn,.slice m4 U.body.length m5] 115));rw[<-d6];(have i0:bW k1 c4:=by rw[d6];exact BEL);have b7:=zH (g3.out.trans (i0.mono g3.out.size));have b9:=zH (l0.out.below b7.out);clear d6 i0;by_cases E:a1=0
      ·have n4:(a1==0)=true:=by simpa using E
       (have n5:decide (a1=0)=true:=by simpa using E);(have j5:b.ahead.count<1000000000:=by have f4:=f.out.ahc;have f5:=f.out.en.le.room;omega);have l4:=zH (λN (h8:bW c4 N)=>(b9.out.below h8).putA j5 f.out.ahead I (aD g4.out (b7.out.trans (h8.mono b7.out.size))) J.2 J.1 f.out.now);obtain⟨_,_,r0,_,M,_,q7,_⟩:=b9.out.cells;have a6:polled b={b with en:=L.en,sent:=b.sent+1,ahead:=qD b.ahead c b.now}:=by
        unfold polled;rw[<-z.out,<-X.out,<-g6.out,aB E]
       have c2:=zH a6;clear a6 E j5;go_upto_region 25 with fail;refine dQ 9 kR kR ?_;refine mB ?_;refine bwI ?_;intro k2 i1;have i2:bW c4 k2:=i1;have l5:=zH (l4.out k2 i2);clear i1 i2;refine dA rfl rfl ?_;go_simp;go_at_call 39;refine(l5.out).mono ?_;rintro m6 r1 ⟨rfl,j6⟩;have l8:=zH j6;clear j6;go_simp;refine mR ?_;go_wp2_with fail;go_roundg d;(case measure=>omega);case rel=>exact⟨polled b,by rw[c2.out];exact l8,h2,zH (by have h6:=h0.out;have a9:=c3.out;push_cast at a9;omega),zH g7.out.symm⟩
      ·have n4:(a1==0)=false:=by simpa using E
       (have n5:decide (a1=0)=false:=by simpa using E);have a6:polled b={b with en:=L.en,sent:=b.sent+1}:=by
        unfold polled;rw[<-z.out,<-X.out,<-g6.out,Ww E]
       have c2:=zH a6;clear a6 E;go_wp2_with fail;go_roundg d;(case measure=>omega);case rel=>exact⟨polled b,by rw[c2.out];exact b9,h2,zH (by have h6:=h0.out;have a9:=c3.out;push_cast at a9;omega),zH g7.out.symm⟩
    ·have C:(fD b.en b.now).err≠0:=by rw[<-z.out,<-b8.out];exact D
     (have e6:R={b with en:=L.en}:=by rw[<-h1.out,BR d C,<-z.out]);have e8:=Be f.out C;rw[<-z.out,<-e6]at e8;have m0:=zH e8;have l7:=zH e6;(have o2:(a0 !=0)=true:=by simpa using D);(have o4:decide (a0≠0)=true:=by simpa using D);clear C e6 e8 D;go_wp2_with fail;go_meet;refine⟨?_,m0⟩;rw[l7.out];exact g8
 case rest=>
  obtain⟨l1,m2⟩:=hcut;go_step;exact wd5 f1 K b4 w p n a8 o R d1 wc l1 l9 k8 o0 o1 m2
theorem LJ {tb:TypeId} (E:Nat->Nat) (w:World) (p n:Nat) (i:Wp) (x:Wo) (kind c:Int) (d3:Nat->Prop) (o:Option Addr) (A:Nat) (b:List Int) (h:iW w E p i x.eO.toNat x) (S:WdX n n 0 0 x) (c8:n<=148) (D:1<=kind/\kind<=6) (a7:Word c) (hb:Byt tb w (λq=>4<E q) o b) (c3:b.length<=A) (c4:b.length<=100000) (O:dP b) (d0:kind=1->tb=5:=by intro _;rfl):
  Calls Tryz.prog 11 #[pT p,.agg #[jI kind,uI c,.slice o b.length A]] w λd1 t=>d1=.returned (.agg (zzRow (zz x ⟨kind,c,b⟩) ((zz x ⟨kind,c,b⟩).err)))/\dD E w p i (Bc x ⟨kind,c,b⟩).eO.toNat (Bc x ⟨kind,c,b⟩) t:=by
 (have a9:zz x ⟨kind,c,b⟩={woRow (Bc x ⟨kind,c,b⟩)with err:=OQ x ⟨kind,c,b⟩}:=by unfold zz;rw[aB D]);(have H:Bc x ⟨kind,c,b⟩=GY (wB x ⟨kind,c,b⟩):=by unfold Bc;rw[aB D]);rw[a9];obtain⟨c1,M⟩:=eX (Bc x ⟨kind,c,b⟩);rw[<-M];rw[<-M]at H;have U:WdX (n+1) n 0 0 (wB x ⟨kind,c,b⟩):=Hf S ⟨O,a7.1⟩;obtain⟨l,R⟩:=eX (OQ x ⟨kind,c,b⟩);rw[<-R];obtain⟨f,V⟩:=eX (wB x ⟨kind,c,b⟩);rw[<-V]at U H;have c0:=zH U;have b3:=zH H;have y:=zH V;have v:=zH R;obtain⟨d,C⟩:=eX ((w.alloc (.cells #[jI kind,uI c,.slice o b.length A] 49)).alloc (.cells #[jI 0,uI 0,uI 0,uI 0,uI 0,uI 0,uI 0,uI 0,uI 0,uI 0,uI 0,uI 0,uI 0,uI 0,uI 0,uI 0,uI 0,uI 0,uI 0,uI 0,uI 0,jI 0] 41));(have G:bW w d:=by rw[C];exact BEL);(have B:Blk d w.heap.size 49 #[jI kind,uI c,.slice o b.length A]:=by rw[C];exact(Wx _ _ _).alloc _);(have T:Blk d (w.heap.size+1) 41 #[jI 0,uI 0,uI 0,uI 0,uI 0,uI 0,uI 0,uI 0,uI 0,uI 0,uI 0,uI 0,uI 0,uI 0,uI 0,uI 0,uI 0,uI 0,uI 0,uI 0,uI 0,jI 0]:=by rw[C];exact Blk.qN _ _ _ _);obtain⟨d7,K⟩:=eX w.heap.size;obtain⟨a1,L⟩:=eX (w.heap.size+1);rw[<-L]at T;rw[<-K]at B;have c6:w.heap.size<=a1:=oM;obtain⟨m,N,F⟩:=((dD.refl h).below G).ex;have b6:=zH (show∀q Y J,dD m d p i q Y J->dD E w p i q Y J from λq Y J c2=>((dD.refl h).below G).via N c2);have a6:Byt tb d (λq=>4<m q) o b:=aF (aD hb.lt_ G) (λq D=>by rw[N q D.2];exact D.1);have u:=zH F;have Z:=zH a6;have z:=zH S;have b1:=zH T;have b7:=zH C;have e1:=B.Wu 0;have e2:=B.Wu 1;have e3:=B.Wu 2;have e4:=B.lt;have b5:=zH O;obtain⟨e6,_,_,_,e7,_,e5,a8⟩:=(dD.refl F).cells;have e9:=a8 5;obtain⟨d4,d8,d5,d9,d6,e0,a3⟩:=(dD.refl F).blk;have e8:=a3.Wu 5;clear h S hb M a9 H U R V C G B T N F a6 O a8 a3;go_enter Tryz.func11,Tryz.ntmps11;go_upto_block 0 with fail;rw[<-b7.out,<-L,<-K];clear K L;go_cut [5] (λd2 wx=>d2=jI l/\Hid (dD m d p i f.eO.toNat f wx));case first=>
  have c5:kind=1\/kind=2\/kind=3\/kind=4\/kind=5\/kind=6:=oM;rcases c5 with rfl|rfl|rfl|rfl|rfl|rfl
  ·have e:f={x with en:=(fU x.en b).en}:=by rw[y.out];rfl
   (have g:l=(fU x.en b).err:=by rw[v.out];rfl);have b8:=zH (show∀t,bW d t->Calls Tryz.prog 17 #[(pT i.e),.slice o b.length A] t λs W=>s=.returned (.tuple #[jI (fU x.en b).n,jI l])/\dD m d p i f.eO.toNat f W from λt hb=>by
    rw[g,e];exact((dD.refl u.out).below hb).write z.out.en (show Bys t _ o b from d0 rfl▸(show Byt tb t _ o b from aD Z.out hb)) c3 oM)
   clear e g;go_upto_region 9 with fail;refine dQ 6 kR kR ?_;refine mB ?_;refine bwI ?_;intro b0 a4;have a5:bW d b0:=a4;have b9:=zH (b8.out b0 a5);clear a4 a5;refine dA rfl rfl ?_;go_simp;go_at_call 17;refine(b9.out).mono ?_;rintro s X ⟨rfl,k⟩;have j:=zH k;clear k;go_simp;refine mR ?_;go_wp2_with fail;go_meet;exact⟨rfl,j⟩
  ·have e:f=xF x (min c 1099511627776):=by rw[y.out];rfl
   (have g:l=0:=by rw[v.out];rfl);have a0:=zH (MH m d p n n i x (min c 1099511627776) u.out z.out oM oM ⟨by have:=a7.1;omega,oM⟩);rw[<-e]at a0;have r:=zH g;clear e g;go_wp2_with (go_at_call 34;(have c7:(if 1099511627776<c then(1099511627776:Int)else c)=min c 1099511627776:=by split<;>omega);(try rw[c7]);refine(a0.out).mono ?_;rintro s X ⟨rfl,k⟩;have j:=zH k;clear k);go_meet;exact⟨by rw[r.out],j⟩
  ·have e:f=je x b:=by rw[y.out];rfl
   (have g:l=0:=by rw[v.out];rfl);have c9:=z.out.small oM oM;have I:=zH (DF m d p x.eO.toNat _ i x o A b u.out z.out.en oM oM Z.out c4 b5.out z.out.now);rw[<-e]at I;(have a2:f.eO=x.eO:=by rw[e];rfl);rw[<-a2]at I;have r:=zH g;clear e g a2 c9;go_wp2_with (go_at_call 35;refine(I.out).mono ?_;rintro s X ⟨rfl,k⟩;have j:=zH k;clear k);go_meet;exact⟨by rw[r.out],j⟩
  ·have e:f={x with mute:=true}:=by rw[y.out];rfl
   (have g:l=0:=by rw[v.out];rfl);have j:=zH (show dD m d p i f.eO.toNat f (d.setCell ⟨p,5,none⟩ (bV true)) by rw[e];exact(dD.refl u.out).set1 5 _ _ (λ_ _ _ _ _ _ _ _ _=>rfl) rfl rfl rfl rfl rfl rfl rfl);have r:=zH g;clear e g;go_wp2_with fail;go_meet;exact⟨by rw[r.out],j⟩
  ·have e:f={x with mute:=false}:=by rw[y.out];rfl
   (have g:l=0:=by rw[v.out];rfl);have j:=zH (show dD m d p i f.eO.toNat f (d.setCell ⟨p,5,none⟩ (bV false)) by rw[e];exact(dD.refl u.out).set1 5 _ _ (λ_ _ _ _ _ _ _ _ _=>rfl) rfl rfl rfl rfl rfl rfl rfl);have r:=zH g;clear e g;go_wp2_with fail;go_meet;exact⟨by rw[r.out],j⟩
  ·have e:f={x with en:=(kF x.en).en}:=by rw[y.out];rfl
   (have g:l=(kF x.en).err:=by rw[v.out];rfl);have b2:=zH (show Calls Tryz.prog 36 #[(pT i.e)] d λs W=>s=.returned (jI l)/\dD m d p i f.eO.toNat f W by
    rw[g,e];exact(dD.refl u.out).close z.out.en)
   clear e g;go_wp2_with (go_at_call 36;refine(b2.out).mono ?_;rintro s X ⟨rfl,k⟩;have j:=zH k;clear k);go_meet;exact⟨rfl,j⟩
 case rest=>
  obtain⟨rfl,b4⟩:=hcut;go_step;exact wd4 E m w d p n a1 i f l wc b4 b6 b1 c6 c8 c0 c1 b3
theorem dD.low {b:Nat->Nat} {w a:World} {p k B:Nat} {f:Wp} {x:Wo} (h:dD b w p f k x a) (d:B<=w.heap.size) (c:∀k,k<B->4<b k):Below B w a:=h.m.cZ d (λk e g=>by have:=c k e;omega)
theorem tQ (w:World):Calls Tryz.prog 10 #[] w λf Q=>f=.returned (bV true)/\bW w Q:=by
 (have i:U32 yj:=λR d=>by simp[yj]at d;omega);obtain⟨m,q⟩:=eX (w.alloc (.cells #[.int .u32 9,.int .u32 0,.int .u32 0,.int .u32 0,.int .u32 0,.int .u32 0,.int .u32 0,.int .u32 0,.int .u32 99,.int .u32 0,.int .u32 99,.int .u32 0,.int .u32 5000,.int .u32 50] 50));(have a5:bW w m:=by rw[q];exact BEL);(have b4:Blk m w.heap.size 50 #[.int .u32 9,.int .u32 0,.int .u32 0,.int .u32 0,.int .u32 0,.int .u32 0,.int .u32 0,.int .u32 0,.int .u32 99,.int .u32 0,.int .u32 99,.int .u32 0,.int .u32 5000,.int .u32 50]:=by rw[q];exact Wx _ _ _);have b0:Row m (λc=>c=w.heap.size) 50 1 (some ⟨w.heap.size,0,none⟩) yj.length (yj.flatMap u3V):=yG (size:=1) (n:=14) b4 rfl;have W:=zH (JR _ (some ⟨w.heap.size,0,none⟩) 14 yj m b0 i);have k:=zH a5;have d0:=zH q;obtain⟨p,s⟩:=eX (fV yj);(have N:lV p:=by rw[s];exact CS i);rw[<-s]at W;have t:WdX 0 0 0 0 (mO p [] [] [] 0):=OU N (λR d=>by cases d) sM sM sM (λd6 L=>by cases L) (λd6 L=>by cases L) ⟨dC,dC⟩;have C:=zH (λQ=>OT (tw:=30) p (λ_=>True) (λ_=>True) (λ_=>True) none 0 [] none 0 [] none 0 [] 0 Q N Row.WH sM Row.WH sM Row.WH sM);simp only[List.length_nil]at C;obtain⟨S,u⟩:=eX (mO p [] [] [] 0);rw[<-u]at C t;(have a8:S.eO.toNat=0:=by rw[u];rfl);obtain⟨T,v⟩:=eX (Bc S ⟨1,0,[97,98,99]⟩);(have M:dP [97,98,99]:=λR d=>by simp at d;omega);(have b5:WdX 1 1 0 0 T:=by rw[v];exact U6 t ⟨M,dC⟩ ⟨dC,dC⟩);obtain⟨a,O⟩:=eX (zz T ⟨2,7,[]⟩);(have b7:a=Db:=by rw[O,v,u,s];rfl);obtain⟨E,F,G,H⟩:=Rv;rw[<-b7]at E F G H;(have d9:(a.aS.fG==0)=true:=by simpa using E);(have e0:(a.aS.dh.fI==1)=true:=by simpa using F);(have e1:(a.qm==3)=true:=by simpa using G);(have e2:(a.aS.bK==7)=true:=by simpa using H);have d2:=zH t;have d3:=zH b5;have c7:=zH a8;have d5:=zH O;have d4:=zH v;clear i q a5 b4 b0 s N t u a8 v b5 O b7 E F G H;go_enter Tryz.func10,Tryz.ntmps10;go_wp2_with fail;rw[<-d0.out];refine(W.out).mono ?_;rintro f d8 ⟨rfl,a6⟩;have y:=zH a6;clear a6;go_wp2_with fail;refine(C.out _).mono ?_;rintro f b ⟨c0,c1,x,rfl,a4,a1,a7⟩;have c5:=zH a4;have c3:=zH a1;have V:=zH (k.out.trans ((y.out.mono k.out.size).trans (a7.mono (ay k.out.size y.out.size))));have e4:w.heap.size<=d8.heap.size:=ay k.out.size y.out.size;clear a4 a1 a7;go_upto_region 4 with fail;obtain⟨o,r⟩:=eX (b.alloc (.cells #[.int .u8 97,.int .u8 98,.int .u8 99] 5 (3,4)));(have K:bW b o:=by rw[r];exact BEL);(have b6:o.heap[b.heap.size]?=some (.cells #[.int .u8 97,.int .u8 98,.int .u8 99] 5 (3,4)):=by rw[r];exact heap_alloc_new b _);have b1:Bys o (λc=>4<ext b x 9 c) (some ⟨b.heap.size,0,none⟩) [97,98,99]:=⟨rfl,λ_=>⟨b.heap.size,0,_,_,rfl,by show 4<ext b x 9 b.heap.size;rw[uG (av _)];decide,b6,λe5 f1 i=>by simpa[byV]using i⟩⟩;have J:=c5.out.below K;rw[<-c7.out]at J;have z:=zH (LJ (ext b x 9) o c0 0 c1 S 1 0 (λ_=>True) (some ⟨b.heap.size,0,none⟩) 3 [97,98,99] J d2.out dC ⟨dC,dC⟩ ⟨dC,dC⟩ b1 dC dC M);simp only[aY,List.length_nil,Nat.zero_add,Nat.reduceAdd]at z;rw[<-d4.out]at z;have l:=zH K;have d1:=zH r;have b3:=V.out.size;(have a2:∀c,c<w.heap.size->4<ext b x 9 c:=λc a9=>by rw[nE oM,c3.out c oM];decide);have U:=zH a2;clear K b6 b1 J r M a2;have d7:(Go.convert 47 47 (.slice (some ⟨b.heap.size,0,none⟩) 3 3)).run Tryz.prog (b.alloc (.cells #[.int .u8 97,.int .u8 98,.int .u8 99] 5))=.ok (.slice (some ⟨b.heap.size,0,none⟩) 3 3) (b.alloc (.cells #[.int .u8 97,.int .u8 98,.int .u8 99] 5 (3,4))):=Lib.run_convert_bytes_const (P:=Tryz.prog) b 47 5 #[.int .u8 97,.int .u8 98,.int .u8 99] 3 3 Tryz.underlying47 Tryz.underlying5;go_wp2_with (go_at_call 11;(rw[<-d1.out]);refine(z.out).mono ?_;rintro f c2 ⟨rfl,g⟩;have D:=zH g;clear g);obtain⟨b9,a0,Z⟩:=D.out.ex;have X:=zH (D.out.low (by have:=l.out.size;omega) U.out);have e3:=X.out.size;(have a3:∀c,c<w.heap.size->4<b9 c:=λc a9=>by rw[a0 c (by have:=l.out.size;omega)];exact U.out c a9);have c4:=zH a3;have A:=zH (LJ (tb:=5) b9 c2 c0 1 c1 T 2 7 (λ_=>True) none 0 [] Z d3.out dC ⟨dC,dC⟩ ⟨dC,dC⟩ Row.WH dC dC (λR d=>by cases d));simp only[List.length_nil]at A;rw[<-d5.out]at A;have c6:=zH (V.out.trans (l.out.mono b3));clear a0 Z a3 d7;go_upto_region 5 with fail;repeat ((fail_if_success (with_reducible apply eG));first|(go_at_call 11;refine(A.out).mono ?_;rintro f j ⟨rfl,g⟩;have c9:=zH g;clear g)|(refine iG 41 (.tmp 3) (.tmp 23) rfl rfl rfl j.heap.size 0 (zzRow a a.err) kR kR ((Wx j 41 #[jI 0,uI 0,uI 0,uI 0,uI 0,uI 0,uI 0,uI 0,uI 0,uI 0,uI 0,uI 0,uI 0,uI 0,uI 0,uI 0,uI 0,uI 0,uI 0,uI 0,uI 0,jI 0]).there _ sM) kR (by simp[Value.oneCell']) ?_;intro Y I;have e:Blk Y j.heap.size 41 (zzRow a a.err):=(by rw[I];exact Blk.gF (Wx j 41 _) [jI a.aS.aS,uI a.aS.now,uI a.aS.cr,uI a.aS.dL,uI a.aS.jS,uI a.aS.bK,uI a.aS.gU,uI a.aS.next,uI a.aS.low,uI a.aS.fG,uI a.aS.gP,uI a.aS.dh.dB,uI a.aS.dh.eT,uI a.aS.dh.fI,uI a.aS.dh.bE,uI a.aS.dh.late,uI a.sent,uI a.eO,uI a.told,uI a.tJ,uI a.qm,jI a.err] rfl);have c8:=zH (show bW j Y by rw[I];exact Below.bZ (av _) _ _ _ BEL);have e9:=e.Wu 9;have e6:=e.Wu 13;have e7:=e.Wu 20;have e8:=e.Wu 5;have f0:=e.lt;clear I e)|go_values|go_skip|go_guarded|go_step|go_upon|go_back|go_simp)
 refine mZ ?_;have b2:w.heap.size<=c2.heap.size:=ay b3 (ay l.out.size D.out.m.size);have b8:=c9.out.low (B:=w.heap.size) b2 c4.out;exact⟨rfl,c6.out.trans (X.out.trans (b8.trans (c8.out.mono (ay b2 b8.size))))⟩
section
variable {P:Program} {md:Region.Mode} {ops:Array Oper} {Q:Exit->Act->World->Prop} {S:World->Prop}
def Di (P:Program) (ops:Array Oper) (S:World->Prop) (c:Act->Prop):List Nat->Act->Prop
 |[],a=>c a
 |i::t,a=>∃b,ops[i]?=some b/\∃d,YieldsIf P ops S b d a/\Di P ops S c t (a.put b.dst d)
theorem Di.val {c:Act->Prop} {i:Nat} {t:List Nat} {o:Oper} {a a':Act} {v:Value} (g:ops[i]?=some o) (d:Option Tmp) (f:o.dst=d) (j:Region.wanted o (yielded ops a.tmps)=true) (hy:∀b,S b->(execOp a.eval o).run P b=.ok (.value v) b) (e:a.put d v=a') (h:Di P ops S c t a'):Di P ops S c (i::t) a:=by
 subst e;subst f;exact⟨o,g,v,.inl ⟨j,hy⟩,h⟩
end
theorem tv {P:Program} {ops:Array Oper} {S:World->Prop} {c:Act->Prop} {i:Nat} {t:List Nat} {o:Oper} {a a':Act} (d:Tmp) (v:Value) (h:Di P ops S c t a') (g:ops[i]?=some o:=by exact rfl) (f:o.dst=some d:=by kernel_rfl) (j:Region.wanted o (yielded ops a.tmps)=true:=by kernel_rfl) (hy:∀b,S b->(execOp a.eval o).run P b=.ok (.value v) b:=by intro l k;exact gS) (e:a.put (some d) v=a':=by simp only[aP];exact rfl):Di P ops S c (i::t) a:=
 Di.val g (some d) f j hy e h
structure TmI (w wr:World):Prop where
 c4:Blk wr w.heap.size 374 #[uI 0,uI 0]
 c5:∃h l:Int,Blk wr (w.heap.size+1) 374 #[uI h,uI l]
 lo:bW w wr
theorem TmI.set1 {w wr:World} (h:TmI w wr) (v:Int):TmI w (wr.setCell ⟨w.heap.size+1,1,none⟩ (uI v)):=by
 obtain⟨c,b,a⟩:=h.c5;exact⟨h.c4.far (by show w.heap.size≠w.heap.size+1;omega) _,⟨_,_,a.bF 1 _⟩,h.lo.setCell (by show w.heap.size<=w.heap.size+1;omega) _⟩
structure Dv (w:World) (r en l:Nat):Prop where
 hr:w.cell? ⟨r,0,none⟩=some ((pT en))
 he:w.cell? ⟨en,20,none⟩=some ((pT l))
 hx:∃ring dO,Blk w l 166 #[jI ring,uI dO,.slice none 0 0]/\0<=ring/\ring<=1000000
theorem Dv.keep {w w':World} {c b l:Nat} (h:Dv w c b l) (d:∀a,a=c\/a=b\/a=l->w'.heap[a]?=w.heap[a]?):Dv w' c b l:=by
 obtain⟨i,e,f,g⟩:=h.hx;exact⟨(World.cell?_of_block (w:=w) (d c (.inl rfl))).trans h.hr,(World.cell?_of_block (w:=w) (d b (.inr (.inl rfl)))).trans h.he,i,e,(d l (.inr (.inr rfl))).trans f,g⟩
theorem Dv.below {w w':World} {b a l:Nat} (h:Dv w b a l) (hb:bW w w'):Dv w' b a l:=by
 obtain⟨i,f,c,g⟩:=h.hx;refine h.keep (λe d=>hb.block e ?_);rcases d with rfl|rfl|rfl
 ·exact dY w _ h.hr
 ·exact dY w _ h.he
 ·exact c.lt
theorem Dv.ok {w:World} {g b l:Nat} (h:Dv w g b l):Ka w l:=by
 obtain⟨i,a,c,d,e⟩:=h.hx;exact⟨i,a,[],λ_=>True,⟨none,0,c,Row.WH,av _⟩,jV _,d,e,λj f=>by cases f⟩
structure Pl where
 ka:Option Addr
 kc:Nat
 k:List Int
 wa:Option Addr
 wc:Nat
 ws:List Int
 aa:Option Addr
 ac:Nat
 ah:List Int
 ba:Option Addr
 bc:Nat
 bk:List Int
 delay:Int
structure UL (w:World) (S:Nat->Prop) (q:Pl):Prop where
 k:∃t,Row w S t 1 q.ka q.k.length (q.k.flatMap u3V)
 ku:U32 q.k
 ws:∃t,Wot t w S q.wa q.ws
 wu:rG q.ws
 wl:q.ws.length<=q.wc
 ah:∃t,Row w S t 1 q.aa q.ah.length (q.ah.flatMap u3V)
 au:U32 q.ah
 bk:∃t,Row w S t 1 q.ba q.bk.length (q.bk.flatMap u3V)
 bu:U32 q.bk
 delay:U16 q.delay
theorem UL.below {w w':World} {S:Nat->Prop} {q:Pl} (h:UL w S q) (hb:bW w w'):UL w' S q:=
 {h with k:=by obtain⟨b,a⟩:=h.k;exact⟨b,aD a hb⟩,ws:=by obtain⟨b,a⟩:=h.ws;exact⟨b,aD a hb⟩,ah:=by obtain⟨b,a⟩:=h.ah;exact⟨b,aD a hb⟩,bk:=by obtain⟨b,a⟩:=h.bk;exact⟨b,aD a hb⟩}
structure BgAt (w w':World) (b p r en l:Nat) (own:Nat->Nat) (rp:Wp) (q:Pl) (fa fb:List Fa):Prop where
 bb:w.heap.size<=b
 blk:Blk w' b 45 #[pT p,pT r]
 wo:iW w' own p rp 0 (mO (fV q.k) (q.ws.take 60) fa fb q.delay)
 rw_:Dv w' r en l
 old:∀k,k<w.heap.size->own k=9
 o:own b=9/\own r=9/\own en=9/\own l=9
 fa:fa.length<=40/\fb.length<=40/\(∀f∈fa,Word f.delay)/\∀f∈fb,Word f.delay
def rwV (y:Rw):Array Value:=(zzRow y y.err)
structure Tp where
 p:Nat
 r:Nat
 en:Nat
 l:Nat
 rp:Wp
abbrev Bl:=List (Nat×TypeId×Array Value)
abbrev Bo:=List (Option Addr×List Int×Int)
structure Tq (w wr:World) (q:Tp) (n:Nat) (x:Wo) (bL:Bl) (bo:Bo):Prop where
 ex:∃own,iW wr own q.p q.rp x.eO.toNat x/\(∀k,k<w.heap.size->own k=9)/\own q.r=9/\own q.en=9/\own q.l=9/\(∀z∈bL,own z.1=9)/\∀z∈bo,∃tb,(z.2.2=1->tb=5)/\Byt tb wr (λk=>own k=9) z.1 z.2.1
 rw_:Dv wr q.r q.en q.l
 loc:∀z∈bL,Blk wr z.1 z.2.1 z.2.2
 lo:∀z∈bL,w.heap.size<=z.1
 wd:WdX n n 0 0 x
 bel:bW w wr
theorem Ag {B b o:Nat} {a:List Value} {w w':World} (h:w.rangeAt b o a) (hb:Below B w w') (d:b<B):w'.rangeAt b o a:=λc f e=>(hb.cell (p:=⟨b,o+c,none⟩) d).trans (h c f e)
theorem jd {a:Nat->Nat} (v:World) {k:Nat} (h:a k=9):ext v a 9 k=9:=by unfold ext;split<;>first|exact h|rfl
section
variable {w wr W:World} {q:Tp} {n:Nat} {x:Wo} {bL bL':Bl} {bo:Bo}
theorem Tq.below (h:Tq w wr q n x bL bo) (hb:bW wr W):Tq w W q n x bL bo:=by
 obtain⟨p,g,i,j,k,l,m,o⟩:=h.ex;refine⟨⟨ext wr p 9,g.below hb,λd c=>jd _ (i d c),jd _ j,jd _ k,jd _ l,λb a=>jd _ (m b a),λb a=>?_⟩,h.rw_.below hb,λb a=>(h.loc b a).below hb (h.loc b a).lt,h.lo,h.wd,h.bel.trans (hb.mono h.bel.size)⟩;obtain⟨r,e,f⟩:=o b a;exact⟨r,e,aF (aD f hb) (λd c=>jd _ c)⟩
theorem Tq.sub (h:Tq w wr q n x bL bo) (c:∀a∈bL',a∈bL):Tq w wr q n x bL' bo:=by
 obtain⟨l,d,e,f,g,i,j,k⟩:=h.ex;exact⟨⟨l,d,e,f,g,i,λa b=>j a (c a b),k⟩,h.rw_,λa b=>h.loc a (c a b),λa b=>h.lo a (c a b),h.wd,h.bel⟩
theorem Tq.new {g:Nat} {t:TypeId} {e:Array Value} (h:Tq w wr q n x bL bo) (hb:bW wr W) (f:wr.heap.size<=g) (v:Blk W g t e):Tq w W q n x ((g,t,e)::bL) bo:=by
 obtain⟨y,l,m,o,p,r,s,u⟩:=h.ex;have c:=h.below hb;refine⟨⟨ext wr y 9,l.below hb,λi d=>jd _ (m i d),jd _ o,jd _ p,jd _ r,λb a=>?_,λb a=>?_⟩,c.rw_,λb a=>?_,λb a=>?_,h.wd,c.bel⟩
 ·rcases bT.1 a with rfl|a
  ·exact uG f
  ·exact jd _ (s b a)
 ·obtain⟨z,j,k⟩:=u b a
  exact⟨z,j,aF (aD k hb) (λi d=>jd _ d)⟩
 ·rcases bT.1 a with rfl|a
  ·exact v
  ·exact c.loc b a
 ·rcases bT.1 a with rfl|a
  ·exact ay h.bel.size f
  ·exact c.lo b a
theorem Tq.alloc (h:Tq w wr q n x bL bo) (a:Array Value) (t:TypeId):Tq w (wr.alloc (.cells a t)) q n x ((wr.heap.size,t,a)::bL) bo:=
 h.new ((aj _ _).alloc (av _) _) (av _) (Wx _ _ _)
theorem iW.keepN {d:Nat->Nat} {p k:Nat} {e:Wp} (h:iW wr d p e k x) (b:∀a,a<=4->∀g,bQ (Own wr d a) g wr W) (f:wr.heap.size<=W.heap.size):iW W d p e k x:=by
 have c:∀a k,Own wr d a k->Own W d a k:=λa k h=>⟨aC h.1 f,h.2⟩;exact⟨(h.l.keep (b 0 dC _)).mono (c 0),(h.e.keep (b 1 dC _)).mono (c 1),(h.pe.keep (ts:=uV) (b 2 dC _) (λ_ h=>h)).mono (c 2),(h.a.keep (ts:=[some 218,some 187,some 222,some 5]) (b 3 dC _) sM sM sM sM).mono (c 3),(h.b.keep (ts:=[some 218,some 187,some 222,some 5]) (b 4 dC _) sM sM sM sM).mono (c 4)⟩
theorem Tq.set {g:Nat} {t:TypeId} {p cs':Array Value} (h:Tq w wr q n x ((g,t,p)::bL) []) (A:∀c∈bL,c.1≠g) (K:q.r≠g) (H:q.en≠g) (J:q.l≠g) (z:Blk W g t cs') (a:W.heap.size=wr.heap.size) (hb:Below g wr W) (e:∀b,b≠g->W.heap[b]?=wr.heap[b]?):Tq w W q n x ((g,t,cs')::bL) []:=by
 obtain⟨f,r,s,u,v,y,j,F⟩:=h.ex;have k:f g=9:=j _ kT;have E:w.heap.size<=g:=h.lo _ kT;have m:Mod (λb=>b=g) [some t] wr W:=⟨hb.os,hb.tape,hb.output,oM,λb l=>by
  by_cases d:b=g
  ·exact .inr ⟨d,by subst d;exact⟨_,h.loc _ kT,by simp[nH]⟩⟩
  ·exact .inl (e b d)⟩
 have D:∀(i:Nat),i<=4->∀o,bQ (Own wr f i) o wr W:=λi I o=>m.iD (λb B C=>by
  (have G:f b=9:=by rw[C];exact k);have:=B.2;omega)
 refine⟨⟨f,r.keepN D oM,s,u,v,y,λc a=>?_,λc a=>by cases a⟩,?_,λc a=>?_,λc a=>?_,h.wd,h.bel.trans (m.cZ h.bel.size (λb e d=>by subst d;omega))⟩
 ·rcases bT.1 a with rfl|a
  ·exact k
  ·exact j c (jQ _ a)
 ·exact h.rw_.keep (λb l=>e b (by rcases l with rfl|rfl|rfl<;>assumption))
 ·rcases bT.1 a with rfl|a
  ·exact z
  ·exact(e c.1 (A c a)).trans (h.loc c (jQ _ a))
 ·rcases bT.1 a with rfl|a
  ·exact E
  ·exact h.lo c (jQ _ a)
theorem Tq.gF {g:Nat} {t:TypeId} {a cs':Array Value} (h:Tq w wr q n x ((g,t,a)::bL) []) (b:∀j∈bL,j.1≠g) (f:q.r≠g) (c:q.en≠g) (e:q.l≠g) (i:cs'.size=a.size):Tq w (wr.setCells g 0 cs'.toList) q n x ((g,t,cs')::bL) []:=
 h.set b f c e (by have:=Blk.gF (h.loc _ kT) cs'.toList (by simpa using i);simpa using this) sM (Below.bZ (av _) _ _ _ (aj _ _)) (λk d=>WW d _ _ _)
theorem Tq.ne (h:Tq w wr q n x bL bo) {g:Nat} (i:wr.heap.size<=g):(∀a∈bL,a.1≠g)/\q.r≠g/\q.en≠g/\q.l≠g:=by
 obtain⟨_,_,d,_⟩:=h.rw_.hx;have b:=dY wr _ h.rw_.hr;have c:=dY wr _ h.rw_.he;have f:=d.lt;dsimp only at b c;exact⟨λa e=>by have:=(h.loc a e).lt;omega,oM,oM,oM⟩
theorem Tq.box (h:Tq w wr q n x bL bo) (a cs':Array Value) (t:TypeId) (b:cs'.size=a.size):Tq w ((wr.alloc (.cells a t)).setCells wr.heap.size 0 cs'.toList) q n x ((wr.heap.size,t,cs')::bL) bo:=
 h.new (Below.bZ (av _) _ _ _ ((aj _ _).alloc (av _) _)) (av _) (by have:=Blk.gF (Wx wr t a) cs'.toList (by simpa using b);simpa using this)
structure EvF (hon:Bool) (kind en:Int) (c:Nat) (bs:List Int):Prop where
 hk:1<=kind/\kind<=6
 hh:hon=true->kind≠3
 hn:Word en
 cap:bs.length<=c
 by_:dP bs
 len:bs.length<=4000
theorem Tq.got {S:Nat->Prop} {m:Bool} {kind j:Int} {a:Option Addr} {c:Nat} {g:List Int} (h:Tq w wr q n x bL bo) (z:∀e,S e->e<w.heap.size) (d:Ry wr W S m kind j a c g) (hb:bW wr W):EvF m kind j c g/\Tq w W q n x bL [(a,g,kind)]:=by
 refine⟨⟨d.hk,d.hh,d.hn,d.fr.cap,d.fr.by_,d.fr.len⟩,?_⟩;obtain⟨A,s,l,t,u,v,y,C⟩:=h.ex;have f:=h.below hb;refine⟨⟨ext wr A 9,s.below hb,λe b=>jd _ (l e b),jd _ t,jd _ u,jd _ v,λo i=>jd _ (y o i),λo i=>?_⟩,f.rw_,f.loc,f.lo,f.wd,f.bel⟩;obtain rfl:=dZ.1 i;by_cases k:kind=1
 ·exact⟨5,λ_=>rfl,aF (d.five k) (λe b=>uG b.1)⟩
 ·obtain⟨B,r⟩:=d.fr.ex
  refine⟨B,λp=>Wy p k,aF r (λe b=>?_)⟩;rcases b with b|b
  ·exact jd _ (l e (z e b))
  ·exact uG b.1
theorem Tq.event {S:Nat->Prop} (h:Tq w wr q n x bL bo) (p:∀k,S k->k<w.heap.size) (f:Bool) (m:Mv) (t:T9 w S m):
  Calls Tryz.prog 12 #[.agg (mvV m).toArray,(pT q.r),bV f] wr λi g=>(∃b e c d a,i=.returned (.agg #[jI b,uI e,.slice c a.length d])/\EvF f b e d a/\Tq w g q n x bL [(c,a,b)])/\bW wr g:=by
 refine(Oa f S m q.r q.en q.l wr (t.below h.bel) h.rw_.hr h.rw_.he h.rw_.ok).mono ?_;rintro i g ⟨⟨b,e,c,d,a,r,s⟩,j⟩;obtain⟨l,o⟩:=h.got p s j;exact⟨⟨b,e,c,d,a,r,l,o⟩,j⟩
theorem Tq.row (h:Tq w wr q n x bL bo) (a:n<=148):
  Calls Tryz.prog 14 #[(pT q.p)] wr λb f=>b=.returned (.agg (rwV (woRow x)))/\bW wr f:=by
 obtain⟨e,c,g⟩:=h.ex;have i:=h.wd.small (ay a dC) (ay a dC);(have d:x.eO.toNat<=100000:=by have:=h.wd.ahi;have:=h.wd.ahc;omega);exact GV e wr wr q.p x.eO.toNat x.eO.toNat _ q.rp x (dD.refl c) h.wd.en h.wd.pe d oM oM
theorem Tq.start {b p j k l:Nat} {s:Nat->Nat} {t:Wp} {d:Pl} {m o:List Fa} {S:Nat->Prop} {g:World} (h:BgAt g wr b p j k l s t d m o) (f:bW w g) (hb:bW g wr) (i:UL w S d) (e:∀c∈bL,w.heap.size<=c.1/\Blk g c.1 c.2.1 c.2.2):
  Tq w wr ⟨p,j,k,l,t⟩ 0 (mO (fV d.k) (d.ws.take 60) m o d.delay) ((b,45,#[pT p,pT j])::bL) []:=by
 refine⟨⟨s,h.wo,λy u=>h.old y (aC u f.size),h.o.2.1,h.o.2.2.1,h.o.2.2.2,λc a=>?_,λc a=>by cases a⟩,h.rw_,λc a=>?_,λc a=>?_,?_,f.trans (hb.mono f.size)⟩
 ·rcases bT.1 a with rfl|a
  ·exact h.o.1
  ·exact h.old _ (e c a).2.lt
 ·rcases bT.1 a with rfl|a
  ·exact h.blk
  ·exact(e c a).2.below hb (e c a).2.lt
 ·rcases bT.1 a with rfl|a
  ·exact ay f.size h.bb
  ·exact(e c a).1
 ·have r:=i.delay
  exact OU (CS i.ku) (λz v=>i.wu z (bf v)) (by rw[aT];omega) (by have:=h.fa.1;omega) (by have:=h.fa.2.1;omega) h.fa.2.2.1 h.fa.2.2.2 ⟨r.1,by have:=r.2;omega⟩
end
structure Sq where
 kind:Int
 wait:Int
 n:Int
 zD:Sh
def sqV (s:Sq):List Value:=.int .u8 s.kind::.int .u32 s.wait::.int .u16 s.n::shV s.zD
structure SqOk (w:World) (S:Nat->Prop) (s:Sq):Prop where
 kind:0<=s.kind/\s.kind<256
 wait:0<=s.wait/\s.wait<4294967296
 n:U16 s.n
 zD:zW w S s.zD
theorem SqOk.below {w w':World} {S:Nat->Prop} {s:Sq} (h:SqOk w S s) (hb:bW w w'):SqOk w' S s:=⟨h.kind,h.wait,h.n,h.zD.below hb⟩
theorem Xy (s:Sq):(sqV s).length=12:=rfl
theorem LX (s:Sh):(shV s).length=9:=rfl
theorem BF {o:Type} {f:o->List Value} {m:Nat} (l:∀x,(f x).length=m) {S:Nat->Prop} {t:TypeId} {a:Option Addr} {d:List o} {w:World} (h:Row w S t m a d.length (d.flatMap f)) {i:Nat} (s:i<d.length):∃b g,a=some ⟨b,g,none⟩/\b<w.heap.size/\w.rangeAt b (g+i*m) (f d[i]):=by
 obtain⟨b,g,rfl,_,q,r⟩:=h.at_ oM;refine⟨b,g,rfl,q,λj v n=>?_⟩;(have u:j<m:=by have:=(List.getElem?_eq_some_iff.1 n).1;rwa [l]at this);have:=r (i*m+j) v ((mr l d i j s u).trans n)
 rwa [<-Nat.add_assoc]at this
theorem Bq {w:World} {b o:Nat} {s:Sq} (h:w.rangeAt b o (sqV s)):w.cell? ⟨b,o,none⟩=some (.int .u8 s.kind)/\w.cell? ⟨b,o+1,none⟩=some (.int .u32 s.wait)/\w.cell? ⟨b,o+2,none⟩=some (.int .u16 s.n)/\w.rangeAt b (o+3) (shV s.zD):=
 ⟨h 0 _ rfl,h 1 _ rfl,h 2 _ rfl,λa f d=>by have:=h (a+3) f d;rwa [show o+(a+3)=o+3+a from by omega]at this⟩
theorem MP (n:Int):(yx n).length<=300:=by unfold yx;rw[bR,List.length_range];omega
theorem OX (n:Int):dP (yx n):=by
 intro d a;unfold yx at a;obtain⟨b,_,rfl⟩:=List.mem_map.1 a;exact⟨oM,oM⟩
structure Lq (W0 w:World) (F:Nat->Prop) (p k:Nat) (c:Cf) (e:En):Prop where
 eg:Eg W0 w F p e
 ok:dG k e
 cf:e.c=c
section
variable {W0 w w':World} {F S:Nat->Prop} {p k:Nat} {c:Cf} {e:En}
theorem Lq.below (h:Lq W0 w F p k c e) (hb:bW w w'):Lq W0 w' F p k c e:=⟨h.eg.below hb,h.ok,h.cf⟩
theorem Lq.mono {k':Nat} (h:Lq W0 w F p k c e) (a:k<=k'):Lq W0 w F p k' c e:=⟨h.eg,h.ok.mono a,h.cf⟩
theorem Lq.write (h:Lq W0 w F p k c e) {d:Option Addr} {a:List Int} {f:Nat} (hb:Bys w S d a) (l:a.length<=f) (m:a.length<=1000000000) (n:dP a):
  Calls Tryz.prog 17 #[pT p,.slice d a.length f] w λg w'=>(∃q,g=.returned q)/\∃b,Lq W0 w' b p k c (fU e a).en/\(fU e a).en.now=e.now/\Stp w w' F b:=by
 refine(h.eg.write h.ok hb l m).mono ?_;rintro g w' ⟨o,b,i,j⟩;refine⟨⟨_,o⟩,b,⟨i,CE h.ok n,?_⟩,?_,j⟩
 ·rw[<-h.cf];unfold fU;(repeat' split)<;>rfl
 ·unfold fU;(repeat' split)<;>rfl
theorem Lq.next (h:Lq W0 w F p k c e) (l:k<=70000000) {now:Int} (b:Word now):
  Calls Tryz.prog 19 #[pT p,uI now] w λd w'=>(∃n,d=.returned n)/\∃a,Lq W0 w' a p (k+200) c (WK 200 e now).en/\(WK 200 e now).en.now=max e.now now/\Stp w w' F a:=by
 refine(Qf W0 k F p e now w h.eg h.ok l b).mono ?_;rintro d w' ⟨o,q,a,m,i,j,r⟩;obtain⟨f,g⟩:=IP 199 e now;exact⟨⟨_,m⟩,a,⟨i,Xi 200 k e now h.ok b,f.trans h.cf⟩,g,j⟩
theorem Lq.tick (h:Lq W0 w F p k c e) {now:Int} (b:Word now):
  Calls Tryz.prog 23 #[pT p,uI now] w λd w'=>d=.returned (.tuple #[])/\∃a,Lq W0 w' a p k c (kr e now)/\(kr e now).now=max e.now now/\Stp w w' F a:=by
 refine(h.eg.tick h.ok b).mono ?_;rintro d w' ⟨l,a,i,j⟩;obtain⟨f,g⟩:=OV e now;exact⟨l,a,⟨i,EV h.ok b,f.trans h.cf⟩,g,j⟩
theorem Lq.notin (h:Lq W0 w F p k c e) (b:∀k,S k->k<W0.heap.size) (w':World):¬(S p\/w.heap.size<=p/\p<w'.heap.size):=by
 have d:=h.eg.lo p h.eg.en.mem;have f:=h.eg.bd p h.eg.en.mem;rintro(a|a)
 ·have:=b p a;omega
 ·omega
theorem Lq.on (h:Lq W0 w F p k c e) (r:k<=90000000) {now:Int} (g:Word now) {tb:TypeId} {a:Option Addr} {m:Nat} {b:List Int} (hb:Byt tb w S a b) (q:b.length<=100000) (f:dP b) (t:tb≠154\/¬S p):
  Calls Tryz.prog 20 #[pT p,.slice a b.length m,uI now] w λi w'=>i=.returned (.agg #[jI (lU e b now).ver.kind,jI (lU e b now).ver.why,uI (lU e b now).ver.pn,bV (lU e b now).ver.dU])/\∃d,Lq W0 w' d p (k+1) c (lU e b now).en/\(lU e b now).en.now=max e.now now/\Stp w w' F d:=by
 refine(h.eg.on h.ok r g hb q f t).mono ?_;rintro i w' ⟨s,d,n,o⟩;obtain⟨j,l⟩:=VQ e b now;exact⟨s,d,⟨n,Mo h.ok f g,j.trans h.cf⟩,l,o⟩
theorem Lq.aS (h:Lq W0 w F p k c e):Calls Tryz.prog 24 #[pT p] w λa w'=>a=.returned (.agg (stV (cK e)))/\bW w w':=h.eg.aS h.ok
theorem Lq.ledger (h:Lq W0 w F p k c e):
 Calls Tryz.prog 22 #[pT p,.agg (cfV c)] w λb w'=>∃a,b=.returned (.agg #[.pointer none,pT a])/\Ka w' a/\bW w w':=Gq W0 k F p e c w h.eg h.ok
theorem Ju {a:Nat->Prop} {l:Nat} {s:Sh} (q:Ka w l) (t:zW w a s):
  Calls Tryz.prog 21 #[.agg (shV s).toArray,.agg #[.pointer none,pT l]] w λe w'=>∃b c d,e=.returned (.slice b d.length c)/\FrAt w w' a b c d/\bW w w':=by
 obtain⟨u,i,f,g,r,j,m,n,o⟩:=q.ex;exact ER g a l (.pointer none) u i f s w r j m n o t
theorem Lq.new {tw:TypeId} {d:Nat->Prop} {a:Option Addr} {j:Nat} {words:List Int} (g:lV c) (o:Wot tw w d a words) (q:rG words) (i:words.length<=1000000):
  Calls Tryz.prog 15 #[.agg (cfV c),.slice a words.length j] w λl w'=>∃p,l=.returned (.tuple #[pT p,jI 0])/\Lq w w' (λk=>w.heap.size<=k/\k<w'.heap.size) p 0 c (nK c words)/\bW w w':=by
 refine(JH d a j words c w g o i).mono ?_;rintro l w' ⟨p,n,m,f⟩;exact⟨p,n,⟨⟨m,λk b=>b.2,λk b=>b.1,f⟩,JI g q i,rfl⟩,f⟩
end
end Go.Proofs.YtiflndepmgnojaaGreat
