import Derived.OpenShut
import Derived.Deep.Slices
import Derived.Laws.StructEq
import Derived.ChangeKeysEq
import Derived.ProofKit
import Derived.Test.YtiflndepmgnojaaGreatRfb
namespace Go.Proofs.YtiflndepmgnojaaGreat
open Go.RowKit Tryz Go.Deep Go.ChangeShapes Go.WideShapes Go.ChangeAt
set_option linter.unusedSimpArgs false
set_option linter.unusedVariables false
set_option maxHeartbeats 16000000
set_option maxRecDepth 100000
variable {K:Act->World->Prop} {w w':World} {c b k m p n d:Nat} {C:Array Value} {D:Wo} {V:List Value} {l:List Int} {t e:TypeId} {z:Int} {O:List Oper}
theorem TZ (c:Cf) (h:lV c) (w:World):
  Yk 150 #[.agg (cfV c)] w λi j=>i=.returned (jI 0)/\bW w j:=by
 obtain⟨I,K,Z,L,M,N,a0,O,P,J,n,o,p,q,r,s,Y,t,A,B,C,D,E,F,G,H,u,v,x,y,z⟩:=h;(have Q:(c.one !=1)=true:=by simpa using L);have R:c.bn<=c.most:=oM;have S:Word c.mss:=⟨oM,oM⟩;have m:X3 (∀w,Yk 207 #[uI 2,uI c.mss] w λi j=>i=.returned (uI (2*c.mss))/\w=j):=zH (λw=>(Uq 2 c.mss ⟨dC,dC⟩ S w).mono (by
  rintro i j ⟨b3,rfl,b2,a4,rfl⟩;rw[a4 oM];exact⟨rfl,rfl⟩))
 clear Z L a0 S;go_enter Tryz.func150,Tryz.ntmps150;go_upto_region 1 with fail;generalize l:w.alloc (.cells (cfV c) 32)=wc at*
 (have U:bW w wc:=by rw[<-l];exact BEL);(have T:Blk wc w.heap.size 32 (cfV c):=by rw[<-l];exact Wx _ _ _);clear l;have X:∀d b,(X3 (bW wc b)/\X3 (Blk b d 340 T17.toArray)/\wc.heap.size<=d)->bW w b/\X3 (∀e:Nat,e<17->b.cell? ⟨d,e,none⟩=some (bV true)):=λd b f=>⟨U.trans (f.1.o.mono U.size),zH (λe b1=>by
  have a1:=f.2.1.o;rcases e with _|_|_|_|_|_|_|_|_|_|_|_|_|_|_|_|_|e;all_goals first|exact a1.cell _|omega)⟩
 rcases Y with g|g;refine rckR1 (λk _ _ _ _ h=>by cases k<;>exact h) (by rfl) _ _ c I K Q M N O P J n o p q r s t A B C D E F G H u v x y z R (by rw[g];rfl) m wc T (λd b f=>?_);rotate_left;refine rckR2 (λk _ _ _ _ h=>by cases k<;>exact h) (by rfl) _ _ c I K Q M N O P J n o p q r s t A B C D E F G H u v x y z R (by rw[g];rfl) (by rw[g];rfl) m wc T (λd b f=>?_);rotate_left;all_goals
  obtain⟨V,a5⟩:=X d b f;clear g;(first|simp only[fr6,fr5,fr4,fr3,fr2,fr1,fr0,uP]|simp only[fr9,fr8,fr7,fr3,fr2,fr1,fr0,uP]);have W:=zH V;clear V;(try simp only[]);go_wp2;go_loopg [4] 17 (λe a6 wr=>∃a:Nat,a6=jI (a:Int)/\a+e=17/\wr=b);(case atStart=>exact⟨0,rfl,rfl,rfl⟩);case round=>
   obtain⟨a,rfl,b0,rfl⟩:=hrel;by_cases h:a<17
   .have a2:decide ((a:Int)<17)=true:=bM oM
    have a3:(a:Int)<17:=oM;have a7:=a5.o a h;have a8:((a:Int)).toNat=a:=Int.toNat_natCast a;have a9:IntKind.i64.wrap ((a:Int)+1)=(a:Int)+1:=eP _ ⟨oM,oM⟩;go_wp2;go_roundg (gk -1);(case measure=>omega);case rel=>exact⟨a+1,sM,oM,rfl⟩
   .have a2:decide ((a:Int)<17)=false:=bJ oM
    have a3:¬(a:Int)<17:=oM;go_wp2;go_ret;exact⟨rfl,W.o⟩
theorem UM (w:World) (c1:Array Value) (a:TypeId) (c2:Array Value) (b:TypeId):
  Blk ((w.alloc (.cells c1 a)).alloc (.cells c2 b)) w.heap.size a c1/\Blk ((w.alloc (.cells c1 a)).alloc (.cells c2 b)) (w.heap.size+1) b c2:=by
 have c:=Wx w a c1;have e:=(aj (w.alloc (.cells c1 a)).heap.size (w.alloc (.cells c1 a))).alloc (av _) (.cells c2 b);have d:=Wx (w.alloc (.cells c1 a)) b c2;have f:(w.alloc (.cells c1 a)).heap.size=w.heap.size+1:=sM;rw[f]at d;exact⟨c.below e c.lt,d⟩
structure TmI (w wr:World):Prop where
 c4:Blk wr w.heap.size 374 #[uI 0,uI 0]
 c5:∃h l:Int,Blk wr (w.heap.size+1) 374 #[uI h,uI l]
 lo:bW w wr
theorem TmI.get {w wr:World} (h:TmI w wr):∃c b:Int,wr.cell? ⟨w.heap.size+1,0,none⟩=some (uI c)/\wr.cell? ⟨w.heap.size+1,1,none⟩=some (uI b)/\wr.frozen? ⟨w.heap.size+1,0,none⟩=false/\wr.frozen? ⟨w.heap.size+1,1,none⟩=false:=by
 obtain⟨c,b,a⟩:=h.c5;exact⟨c,b,a.cell 0,a.cell 1,a.frozen 0,a.frozen 1⟩
theorem TmI.set0 {w wr:World} (h:TmI w wr) (v:Int):TmI w (wr.setCell ⟨w.heap.size+1,0,none⟩ (uI v)):=by
 obtain⟨c,b,a⟩:=h.c5;exact⟨h.c4.far (by show w.heap.size≠w.heap.size+1;omega) _,⟨_,_,a.bF 0 _⟩,h.lo.setCell (by show w.heap.size<=w.heap.size+1;omega) _⟩
theorem TmI.set1 {w wr:World} (h:TmI w wr) (v:Int):TmI w (wr.setCell ⟨w.heap.size+1,1,none⟩ (uI v)):=by
 obtain⟨c,b,a⟩:=h.c5;exact⟨h.c4.far (by show w.heap.size≠w.heap.size+1;omega) _,⟨_,_,a.bF 1 _⟩,h.lo.setCell (by show w.heap.size<=w.heap.size+1;omega) _⟩
theorem UD (a b:Int) (w:World):Yk 243 #[uI a,uI b] w λE H=>∃h c,E=.returned (.agg #[uI h,uI c])/\bW w H:=by
 go_enter Tryz.func243,Tryz.ntmps243;go_wp2_with fail;obtain⟨t,u⟩:=UM w #[uI 0,uI 0] 374 #[uI 0,uI 0] 374;generalize o:World.alloc _ _=y at*
 have n:TmI w y:=⟨t,⟨0,0,u⟩,by rw[<-o];exact BEL⟩;clear o t u;have v:=zH n;clear n;go_loopg [6] 64 (λs G wr=>G=jI ((s:Int) -1)/\X3 (TmI w wr)/\s<=64);(case atStart=>exact⟨rfl,v,dC⟩);case round=>
  obtain⟨rfl,d,Q⟩:=hrel;by_cases R:0<gk
  .have M:decide ((0:Int)<=(gk:Int) -1)=true:=bM oM
   have N:(0:Int)<=(gk:Int) -1:=oM;have O:IntKind.i64.wrap ((gk:Int) -1 -1)=(gk:Int) -1 -1:=eP _ ⟨oM,oM⟩;have m:(gk:Int) -1 -1=((gk -1:Nat):Int) -1:=oM;obtain⟨h,c,f,g,i,j⟩:=d.o.get;go_upto_region 7 with fail;generalize p:World.setCell _ _ _=z at*
   have k:X3 (TmI w z):=zH (by rw[<-p];exact(d.o.set0 _).set1 _);clear p f g i j d;go_upto_if 28 with fail;generalize(bits _ _ _ _==(1:Int))=C;cases C with
   |false=>
    go_wp2;go_roundg (gk -1);(case measure=>omega);case rel=>exact⟨by rw[<-m],k,oM⟩
   |true=>
    obtain⟨h,c,f,g,i,j⟩:=k.o.get;go_upto_region 9 with fail;generalize q:World.setCell _ _ _=A at*
    have l:X3 (TmI w A):=zH (by rw[<-q];exact k.o.set1 _);clear q f g i j k;obtain⟨h,c,f,g,i,j⟩:=l.o.get;go_upto_if 37 with fail;generalize decide (c<a)=D;cases D with
    |false=>
     go_wp2;go_roundg (gk -1);(case measure=>omega);case rel=>exact⟨by rw[<-m],l,oM⟩
    |true=>
     go_wp2_with fail;generalize r:World.setCell _ _ _=B at*
     have x:X3 (TmI w B):=zH (by rw[<-r];exact l.o.set0 _);clear r;go_roundg (gk -1);(case measure=>omega);case rel=>exact⟨by rw[<-m],x,oM⟩
  .have F:gk=0:=oM
   subst F;obtain⟨h,c,f,g,i,j⟩:=d.o.get;have e:=d.o.c4;obtain⟨I,J⟩:=e.e2 0 1;have K:=e.frozen 0;have L:=e.frozen 1;have P:decide ((0:Int)<=((0:Nat):Int) -1)=false:=dC;go_wp2;refine iZ 4 374 w.heap.size #[uI h,uI c] kR kR ((e.bF 0 _).bF 1 _) _ Tryz.underlying374 kR kR rfl ?_;exact⟨_,_,rfl,(d.o.lo.setCell (av _) _).setCell (av _) _⟩
theorem Va (e lo d:Int) (w:World):Yk 244 #[uI e,uI lo,uI d] w λl q=>∃a b g,l=.returned (.tuple #[uI a,uI b,bV g])/\w=q:=by
 go_enter Tryz.func244,Tryz.ntmps244;go_upto_if 15 with fail;generalize decide (d<=e)=j;cases j with
 |true=>
  go_wp2_with fail;go_ret3;exact⟨_,_,_,rfl,rfl⟩
 |false=>
  go_wp2;go_loopg [9,10,11] 64 (λf p n o wr=>∃a b,p=uI a/\n=uI b/\o=jI ((f:Int) -1)/\wr=w/\f<=64);(case atStart=>exact⟨_,_,rfl,rfl,rfl,rfl,dC⟩);case round=>
   obtain⟨a,b,rfl,rfl,rfl,rfl,v⟩:=hrel;by_cases x:0<gk
   .have r:decide ((0:Int)<=(gk:Int) -1)=true:=bM oM
    have s:(0:Int)<=(gk:Int) -1:=oM;have t:IntKind.i64.wrap ((gk:Int) -1 -1)=(gk:Int) -1 -1:=eP _ ⟨oM,oM⟩;have c:(gk:Int) -1 -1=((gk -1:Nat):Int) -1:=oM;go_upto_region 8 with fail;generalize(_==(1:Int))=i;cases i with
    |true=>
     go_wp2;go_roundg (gk -1);(case measure=>omega);case rel=>exact⟨_,_,rfl,rfl,by rw[<-c],rfl,oM⟩
    |false=>
     go_upto_if 39 with fail;generalize decide (d<=_)=k;cases k with
     |true=>
      go_wp2;go_roundg (gk -1);(case measure=>omega);case rel=>exact⟨_,_,rfl,rfl,by rw[<-c],rfl,oM⟩
     |false=>
      go_wp2;go_roundg (gk -1);(case measure=>omega);case rel=>exact⟨_,_,rfl,rfl,by rw[<-c],rfl,oM⟩
   .have m:gk=0:=oM
    subst m;have u:decide ((0:Int)<=((0:Nat):Int) -1)=false:=dC;go_wp2_with fail;go_ret3;exact⟨_,_,_,rfl,rfl⟩
theorem UZ (a b d:Int) (w:World):Yk 210 #[uI a,uI b,uI d] w λc l=>∃k,c=.returned (uI k)/\bW w l:=by
 go_enter Tryz.func210,Tryz.ntmps210;go_wp2_with fail;refine(UD a b w).mono ?_;rintro c m ⟨h,i,rfl,g⟩;have e:=zH g;clear g;go_wp2_with fail;refine(Va h i d _).mono ?_;rintro c p ⟨n,o,j,rfl,rfl⟩;have f:X3 (bW w (m.alloc (.cells #[uI h,uI i] 374))):=zH (e.o.alloc e.o.size _);cases j with
 |true=>
  go_wp2;go_ret;exact⟨_,rfl,f.o⟩
 |false=>
  go_wp2;go_ret;exact⟨_,rfl,f.o⟩
theorem UU (a b d:Int) (w:World):Yk 155 #[uI a,uI b,uI d] w λc i=>∃f,c=.returned (uI f)/\bW w i:=by
 go_enter Tryz.func155,Tryz.ntmps155;go_wp2_with fail;refine(UZ _ _ _ _).mono ?_;rintro c j ⟨f,rfl,e⟩;have g:=zH e;clear e;go_wp2;go_ret;exact⟨_,rfl,g.o⟩
theorem UW (a b d:Int) (e:Word a) (w:World):Yk 154 #[uI a,uI b,uI d] w λc g=>∃i j k,c=.returned (.agg #[uI i,uI j,uI k])/\bW w g:=by
 go_enter Tryz.func154,Tryz.ntmps154;go_wp2_with fail;refine(UY a e _).mono ?_;rintro c m ⟨f,rfl,l,rfl⟩;go_wp2;refine iZ (t:=134) 6 134 w.heap.size #[uI f,uI b,uI (min d 4294967296)] kR kR ?_ _ Tryz.underlying134 kR kR rfl ?_
 .exact Wx _ _ _
 .exact⟨_,_,_,rfl,BEL⟩
theorem UV (d:Int) (w:World):Yk 82 #[uI d] w λa c=>∃b,a=.returned ((pT b))/\bW w c:=by
 go_enter Tryz.func82,Tryz.ntmps82;go_wp2;go_ret;exact⟨_,rfl,BEL⟩
theorem UF (d:Int) (w:World):Yk 151 #[jI d] w λa c=>∃b,a=.returned ((pT b))/\bW w c:=by
 go_enter Tryz.func151,Tryz.ntmps151;go_wp2;go_ret;exact⟨_,rfl,BEL⟩
theorem Ur (d n:Int) (w:World):Yk 208 #[jI d,uI n] w λa c=>∃b,a=.returned ((pT b))/\bW w c:=by
 go_enter Tryz.func208,Tryz.ntmps208;go_wp2;go_ret;exact⟨_,rfl,BEL⟩
theorem UG (d n:Int) (w:World):Yk 152 #[jI d,uI n] w λb f=>∃e,b=.returned ((pT e))/\bW w f:=by
 go_enter Tryz.func152,Tryz.ntmps152;go_wp2_with fail;refine(Ur d n w).mono ?_;rintro b g ⟨e,rfl,c⟩;have a:=zH c;clear c;go_wp2;go_ret;exact⟨_,rfl,a.o.alloc a.o.size _⟩
theorem UE (c:Cf) (h:lV c) (w:World):Yk 153 #[.agg (cfV c)] w λq r=>q=.returned (.agg #[uI c.jD,uI 18446744073709551615,uI 0,uI 0,uI 18446744073709551615,uI 0,uI 0,uI 0,uI 0])/\bW w r:=by
 have g:=zH h;clear h;go_enter Tryz.func153,Tryz.ntmps153;go_wp2_with fail;refine Yd (TZ c g.o _) ?_;intro t b;obtain⟨e,f⟩:=UM w (cfV c) 32 Yh 132;have n:=zH ((show bW w ((w.alloc (.cells (cfV c) 32)).alloc (.cells Yh 132))from BEL).trans (b.mono sO));have l:=e.below b e.lt;have i:=zH (f.below b f.lt);have s:=l.Wu 6;clear e f b l;go_upto_region 3 with fail;generalize k:c.jD=a at*
 have p:=zH k;clear k g;repeat ((fail_if_success (with_reducible apply eG));first|(refine iG 132 (.tmp 2) (.tmp 10) rfl rfl rfl (w.heap.size+1) 0 #[uI a,uI 18446744073709551615,uI 0,uI 0,uI 18446744073709551615,uI 0,uI 0,uI 0,uI 0] kR kR (i.o.there _ sM) kR XF ?_;intro j d;have m:=zH (show Blk j (w.heap.size+1) 132 #[uI a,uI 18446744073709551615,uI 0,uI 0,uI 18446744073709551615,uI 0,uI 0,uI 0,uI 0] by rw[d];exact Blk.gF i.o [uI a,uI 18446744073709551615,uI 0,uI 0,uI 18446744073709551615,uI 0,uI 0,uI 0,uI 0] rfl);have o:=zH (show bW w j by rw[d];exact Below.bZ (Nat.le_succ _) _ _ _ n.o);clear d)|go_values|go_skip|go_guarded|go_step|go_upon|go_back|go_simp)
 (try simp only[Exit.inBlock,Exit.then])
 refine iZ 2 132 (w.heap.size+1) #[uI a,uI 18446744073709551615,uI 0,uI 0,uI 18446744073709551615,uI 0,uI 0,uI 0,uI 0] kR kR m.o _ Tryz.underlying132 kR kR rfl ?_;exact⟨by rw[p.o],o.o⟩
structure NeAt (w w':World) (en l:Nat):Prop where
 lo:w.heap.size<=l
 eo:w.heap.size<=en
 he:w'.cell? ⟨en,20,none⟩=some ((pT l))
 lt:en<w'.heap.size
 hx:∃ring dO,Blk w' l 166 #[jI ring,uI dO,zzN]/\0<=ring/\ring<=1000000
section
variable {P:Program} {md:Region.Mode} {ops:Array Oper} {Q:X7} {i:Nat} {op:Oper} {a:Act} {w:World}
theorem Vk (j:ops[i]?=some op) (g:op.guard=none) (d:Option Tmp) (f:op.dst=d) (h:∀b:Act->World->Prop,(∀c e,K (a.put d c) e->b (a.put op.dst c) e)->op.wp P a w b Q):wpOp P ops Q i K a w:=
 jl j g (h K (by subst f;exact λ_ _ h=>h))
end
theorem Up {tw:TypeId} (c:Cf) (a5:lV c) (S:X4) (o:X5) (b0:Nat) (words:List Int) (w:World) (a9:Wot tw w S o words) (f9:words.length<=1000000):
  Yk 81 #[.agg (cfV c),.slice o words.length b0] w λa1 C=>∃a2 d6,a1=.returned (.tuple #[pT a2,jI 0])/\NeAt w C a2 d6/\bW w C:=by
 obtain⟨a0,l⟩:=eX (w.alloc (.cells (cfV c) 32));(have a3:bW w a0:=by rw[l];exact BEL);(have E:Blk a0 w.heap.size 32 (cfV c):=by rw[l];exact Wx _ _ _);obtain⟨k,p⟩:=eX w.heap.size;rw[<-p]at E;obtain⟨U,D,b8,g,f0⟩:=BF a3 E (λZ (c3:bW w Z)=>(show Wot tw Z S o words from aD a9 c3)) a5 p;have c2:=l;have X:=zH l;clear a9 a5 a3 E l c2;go_enter Tryz.func81,Tryz.ntmps81;go_upto_region 1 with fail;rw[<-X.o,<-p];clear p;(repeat (first|(refine kP 32 (.tmp 2) rfl rfl (some 6) rfl k kR (cfV c) D.o _ Tryz.underlying32 kR kR ?_;clear X)|(fail_if_success (go_at_call 150));first|go_values|go_skip|go_guarded|go_step|go_upon|go_back|go_simp));go_at_call 150;refine(TZ c g.o _).mono ?_;rintro a1 j ⟨rfl,F⟩;obtain⟨Y,V⟩:=yx (D.o.below F D.o.lt) (U.o.trans (F.mono U.o.size));clear F;go_upto_region 3 with fail;have c4:Word c.gD:=⟨by have:=g.o.Rh;have:=g.o.Gj;omega,by have:=g.o.Rf;omega⟩;have a6:bW j j.drew:=bA (aj _ _);have d:Blk j.drew k 32 (cfV c):=Y.o.below a6 Y.o.lt;have q:bW w j.drew:=V.o.trans (a6.mono V.o.size);refine aZ (S:=λC=>Blk C k 32 (cfV c)) kR d (λc0=>?_);clear c0;refine iL (v:=.agg (cfV c)) 0 (some 9) rfl kR kR kR kR (λ_ _ _ h=>h) (lH 32 (.tmp 2) rfl rfl k kR (cfV c) (λw e=>e) _ Tryz.underlying32 kR kR) d ?_;refine Yf 1 10 d ?_;refine tK 4 13 d ?_;refine X6 5 14 d ?_ (y:=by intro w e;have f:=e.Wu 4;exact gS);refine tK 7 16 d ?_;refine X6 8 17 d ?_ (y:=by intro w e;have f:=e.Wu 2;exact gS);refine nrm 33 435 ?_;refine tK 9 18 d ?_;refine X6 10 19 d ?_ (y:=by intro w e;have f:=e.Wu 3;exact gS);refine tK 12 21 d ?_;refine X6 13 22 d ?_ (y:=by intro w e;have f:=e.Wu 15;exact gS);refine tK 14 23 d ?_;refine X6 15 24 d ?_ (y:=by intro w e;have f:=e.Wu 16;exact gS);refine nrm 33 63411 ?_;refine iL (v:=.agg (cfV c)) 17 (some 26) rfl kR kR kR kR (λ_ _ _ h=>h) (lH 32 (.tmp 2) rfl rfl k kR (cfV c) (λw e=>e) _ Tryz.underlying32 kR kR) d ?_;refine Yf 19 28 d ?_;refine X6 20 29 d ?_ (y:=by intro w e;have f:=e.Wu 13;exact gS);refine tK 21 30 d ?_;refine X6 22 31 d ?_ (y:=by intro w e;have f:=e.Wu 6;exact gS);refine tK 23 32 d ?_;refine nrm 33 16447411 ?_;refine X6 24 33 d ?_ (y:=by intro w e;have f:=e.Wu 10;exact gS);refine tK 25 34 d ?_;refine X6 26 35 d ?_ (y:=by intro w e;have f:=e.Wu 14;exact gS);refine nrm 33 133887923 ?_;refine aI 2 kR ?_;refine Vk (op:=_) rfl kR (some 11) kR (λf1 c1=>qH.wp _ (.tmp 10) rfl j.drew.heap.size none 0 [] kR (iq _ _ _ _) o b0 words kR (b8.o _ q) sO dC (av _) ?_);intro b3 b9 b2 f8 d1;refine c1 _ _ ?_;have b:Below j.drew.heap.size j.drew b2:=(aj _ _).grown d1 (av _) XI;have m:=d.below b d.lt;have J:bW w b2:=q.trans (b.mono q.size);refine⟨m,?_⟩;refine Yf 3 12 m ?_;refine nrm 33 133887935 ?_;refine aI 6 kR ?_;refine opC 15 151 #[jI c.room] ((UF c.room _).mono ?_);rintro f7 e9 ⟨d8,d0,b⟩;have B:=m.below b m.lt;have s:bW w e9:=J.trans (b.mono J.size);refine⟨_,d0,B,?_⟩;refine mP ?_;refine aI 11 kR ?_;refine opC 20 57 #[jI c.ring,uI c.dO] ((Nh c.ring c.dO _).mono ?_);rintro f2 e3 ⟨T,c5,d3,d5,b⟩;have d4:w.heap.size<=T:=ay s.size d3;have t:=B.below b B.lt;have G:bW w e3:=s.trans (b.mono s.size);refine⟨_,c5,t,?_⟩;refine mP ?_;have L:=d5;refine aI 16 kR ?_;refine opC 25 152 #[jI c.bE,uI c.every] ((UG c.bE c.every _).mono ?_);rintro f3 e4 ⟨d7,c6,b⟩;have u:=t.below b t.lt;have H:bW w e4:=G.trans (b.mono G.size);refine⟨_,c6,u,?_⟩;refine mP ?_;have M:=L.below b L.lt;refine aI 18 kR ?_;refine opC 27 153 #[.agg (cfV c)] ((UE c g.o _).mono ?_);rintro f4 e5 ⟨c7,b⟩;have x:=u.below b u.lt;have I:bW w e5:=H.trans (b.mono H.size);refine⟨_,c7,x,?_⟩;refine mP ?_;have N:=M.below b M.lt;refine aI 27 kR ?_;refine opC 36 155 #[uI c.jD,uI c.first,uI c.WL] ((UU c.jD c.first c.WL _).mono ?_);rintro f5 e6 ⟨b1,c8,b⟩;have z:=x.below b x.lt;have K:bW w e6:=I.trans (b.mono I.size);refine⟨_,c8,z,?_⟩;refine mP ?_;have O:=N.below b N.lt;refine aI 28 kR ?_;refine opC 37 154 #[uI c.gD,uI 0,uI b1] ((UW c.gD 0 b1 c4 _).mono ?_);rintro f6 e7 ⟨e0,e1,e2,c9,b⟩;have n:=z.below b z.lt;have r:bW w e7:=K.trans (b.mono K.size);refine⟨_,c9,n,?_⟩
 refine mP ?_;have R:=O.below b O.lt;refine tK 29 38 n ?_;refine nrm 33 1073741823 ?_;refine aI 30 kR ?_;refine RX (op:=_) rfl kR (some 39) kR 136 (.tmp 38) kR #[jI c.bits,uI c.one,jI c.ring,uI c.dO,jI c.room,uI c.mss,uI c.jD,uI c.bn,uI c.most,jI c.pX,uI c.first,uI c.jc,uI c.cap,uI c.gD,uI c.WL,jI c.bE,uI c.every,.slice b3 words.length b9,jI 0,pT d8,pT T,pT d7,bV false,uI 0,uI 0,uI 0,uI 0,jI 0,uI 0,uI c.jD,uI 18446744073709551615,uI 0,uI 0,uI 18446744073709551615,uI 0,uI 0,uI 0,uI 0,uI e0,uI e1,uI e2,uI 18446744073709551615,uI 0,uI 0,jI 1,jI 0,uI 0,jI 0] kR kR ?_;intro d9 e8 b d2 a4;have A:=n.below b n.lt;have a7:bW w e8:=r.trans (b.mono r.size);refine⟨A,?_⟩;refine mP ?_;have a8:=R.below b R.lt;refine tK 31 4 A ?_;refine tK 32 5 A ?_;refine nrm 33 8589934591 ?_;refine bg kR ?_ _;obtain⟨b5,b4,W,b6,b7⟩:=BF a8 a7 a4 d4 (ay r.size d2);clear L M N O R a8 d m B t u x z n A a4 q J s G H I K r a7;go_wp2;go_ret2;exact⟨d9,rfl,⟨T,⟨b6.o,b7.o,W.o.cell 20,W.o.lt,⟨_,_,b5.o,by have:=g.o.wZ;omega,by have:=g.o.lW;omega⟩⟩⟩,b4.o⟩
structure Dv (w:World) (r en l:Nat):Prop where
 hr:w.cell? ⟨r,0,none⟩=some ((pT en))
 he:w.cell? ⟨en,20,none⟩=some ((pT l))
 hx:∃ring dO,Blk w l 166 #[jI ring,uI dO,zzN]/\0<=ring/\ring<=1000000
theorem Dv.keep {c b l:Nat} (h:Dv w c b l) (d:∀a,a=c\/a=b\/a=l->w'.heap[a]?=w.heap[a]?):Dv w' c b l:=by
 obtain⟨i,e,f,g⟩:=h.hx;exact⟨(World.cell?_of_block (w:=w) (d c (.inl rfl))).trans h.hr,(World.cell?_of_block (w:=w) (d b (.inr (.inl rfl)))).trans h.he,i,e,(d l (.inr (.inr rfl))).trans f,g⟩
theorem Dv.below {b a l:Nat} (h:Dv w b a l) (hb:bW w w'):Dv w' b a l:=by
 obtain⟨i,f,c,g⟩:=h.hx;refine h.keep (λe d=>hb.block e ?_);rcases d with rfl|rfl|rfl
 .exact dY w _ h.hr
 .exact dY w _ h.he
 .exact c.lt
theorem Dv.ok {g b l:Nat} (h:Dv w g b l):Ka w l:=by
 obtain⟨i,a,c,d,e⟩:=h.hx;exact⟨i,a,[],λ_=>True,⟨none,0,c,Row.WH,av _⟩,jV _,d,e,λj f=>by cases f⟩
theorem Ub {tw:TypeId} (c:Cf) (n:lV c) (S N O:X4) (x:X5) (a5:Nat) (words:List Int) (a2 k:X5) (c2 P:Nat) (a b:List Fa) (Q:Int) (w:World) (a1:Wot tw w S x words) (c3:words.length<=1000000) (T:Row w N 187 4 a2 a.length (a.flatMap faV)) (U:Row w O 187 4 k b.length (b.flatMap faV)) (d0:a.length<=1000000) (d1:b.length<=1000000):
  Yk 32 #[.agg (cfV c),.slice x words.length a5,.slice a2 a.length c2,.slice k b.length P,uI Q] w λz a7=>(∃I d o,z=.returned (.tuple #[pT I,jI 0])/\Dv a7 I d o/\w.heap.size<=I/\w.heap.size<=d/\w.heap.size<=o)/\bW w a7:=by
 obtain⟨u,l⟩:=eX (w.alloc (.cells (cfV c) 32));(have D:bW w u:=by rw[l];exact BEL);(have B:Blk u w.heap.size 32 (cfV c):=by rw[l];exact Wx _ _ _);obtain⟨b5,m⟩:=eX w.heap.size;rw[<-m]at B;obtain⟨b4,r,b3,b0,b1,M⟩:=Fy B D (Up c n S x a5 words u (aD a1 D) c3) (λj (C:bW w j)=>(show Row j N 187 4 a2 a.length (a.flatMap faV)from aD T C)) (λj (C:bW w j)=>(show Row j O 187 4 k b.length (b.flatMap faV)from aD U C)) l;obtain⟨c6,c7⟩:=yx m (And.intro n.wZ n.lW);clear a1 T U D B l n;go_enter Tryz.func32,Tryz.ntmps32;go_upto_region 1 with fail;rw[<-M.o,<-m];clear m;(repeat (first|(refine kP 32 (.tmp 5) rfl rfl (some 15) rfl b5 kR (cfV c) b4.o _ Tryz.underlying32 kR kR ?_;clear M)|(fail_if_success (go_at_call 81));first|go_values|go_skip|go_guarded|go_step|go_upon|go_back|go_simp));go_at_call 81;refine(b3.o).mono ?_;rintro z J ⟨d,o,rfl,a0,W⟩;obtain⟨g,i⟩:=yx (r.o.trans (W.mono r.o.size)) a0;clear W a0;go_wp2_with fail;refine(UV Q J).mono ?_;rintro z a8 ⟨a6,rfl,E⟩;obtain⟨s,K⟩:=yx (g.o.trans (E.mono g.o.size)) E;clear E;go_wp2_with (at_builtin;first|(have c8:=t;refine Sm.wpList rfl _ (.tmp 30) rfl (e.alloc (.cells #[.slice q a.length y,zzN,jI 0] 193)).heap.size none 0 [] (by rfl) (iq _ _ _ _) k P b (by rfl) (b1.o _ (t.o.alloc t.o.size _)) sO dC (av _) ?_;intro a9 b6 f c1 Z;have X:Below (e.alloc (.cells #[.slice q a.length y,zzN,jI 0] 193)).heap.size (e.alloc (.cells #[.slice q a.length y,zzN,jI 0] 193)) f:=(aj _ _).grown Z (av _) XI;have b2:=zH X;clear c1 Z X)|(refine Sm.wpList rfl _ (.tmp 26) rfl a8.heap.size none 0 [] (by rfl) (iq _ _ _ _) a2 c2 a (by rfl) (b0.o _ s.o) sO dC (av _) ?_;intro q y e c0 Y;have F:bW a8 e:=(aj _ _).grown Y (av _) XI;have L:=zH F;have t:=zH (s.o.trans (F.mono s.o.size));clear c0 Y F));go_ret2;have b9:bW e f:=((aj _ _).alloc (av _) _).trans (b2.o.mono sM);have G:bW J f:=K.o.trans ((L.o.trans (b9.mono L.o.size)).mono K.o.size);obtain⟨v,A⟩:=eX ((f.alloc (.cells #[.slice a9 b.length b6,zzN,jI 0] 193)));(have V:bW J v:=by rw[A];exact G.alloc G.size _);(have c4:v.heap.size=f.heap.size+1:=by rw[A];simp);rw[<-A];have a4:=Wx v 141 #[pT d,pT a6,(pT e.heap.size),(pT f.heap.size),uI 0,bV false,uI 0,zzN,zzN,zzN];rw[c4]at a4;have H:=V.alloc V.size (.cells #[pT d,pT a6,(pT e.heap.size),(pT f.heap.size),uI 0,bV false,uI 0,zzN,zzN,zzN] 141);obtain⟨c5,b7,R,b8⟩:=i.o.hx;obtain⟨a3,d2,c9⟩:=FX r.o.size g.o.size G.size;exact⟨⟨_,d,o,rfl,⟨a4.cell 0,(H.cell (p:=⟨d,20,none⟩) i.o.lt).trans i.o.he,c5,b7,R.below H R.lt,b8⟩,oM,ay a3 i.o.eo,ay a3 i.o.lo⟩,g.o.trans (H.mono g.o.size)⟩
structure Pl where
 ka:Option Addr
 kc:Nat
 k:List Int
 wa:Option Addr
 wc:Nat
 ws:List Int
 aa:Option Addr
 ac:Nat
 ah:List Int
 ba:Option Addr
 bc:Nat
 bk:List Int
 delay:Int
abbrev Yi (q:Pl):Array Value:= #[.slice q.ka q.k.length q.kc,.slice q.wa q.ws.length q.wc,.slice q.aa q.ah.length q.ac,.slice q.ba q.bk.length q.bc,.int .u16 q.delay]
structure UL (w:World) (S:X4) (q:Pl):Prop where
 k:∃t,Row w S t 1 q.ka q.k.length (q.k.flatMap u3V)
 ku:U32 q.k
 ws:∃t,Wot t w S q.wa q.ws
 wu:rG q.ws
 wl:q.ws.length<=q.wc
 ah:∃t,Row w S t 1 q.aa q.ah.length (q.ah.flatMap u3V)
 au:U32 q.ah
 bk:∃t,Row w S t 1 q.ba q.bk.length (q.bk.flatMap u3V)
 bu:U32 q.bk
 delay:U16 q.delay
theorem UL.below {S:X4} {q:Pl} (h:UL w S q) (hb:bW w w'):UL w' S q:=
 {h with k:=by obtain⟨b,a⟩:=h.k;exact⟨b,aD a hb⟩,ws:=by obtain⟨b,a⟩:=h.ws;exact⟨b,aD a hb⟩,ah:=by obtain⟨b,a⟩:=h.ah;exact⟨b,aD a hb⟩,bk:=by obtain⟨b,a⟩:=h.bk;exact⟨b,aD a hb⟩}
structure BgAt (w w':World) (b p r en l:Nat) (own:Nat->Nat) (rp:Wp) (q:Pl) (fa fb:List Fa):Prop where
 bb:w.heap.size<=b
 blk:Blk w' b 45 #[pT p,pT r]
 wo:iW w' own p rp 0 (mO (fV q.k) (q.ws.take 60) fa fb q.delay)
 rw_:Dv w' r en l
 old:∀k,k<w.heap.size->own k=9
 o:own b=9/\own r=9/\own en=9/\own l=9
 fa:fa.length<=40/\fb.length<=40/\(∀f∈fa,Word f.delay)/\∀f∈fb,Word f.delay
theorem U4 (S:X4) (q:Pl) (w:World) (z:UL w S q):
  Yk 8 #[.agg (Yi q)] w λa4 j=>(∃d9 b8 Y O X N b9 k2 k3,a4=.returned ((pT d9))/\BgAt w j d9 b8 Y O X N b9 q k2 k3)/\bW w j:=by
 obtain⟨b,R⟩:=eX (fV q.k);(have g6:lV b:=by rw[R];exact CS z.ku);obtain⟨i,c4,j3,j5⟩:=Bq (λs (a8:bW w s)=>z.below a8) g6 R z.delay;obtain⟨a3,P⟩:=eX (w.alloc (.cells (Yi q) 26));(have e6:bW w a3:=by rw[P];exact BEL);obtain⟨F,T⟩:=eX w.heap.size;(have b5:Blk a3 F 26 (Yi q):=by rw[P,T];exact Wx _ _ _);obtain⟨a0,c8,c7,m0⟩:=Bq e6 b5 P T;have e7:=λs (a8:bW w s)=>(by obtain⟨m6,l8⟩:=(z.below a8).k;have h:=JR S q.ka q.kc q.k s l8 z.ku;rw[<-R]at h;exact h:Yk 9 #[.slice q.ka q.k.length q.kc] s λa4 j=>a4=.returned (.agg (cfV b))/\bW s j);have j4:=zH e7;have j8:=b5.Wu 0;clear z g6 R e6 b5 e7 P;go_enter Tryz.func8,Tryz.ntmps8;go_upto_region 1 with fail;rw[<-c7.o,<-T];clear T c7;go_wp2_with fail;refine Yd (j4.o a3 a0.o) ?_;intro E a9;obtain⟨c1,c9⟩:=yx (a0.o.trans (a9.mono a0.o.size)) (c8.o.below a9 c8.o.lt);clear a9 j8;(repeat (go_not_at_region 2;first|(refine iG 32 (.tmp 3) (.tmp 10) rfl rfl rfl E.heap.size 0 (cfV b) kR kR ((Wx E 32 #[jI 0,uI 0,jI 0,uI 0,jI 0,uI 0,uI 0,uI 0,uI 0,jI 0,uI 0,uI 0,uI 0,uI 0,uI 0,jI 0,uI 0]).there _ sM) kR XF ?_;intro k a7;have i2:Blk k E.heap.size 32 (cfV b):=(by rw[a7];exact Blk.gF (Wx E 32 _) [jI b.bits,uI b.one,jI b.ring,uI b.dO,jI b.room,uI b.mss,uI b.jD,uI b.bn,uI b.most,jI b.pX,uI b.first,uI b.jc,uI b.cap,uI b.gD,uI b.WL,jI b.bE,uI b.every] rfl);have d0:=zH i2;have c2:=zH (show bW E k by rw[a7];exact Below.bZ (av _) _ _ _ BEL);clear a7 i2)|go_values|go_skip|go_guarded|go_step|go_upon|go_back|go_simp));obtain⟨t,Q⟩:=eX E.heap.size;rw[<-Q]at d0;rw[<-Q];have d1:=d0;obtain⟨c5,c3,m1⟩:=Av (c9.o.below c2.o c9.o.lt) (c1.o.trans (c2.o.mono c1.o.size)) Q;clear Q;have m4:0<=q.delay/\q.delay<65536:=j5.o;have m5:IntKind.u64.wrap q.delay=q.delay:=Wz _ ⟨oM,oM⟩;have u:bW k k.drew:=bA (aj _ _);have e:Blk k.drew t 32 (cfV b)/\Blk k.drew F 26 (Yi q):=⟨d1.o.below u d1.o.lt,c5.o.below u c5.o.lt⟩;have n:bW w k.drew:=c3.o.trans (u.mono c3.o.size);refine aZ (S:=λj=>Blk j t 32 (cfV b)/\Blk j F 26 (Yi q)) kR e (λa6=>?_);clear a6;refine iL (v:=.agg (cfV b)) 0 (some 12) rfl kR kR kR kR (λ_ _ _ h=>h) (lH 32 (.tmp 3) rfl rfl t kR (cfV b) (λw c=>c.1) _ Tryz.underlying32 kR kR) e ?_;refine Yf 1 13 e ?_;refine X6 2 14 e ?_ (y:=by intro w c;have r:=c.2.Wu 1;exact gS);refine tK 4 16 e ?_;refine X6 5 17 e ?_ (y:=by intro w c;have r:=c.2.Wu 2;exact gS);refine tK 7 19 e ?_;refine X6 8 20 e ?_ (y:=by intro w c;have r:=c.2.Wu 3;exact gS);refine tK 10 22 e ?_;refine X6 11 23 e ?_ (y:=by intro w c;have r:=c.2.Wu 4;exact gS);refine tK 12 24 e ?_;refine nrm 19 7607 ?_;refine aI 3 kR ?_;obtain⟨n1,h2⟩:=(i.o _ n).ws;refine opC 15 16 #[.slice q.wa q.ws.length q.wc,jI 60] ((MZ S q.wa q.wc q.ws _ h2 (i.o _ n).wl).mono ?_);rintro j9 l9 ⟨⟨d3,G,h4⟩,rfl⟩;refine⟨_,G,e,?_⟩;refine mP ?_;obtain⟨m7,g8⟩:=(i.o _ n).ah;refine aI 6 kR ?_;refine opC 18 31 #[.slice q.aa q.ah.length q.ac] ((XJ S q.aa q.ac q.ah _ g8 (i.o _ n).au).mono ?_);rintro k0 i6 ⟨⟨n3,H,f2⟩,a⟩;obtain⟨d5,e0,b6,rfl,g0,f8,e8⟩:=f2.ex;have A:=And.intro (e.1.below a e.1.lt) (e.2.below a e.2.lt);have K:bW w i6:=n.trans (a.mono n.size);have b1:bW k i6:=u.trans (a.mono u.size);have h6:=aD h4 a;refine⟨_,H,A,?_⟩;refine mP ?_;obtain⟨m9,h0⟩:=(i.o _ K).bk;refine aI 9 kR ?_;refine opC 21 31 #[.slice q.ba q.bk.length q.bc] ((XJ S q.ba q.bc q.bk _ h0 (i.o _ K).bu).mono ?_);rintro k1 i8 ⟨⟨n5,I,f4⟩,a⟩;obtain⟨d7,e2,b7,rfl,g4,f9,e9⟩:=f4.ex;have C:=And.intro (A.1.below a A.1.lt) (A.2.below a A.2.lt);have V:bW w i8:=K.trans (a.mono K.size);have k7:bW k i8:=b1.trans (a.mono b1.size);have h8:=aD h6 a;have g2:=g0.below a;refine⟨_,I,C,?_⟩;refine mP ?_;(have i0:(q.ws.take 60).length<=1000000:=by rw[aT];omega);refine aI 13 kR ?_;refine opC 25 30 #[.agg (cfV b),.slice d3 (q.ws.take 60).length q.wc,.slice d5 b6.length e0,.slice d7 b7.length e2,uI q.delay] ((OT b S _ _ d3 q.wc (q.ws.take 60) d5 e0 b6 d7 e2 b7 q.delay _ c4.o h8 i0 g2.row oM g4.row oM).mono ?_);rintro m2 g ⟨b8,b9,N,f0,e5,e4,a⟩;have l:=And.intro (C.1.below a C.1.lt) (C.2.below a C.2.lt);have f6:bW w g:=V.trans (a.mono V.size)
 refine⟨_,f0,l,?_⟩;refine Yf 14 11 l ?_;refine tK 15 26 l ?_;refine tK 16 27 l ?_;refine nrm 19 131071 ?_;refine tK 17 4 l ?_;refine tK 18 5 l ?_;refine nrm 19 524287 ?_;refine bg kR ?_ _;have l7:=V.size;obtain⟨d2,c6,a1,c0,j1,j0⟩:=Fy l.1 l.2 f6 e5 (λd (m:d<w.heap.size)=>e4 d oM) (And.intro f8 (And.intro f9 (And.intro e8 e9)));clear l f6 e5 e4 a b1 k7 e n A K C V h4 h6 h8 g0 g2 g4 f2 f4 g8 h0 h2 u f0 G H I i0 l7 f8 f9 e8 e9;go_upto_region 3 with fail;have x:bW g g.drew:=bA (aj _ _);have f:Blk g.drew t 32 (cfV b)/\Blk g.drew F 26 (Yi q):=⟨d2.o.below x d2.o.lt,c6.o.below x c6.o.lt⟩;have o:bW w g.drew:=a1.o.trans (x.mono a1.o.size);refine aZ (S:=λj=>Blk j t 32 (cfV b)/\Blk j F 26 (Yi q)) kR f (λa6=>?_);clear a6;refine iL (v:=.agg (cfV b)) 0 (some 29) rfl kR kR kR kR (λ_ _ _ h=>h) (lH 32 (.tmp 3) rfl rfl t kR (cfV b) (λw c=>c.1) _ Tryz.underlying32 kR kR) f ?_;refine Yf 1 30 f ?_;refine X6 2 31 f ?_ (y:=by intro w c;have r:=c.2.Wu 1;exact gS);refine tK 4 33 f ?_;refine X6 5 34 f ?_ (y:=by intro w c;have r:=c.2.Wu 2;exact gS);refine tK 7 36 f ?_;refine X6 8 37 f ?_ (y:=by intro w c;have r:=c.2.Wu 3;exact gS);refine tK 10 39 f ?_;refine X6 11 40 f ?_ (y:=by intro w c;have r:=c.2.Wu 4;exact gS);refine tK 12 41 f ?_;refine nrm 19 7607 ?_;refine aI 3 kR ?_;obtain⟨n2,h3⟩:=(i.o _ o).ws;refine opC 32 16 #[.slice q.wa q.ws.length q.wc,jI 60] ((MZ S q.wa q.wc q.ws _ h3 (i.o _ o).wl).mono ?_);rintro j9 l9 ⟨⟨d4,G,h5⟩,rfl⟩;refine⟨_,G,f,?_⟩;refine mP ?_;obtain⟨m8,g9⟩:=(i.o _ o).ah;refine aI 6 kR ?_;refine opC 35 31 #[.slice q.aa q.ah.length q.ac] ((XJ S q.aa q.ac q.ah _ g9 (i.o _ o).au).mono ?_);rintro k0 i7 ⟨⟨n4,H,f3⟩,a⟩;obtain⟨d6,e1,i3,rfl,g1,k9,k4⟩:=f3.ex;have B:=And.intro (f.1.below a f.1.lt) (f.2.below a f.2.lt);have L:bW w i7:=o.trans (a.mono o.size);have b2:bW g i7:=x.trans (a.mono x.size);have h7:=aD h5 a;refine⟨_,H,B,?_⟩;refine mP ?_;obtain⟨n0,h1⟩:=(i.o _ L).bk;refine aI 9 kR ?_;refine opC 38 31 #[.slice q.ba q.bk.length q.bc] ((XJ S q.ba q.bc q.bk _ h1 (i.o _ L).bu).mono ?_);rintro k1 i9 ⟨⟨n6,I,f5⟩,a⟩;obtain⟨d8,e3,i4,rfl,g5,l0,k5⟩:=f5.ex;have D:=And.intro (B.1.below a B.1.lt) (B.2.below a B.2.lt);have b4:bW w i9:=L.trans (a.mono L.size);have U:bW g i9:=b2.trans (a.mono b2.size);have h9:=aD h7 a;have g3:=g1.below a;refine⟨_,I,D,?_⟩;refine mP ?_;(have i1:(q.ws.take 60).length<=1000000:=by rw[aT];omega);refine aI 13 kR ?_;refine opC 42 32 #[.agg (cfV b),.slice d4 (q.ws.take 60).length q.wc,.slice d6 i3.length e1,.slice d8 i4.length e3,uI q.delay] ((Ub b c4.o S _ _ d4 q.wc (q.ws.take 60) d6 d8 e1 e3 i3 i4 q.delay _ h9 i1 g3.row g5.row oM oM).mono ?_);rintro m3 Z ⟨⟨Y,O,X,f1,g7,l5,k6,k8⟩,a⟩;have b0:bW g Z:=U.trans (a.mono U.size);have b3:=U.size;have p:=And.intro (D.1.below a D.1.lt) (D.2.below a D.2.lt);have f7:bW w Z:=b4.trans (a.mono b4.size);refine⟨_,f1,p,?_⟩;refine Yf 14 28 p ?_;refine tK 15 43 p ?_;refine tK 16 44 p ?_;refine nrm 19 131071 ?_;refine tK 17 6 p ?_;refine tK 18 7 p ?_;refine nrm 19 524287 ?_;refine bg kR ?_ _;obtain⟨j2,j7,a2⟩:=Av (c0.o.below b0) g7 f7;have M:∀d,g.heap.size<=d->ext g N 9 d=9:=λd m=>uG m;(have W:∀d,d<w.heap.size->ext g N 9 d=9:=λd m=>by rw[nE (aC m a1.o.size)];exact j1.o d m);have j6:=zH (And.intro W (And.intro (M Y (ay b3 l5)) (And.intro (M O (ay b3 k6)) (And.intro (M X (ay b3 k8)) (M Z.heap.size b0.size)))));clear M W b0 f7 p g7 a f o B L D b4 b2 U h5 h7 h9 g1 g3 g5 f3 f5 g9 h1 h3 x f1 G H I i1 k9 l0 k4 k5 c0;go_wp2;go_ret;obtain⟨W,l4,l2,l3,l1⟩:=j6.o;have l6:=a2.o.size;(have J:∀(i5:World) (a5:Nat->Nat) d,a5 d=9->ext i5 a5 9 d=9:=λi5 a5 d h=>by unfold ext;split<;>first|exact h|rfl);refine⟨⟨_,b8,Y,O,X,ext Z (ext g N 9) 9,b9,b6,b7,rfl,⟨l6,Wx _ _ _,?_,j7.o.below (Below.alloc (aj _ _) (av _) _),λd m=>J _ _ d (W d m),⟨J _ _ _ l1,J _ _ _ l4,J _ _ _ l2,J _ _ _ l3⟩,j0.o⟩⟩,a2.o.alloc a2.o.size _⟩;rw[<-j3.o];exact j2.o.below (Below.alloc (aj _ _) (av _) _)
theorem Ry.out_ {w v y:World} {S:X4} {i:Bool} {kind n:Int} {a:X5} {b:List Int} (h:Ry v y (λe=>S e/\e<w.heap.size) i kind n a c b) (q:w.heap.size<=v.heap.size) (hy:v.heap.size<=y.heap.size) {g:Nat} (m:w.heap.size<=g) (p:g<v.heap.size) (f:List Value) (o:Nat):Ry w (y.setCells g o f) S i kind n a c b:=by
 have k:(y.setCells g o f).heap.size=y.heap.size:=sM;refine⟨h.hk,h.hh,h.hn,⟨?_,h.fr.cap,h.fr.by_,h.fr.len⟩,λd=>?_⟩
 .obtain⟨l,j⟩:=h.fr.ex
  refine⟨l,aF (Row.lt_ (Row.setD (g:=g) j (λe d=>by rcases d with d|d;have:=d.2;omega;have:=d.1;omega) f o)) (λe d=>?_)⟩;rcases d.1 with h|h
  .exact .inl h.1
  .exact .inr ⟨oM,d.2⟩
 .exact aF (Row.setD (g:=g) (h.five d) (λe d=>by have:=d.1;omega) f o) (λe d=>⟨by have:=d.1;omega,by rw[k];exact d.2⟩)
theorem U7 (S:X4) (m:Mv) (b p r a7 l:Nat) (w:World) (N:T9 w S m) (hb:w.cell? ⟨b,1,none⟩=some ((pT r))) (b2:Dv w r a7 l):
  Yk 13 #[pT b,.agg (mvV m).toArray] w λc1 K=>(∃d b5 a4 a6 a5,c1=.returned (.agg #[jI d,uI b5,.slice a4 a5.length a6])/\Ry w K S true d b5 a4 a6 a5)/\bW w K:=by
 have b3:=N.zD.lt_;obtain⟨b9,c4,Q⟩:=Av (show T9 w (λb4=>S b4/\b4<w.heap.size) m from⟨N.kind,N.n,b3⟩) hb b2;obtain⟨A,L⟩:=eX ((w.alloc (.cells (mvV m).toArray 55)).alloc (.cells #[jI 0,uI 0,zzN] 49));obtain⟨P,I⟩:=sG w (mvV m).toArray 55 #[jI 0,uI 0,zzN] 49;rw[<-L]at P I;(have U:bW w A:=by rw[L];exact BEL);obtain⟨B,V⟩:=eX w.heap.size;obtain⟨e,W⟩:=eX (B+1);rw[<-V]at P I;rw[<-W]at I;obtain⟨a2,a3,f,a1⟩:=Bq P I U L;have X:=dY w _ hb;obtain⟨b6,J⟩:=yx ((U.cell (p:=⟨b,1,none⟩) X).trans hb) (show w.heap.size<=e/\e<A.heap.size/\b<e/\B<e from⟨oM,I.lt,by dsimp only at X;omega,oM⟩);clear b2 hb L U N b3 P I X;obtain⟨d,q,o,s,u,t,g,j,k,n,z,right,x⟩:=m;dsimp only[mvV,shV]at*
 go_enter Tryz.func13,Tryz.ntmps13;go_upto_region 1 with fail;rw[<-a1.o,<-V,<-W];clear V W a1;have a:bW A A.drew:=bA (aj _ _);have c:Blk A.drew B 55 #[.int .u8 d,.int .u32 q,jI o,.slice s t.length u,.int .u16 g,.int .u16 j,.int .u16 k,.int .u16 n,uI z,bV right,.int .u16 x]/\A.drew.cell? ⟨b,1,none⟩=some ((pT r)):=⟨a2.o.below a a2.o.lt,b6.o⟩;refine aZ (S:=λK=>Blk K B 55 #[.int .u8 d,.int .u32 q,jI o,.slice s t.length u,.int .u16 g,.int .u16 j,.int .u16 k,.int .u16 n,uI z,bV right,.int .u16 x]/\K.cell? ⟨b,1,none⟩=some ((pT r))) kR c (λc2=>?_);clear c2;refine iL (v:=.agg #[.int .u8 d,.int .u32 q,jI o,.slice s t.length u,.int .u16 g,.int .u16 j,.int .u16 k,.int .u16 n,uI z,bV right,.int .u16 x]) 0 (some 5) rfl kR kR kR kR (λ_ _ _ h=>h) (lH 55 (.tmp 3) rfl rfl B kR #[.int .u8 d,.int .u32 q,jI o,.slice s t.length u,.int .u16 g,.int .u16 j,.int .u16 k,.int .u16 n,uI z,bV right,.int .u16 x] (λw T=>T.1) _ Tryz.underlying55 kR kR) c ?_;refine Yf 1 6 c ?_;refine tK 2 7 c ?_;refine tK 3 8 c ?_;refine X6 4 9 c ?_ (y:=by intro w T;have c6:=T.2;exact gS);refine nrm 7 31 ?_;refine aI 5 kR ?_;refine opC 10 12 #[.agg (mvV ⟨d,q,⟨o,s,u,t,g,j,k,n,z,right,x⟩⟩).toArray,pT r,bV true] ((Oa true _ ⟨d,q,⟨o,s,u,t,g,j,k,n,z,right,x⟩⟩ r a7 l _ ((b9.o.below f.o).below a) ((Q.o.below f.o).below a).hr ((Q.o.below f.o).below a).he ((Q.o.below f.o).below a).ok).mono ?_);rintro c5 a0 ⟨⟨F,G,C,E,D,a8,a9⟩,H⟩;have O:Blk a0 B 55 #[.int .u8 d,.int .u32 q,jI o,.slice s t.length u,.int .u16 g,.int .u16 j,.int .u16 k,.int .u16 n,uI z,bV right,.int .u16 x]/\a0.cell? ⟨b,1,none⟩=some ((pT r)):=⟨c.1.below H c.1.lt,(H.cell (p:=⟨b,1,none⟩) (dY _ _ c.2)).trans c.2⟩;refine⟨_,a8,O,?_⟩;refine mP ?_;have Y:=a3.o.below (a.trans (H.mono a.size)) a3.o.lt;refine dJ (i:=6) 49 (.tmp 4) (.tmp 10) e 0 #[jI F,uI G,.slice C D.length E] rfl kR kR kR kR kR kR (Y.there _ sM) kR XF (?_) ?_
 .have c3:=Below.bZ (av e) [jI F,uI G,.slice C D.length E] 0 _ (aj e a0)
  exact⟨O.1.gy (by have:=J.o;omega) _ _ _,(c3.cell (p:=⟨b,1,none⟩) J.o.2.2.1).trans O.2⟩
 intro R M;have Z:=Blk.gF Y [jI F,uI G,.slice C D.length E] rfl;rw[<-show R=_ from M]at Z;(have b1:bW w R:=by rw[M];exact Below.bZ J.o.1 _ _ _ (f.o.trans ((a.trans (H.mono a.size)).mono f.o.size)));have b0:Ry w R S true F G C E D:=by
  rw[M];exact a9.out_ (ay f.o.size a.size) H.size J.o.1 (aC J.o.2.1 a.size) _ _
 obtain⟨b7,c0,b8⟩:=Av b0 Z b1;clear M Z b1 a9 b0 Y O c H a8;refine mP ?_;refine bg kR ?_ _;go_wp2;refine iZ 4 49 e #[jI F,uI G,.slice C D.length E] kR kR c0.o _ Tryz.underlying49 kR kR rfl ?_;exact⟨⟨F,G,C,E,D,rfl,b7.o⟩,b8.o⟩
def rwV (y:Rw):Array Value:=(zzRow y y.err)
structure Tp where
 (p r en l:Nat)
 rp:Wp
abbrev Bl:=List (Nat×TypeId×Array Value)
abbrev Bo:=List (Option Addr×List Int×Int)
structure Tq (w wr:World) (q:Tp) (n:Nat) (x:Wo) (bL:Bl) (bo:Bo):Prop where
 ex:∃own,iW wr own q.p q.rp x.eO.toNat x/\(∀k,k<w.heap.size->own k=9)/\own q.r=9/\own q.en=9/\own q.l=9/\(∀z∈bL,own z.1=9)/\∀z∈bo,∃tb,(z.2.2=1->tb=5)/\Byt tb wr (λk=>own k=9) z.1 z.2.1
 rw_:Dv wr q.r q.en q.l
 loc:∀z∈bL,Blk wr z.1 z.2.1 z.2.2
 lo:∀z∈bL,w.heap.size<=z.1
 wd:WdX n n 0 0 x
 bel:bW w wr
theorem Uo (m:Mv):(mvV m).length=11:=rfl
theorem UX {S:X4} {a:X5} {c:List Mv} (h:Row w S t 11 a c.length (c.flatMap mvV)) {i:Nat} (k:i<c.length):∃b d,a=some ⟨b,d,none⟩/\b<w.heap.size/\w.rangeAt b (d+i*11) (mvV c[i]):=by
 obtain⟨b,d,rfl,_,g,j⟩:=h.at_ oM;refine⟨b,d,rfl,g,λe m f=>?_⟩;(have l:e<11:=by have:=(List.getElem?_eq_some_iff.1 f).1;rwa [Uo]at this);have:=j (i*11+e) m ((mr Uo c i e k l).trans f)
 rwa [<-Nat.add_assoc]at this
theorem Ag {B b o:Nat} (h:w.rangeAt b o V) (hb:Below B w w') (c:b<B):w'.rangeAt b o V:=λa e d=>(hb.cell (p:=⟨b,o+a,none⟩) c).trans (h a e d)
theorem jd {a:Nat->Nat} (v:World) (h:a k=9):ext v a 9 k=9:=by unfold ext;split<;>first|exact h|rfl
section
variable {w wr W:World} {q:Tp} {n:Nat} {x:Wo} {bL bL':Bl} {bo:Bo}
theorem Tq.below (h:Tq w wr q n x bL bo) (hb:bW wr W):Tq w W q n x bL bo:=by
 obtain⟨p,g,i,j,k,l,m,o⟩:=h.ex;refine⟨⟨ext wr p 9,g.below hb,λd c=>jd _ (i d c),jd _ j,jd _ k,jd _ l,λb a=>jd _ (m b a),λb a=>?_⟩,h.rw_.below hb,λb a=>(h.loc b a).below hb (h.loc b a).lt,h.lo,h.wd,h.bel.trans (hb.mono h.bel.size)⟩;obtain⟨r,e,f⟩:=o b a;exact⟨r,e,aF (aD f hb) (λd c=>jd _ c)⟩
theorem Tq.sub (h:Tq w wr q n x bL bo) (c:∀a∈bL',a∈bL):Tq w wr q n x bL' bo:=by
 obtain⟨l,d,e,f,g,i,j,k⟩:=h.ex;exact⟨⟨l,d,e,f,g,i,λa b=>j a (c a b),k⟩,h.rw_,λa b=>h.loc a (c a b),λa b=>h.lo a (c a b),h.wd,h.bel⟩
theorem Tq.new {g:Nat} (h:Tq w wr q n x bL bo) (hb:bW wr W) (e:wr.heap.size<=g) (u:Blk W g t C):Tq w W q n x ((g,t,C)::bL) bo:=by
 obtain⟨v,k,l,m,o,p,r,s⟩:=h.ex;have c:=h.below hb;refine⟨⟨ext wr v 9,k.below hb,λf d=>jd _ (l f d),jd _ m,jd _ o,jd _ p,λb a=>?_,λb a=>?_⟩,c.rw_,λb a=>?_,λb a=>?_,h.wd,c.bel⟩
 .rcases bT.1 a with rfl|a
  .exact uG e
  .exact jd _ (r b a)
 .obtain⟨y,i,j⟩:=s b a
  exact⟨y,i,aF (aD j hb) (λf d=>jd _ d)⟩
 .rcases bT.1 a with rfl|a
  .exact u
  .exact c.loc b a
 .rcases bT.1 a with rfl|a
  .exact ay h.bel.size e
  .exact c.lo b a
theorem Tq.alloc (h:Tq w wr q n x bL bo) (a:Array Value) (t:TypeId):Tq w (wr.alloc (.cells a t)) q n x ((wr.heap.size,t,a)::bL) bo:=
 h.new ((aj _ _).alloc (av _) _) (av _) (Wx _ _ _)
theorem iW.keepN {d:Nat->Nat} {e:Wp} (h:iW wr d p e k x) (b:∀a,a<=4->∀g,bQ (Own wr d a) g wr W) (f:wr.heap.size<=W.heap.size):iW W d p e k x:=by
 have c:∀a k,Own wr d a k->Own W d a k:=λa k h=>⟨aC h.1 f,h.2⟩;exact⟨(h.l.keep (b 0 dC _)).mono (c 0),(h.e.keep (b 1 dC _)).mono (c 1),(h.pe.keep (ts:=uV) (b 2 dC _) (λ_ h=>h)).mono (c 2),(h.a.keep (ts:=[some 218,some 187,some 222,some 5]) (b 3 dC _) sM sM sM sM).mono (c 3),(h.b.keep (ts:=[some 218,some 187,some 222,some 5]) (b 4 dC _) sM sM sM sM).mono (c 4)⟩
theorem Tq.set {g:Nat} {p cs':Array Value} (h:Tq w wr q n x ((g,t,p)::bL) []) (A:∀c∈bL,c.1≠g) (K:q.r≠g) (H:q.en≠g) (J:q.l≠g) (z:Blk W g t cs') (a:W.heap.size=wr.heap.size) (hb:Below g wr W) (e:∀b,b≠g->W.heap[b]?=wr.heap[b]?):Tq w W q n x ((g,t,cs')::bL) []:=by
 obtain⟨f,r,s,u,v,y,j,F⟩:=h.ex;have k:f g=9:=j _ kT;have E:w.heap.size<=g:=h.lo _ kT;have m:Mod (λb=>b=g) [some t] wr W:=⟨hb.os,hb.tape,hb.output,oM,λb l=>by
  by_cases d:b=g
  .exact .inr ⟨d,by subst d;exact⟨_,h.loc _ kT,by simp[nH]⟩⟩
  .exact .inl (e b d)⟩
 have D:∀(i:Nat),i<=4->∀o,bQ (Own wr f i) o wr W:=λi I o=>m.iD (λb B C=>by
  (have G:f b=9:=by rw[C];exact k);have:=B.2;omega)
 refine⟨⟨f,r.keepN D oM,s,u,v,y,λc a=>?_,λc a=>by cases a⟩,?_,λc a=>?_,λc a=>?_,h.wd,h.bel.trans (m.cZ h.bel.size (λb e d=>by subst d;omega))⟩
 .rcases bT.1 a with rfl|a
  .exact k
  .exact j c (jQ _ a)
 .exact h.rw_.keep (λb l=>e b (by rcases l with rfl|rfl|rfl<;>assumption))
 .rcases bT.1 a with rfl|a
  .exact z
  .exact(e c.1 (A c a)).trans (h.loc c (jQ _ a))
 .rcases bT.1 a with rfl|a
  .exact E
  .exact h.lo c (jQ _ a)
theorem Tq.gF {g:Nat} {a cs':Array Value} (h:Tq w wr q n x ((g,t,a)::bL) []) (b:∀j∈bL,j.1≠g) (f:q.r≠g) (c:q.en≠g) (e:q.l≠g) (i:cs'.size=a.size):Tq w (wr.setCells g 0 cs'.toList) q n x ((g,t,cs')::bL) []:=
 h.set b f c e (by have:=Blk.gF (h.loc _ kT) cs'.toList (by simpa using i);simpa using this) sM (Below.bZ (av _) _ _ _ (aj _ _)) (λk d=>WW d _ _ _)
theorem Tq.ne (h:Tq w wr q n x bL bo) {g:Nat} (i:wr.heap.size<=g):(∀a∈bL,a.1≠g)/\q.r≠g/\q.en≠g/\q.l≠g:=by
 obtain⟨_,_,d,_⟩:=h.rw_.hx;have b:=dY wr _ h.rw_.hr;have c:=dY wr _ h.rw_.he;have f:=d.lt;dsimp only at b c;exact⟨λa e=>by have:=(h.loc a e).lt;omega,oM,oM,oM⟩
theorem Tq.box (h:Tq w wr q n x bL bo) (a cs':Array Value) (t:TypeId) (b:cs'.size=a.size):Tq w ((wr.alloc (.cells a t)).setCells wr.heap.size 0 cs'.toList) q n x ((wr.heap.size,t,cs')::bL) bo:=
 h.new (Below.bZ (av _) _ _ _ ((aj _ _).alloc (av _) _)) (av _) (by have:=Blk.gF (Wx wr t a) cs'.toList (by simpa using b);simpa using this)
structure EvF (hon:Bool) (kind en:Int) (c:Nat) (bs:List Int):Prop where
 hk:1<=kind/\kind<=6
 hh:hon=true->kind≠3
 hn:Word en
 cap:bs.length<=c
 by_:dP bs
 len:bs.length<=4000
theorem Tq.got {S:X4} {m:Bool} {kind i:Int} {a:X5} (h:Tq w wr q n x bL bo) (z:∀e,S e->e<w.heap.size) (d:Ry wr W S m kind i a c l) (hb:bW wr W):EvF m kind i c l/\Tq w W q n x bL [(a,l,kind)]:=by
 refine⟨⟨d.hk,d.hh,d.hn,d.fr.cap,d.fr.by_,d.fr.len⟩,?_⟩;obtain⟨A,s,k,t,u,v,y,C⟩:=h.ex;have f:=h.below hb;refine⟨⟨ext wr A 9,s.below hb,λe b=>jd _ (k e b),jd _ t,jd _ u,jd _ v,λo g=>jd _ (y o g),λo g=>?_⟩,f.rw_,f.loc,f.lo,f.wd,f.bel⟩;obtain rfl:=dZ.1 g;by_cases j:kind=1
 .exact⟨5,λ_=>rfl,aF (d.five j) (λe b=>uG b.1)⟩
 .obtain⟨B,r⟩:=d.fr.ex
  refine⟨B,λp=>Wy p j,aF r (λe b=>?_)⟩;rcases b with b|b
  .exact jd _ (k e (z e b))
  .exact uG b.1
theorem Tq.event {S:X4} (h:Tq w wr q n x bL bo) (p:∀k,S k->k<w.heap.size) (f:Bool) (m:Mv) (t:T9 w S m):
  Yk 12 #[.agg (mvV m).toArray,(pT q.r),bV f] wr λi g=>(∃b e c d a,i=.returned (.agg #[jI b,uI e,.slice c a.length d])/\EvF f b e d a/\Tq w g q n x bL [(c,a,b)])/\bW wr g:=by
 refine(Oa f S m q.r q.en q.l wr (t.below h.bel) h.rw_.hr h.rw_.he h.rw_.ok).mono ?_;rintro i g ⟨⟨b,e,c,d,a,r,s⟩,j⟩;obtain⟨l,o⟩:=h.got p s j;exact⟨⟨b,e,c,d,a,r,l,o⟩,j⟩
theorem Tq.ways {S:X4} (h:Tq w wr q n x bL bo) (o:∀j,S j->j<w.heap.size) (hb:(b,45,#[pT p,(pT q.r)])∈bL) (m:Mv) (t:T9 w S m):
  Yk 13 #[pT b,.agg (mvV m).toArray] wr λi g=>(∃c f d e a,i=.returned (.agg #[jI c,uI f,.slice d a.length e])/\EvF true c f e a/\Tq w g q n x bL [(d,a,c)])/\bW wr g:=by
 refine(U7 S m b p q.r q.en q.l wr (t.below h.bel) ((h.loc _ hb).cell 1) h.rw_).mono ?_;rintro i g ⟨⟨c,f,d,e,a,r,s⟩,hb⟩;obtain⟨k,l⟩:=h.got o s hb;exact⟨⟨c,f,d,e,a,r,k,l⟩,hb⟩
theorem Tq.did {e:Nat->Nat} (h:Tq w wr q n x bL bo) (y:iW wr e q.p q.rp x.eO.toNat x) (j:∀a,a<w.heap.size->e a=9) (p:e q.r=9) (r:e q.en=9) (s:e q.l=9) (k:∀c∈bL,e c.1=9) (i:dD e wr q.p q.rp D.eO.toNat D W) (t:WdX m m 0 0 D):Tq w W q m D bL []:=by
 obtain⟨v,f,o⟩:=i.ex;have b:∀a,a<wr.heap.size->e a=9->W.heap[a]?=wr.heap[a]?:=λa b A=>by
  rcases i.m.block a b with h|⟨h,-⟩
  .exact h
  .omega
 have g:∀a,(a=q.r\/a=q.en\/a=q.l)->a<wr.heap.size:=λa b=>by
  obtain⟨_,_,u,_⟩:=h.rw_.hx;rcases b with rfl|rfl|rfl
  .exact dY wr _ h.rw_.hr
  .exact dY wr _ h.rw_.he
  .exact u.lt
 refine⟨⟨v,o,λa b=>(f a (aC b h.bel.size)).trans (j a b),(f _ (g _ (.inl rfl))).trans p,(f _ (g _ (.inr (.inl rfl)))).trans r,(f _ (g _ (.inr (.inr rfl)))).trans s,λc d=>(f _ (h.loc c d).lt).trans (k c d),λc d=>by cases d⟩,h.rw_.keep (λa l=>b a (g a l) (by rcases l with rfl|rfl|rfl<;>assumption)),λc d=>(b _ (h.loc c d).lt (k c d)).trans (h.loc c d),h.lo,t,h.bel.trans (i.m.cZ h.bel.size (λa b z=>by have:=j a b;omega))⟩
theorem Tq.doIt {kind d:Int} {a:X5} {z:Bool} (h:Tq w wr q n x bL bo) (v:(a,l,kind)∈bo) (b:EvF z kind d c l) (y:n<=148):
  Yk 11 #[(pT q.p),.agg #[jI kind,uI d,.slice a l.length c]] wr λg j=>g=.returned (.agg (rwV (zz x ⟨kind,d,l⟩)))/\Tq w j q (n+1) (Bc x ⟨kind,d,l⟩) bL []:=by
 obtain⟨f,i,k,m,o,p,r,s⟩:=h.ex;obtain⟨D,B,C⟩:=s _ v;refine(LJ (tb:=D) f wr q.p n q.rp x kind d (λe=>f e=9) a c l i h.wd y b.hk b.hn (aF C (λe u=>by show 4<f e;rw[u];decide)) b.cap (ay b.len dC) b.by_ B (λ_=>ay b.len dC)).mono ?_;rintro g j ⟨t,A⟩;exact⟨t,h.did i k m o p r A (U6 h.wd ⟨b.by_,b.hn.1⟩ b.hk)⟩
theorem Tq.row (h:Tq w wr q n x bL bo) (a:n<=148):
  Yk 14 #[(pT q.p)] wr λb f=>b=.returned (.agg (rwV (woRow x)))/\bW wr f:=by
 obtain⟨e,c,g⟩:=h.ex;have i:=h.wd.small (ay a dC) (ay a dC);(have d:x.eO.toNat<=100000:=by have:=h.wd.ahi;have:=h.wd.ahc;omega);exact GV e wr wr q.p x.eO.toNat x.eO.toNat _ q.rp x (dD.refl c) h.wd.en h.wd.pe d oM oM
theorem Tq.start {b p i j l:Nat} {r:Nat->Nat} {s:Wp} {d:Pl} {k m:List Fa} {S:X4} (h:BgAt w' wr b p i j l r s d k m) (f:bW w w') (hb:bW w' wr) (g:UL w S d) (e:∀c∈bL,w.heap.size<=c.1/\Blk w' c.1 c.2.1 c.2.2):
  Tq w wr ⟨p,i,j,l,s⟩ 0 (mO (fV d.k) (d.ws.take 60) k m d.delay) ((b,45,#[pT p,pT i])::bL) []:=by
 refine⟨⟨r,h.wo,λv t=>h.old v (aC t f.size),h.o.2.1,h.o.2.2.1,h.o.2.2.2,λc a=>?_,λc a=>by cases a⟩,h.rw_,λc a=>?_,λc a=>?_,?_,f.trans (hb.mono f.size)⟩
 .rcases bT.1 a with rfl|a
  .exact h.o.1
  .exact h.old _ (e c a).2.lt
 .rcases bT.1 a with rfl|a
  .exact h.blk
  .exact(e c a).2.below hb (e c a).2.lt
 .rcases bT.1 a with rfl|a
  .exact ay f.size h.bb
  .exact(e c a).1
 .have o:=g.delay
  exact OU (CS g.ku) (λy u=>g.wu y (bf u)) (by rw[aT];omega) (by have:=h.fa.1;omega) (by have:=h.fa.2.1;omega) h.fa.2.2.1 h.fa.2.2.2 ⟨o.1,by have:=o.2;omega⟩
end
structure Sq where
 (kind wait n:Int)
 zD:Sh
structure SqOk (w:World) (S:X4) (s:Sq):Prop where
 kind:0<=s.kind/\s.kind<256
 wait:0<=s.wait/\s.wait<4294967296
 n:U16 s.n
 zD:zW w S s.zD
theorem SqOk.below {S:X4} {s:Sq} (h:SqOk w S s) (hb:bW w w'):SqOk w' S s:=⟨h.kind,h.wait,h.n,h.zD.below hb⟩
structure Lq (W0 w:World) (F:X4) (p k:Nat) (c:Cf) (e:En):Prop where
 eg:Eg W0 w F p e
 ok:dG k e
 cf:e.c=c
section
variable {W0 w w':World} {F S:X4} {p k:Nat} {c:Cf} {e:En}
theorem Lq.below (h:Lq W0 w F p k c e) (hb:bW w w'):Lq W0 w' F p k c e:=⟨h.eg.below hb,h.ok,h.cf⟩
theorem Lq.mono {k':Nat} (h:Lq W0 w F p k c e) (a:k<=k'):Lq W0 w F p k' c e:=⟨h.eg,h.ok.mono a,h.cf⟩
theorem Lq.write (h:Lq W0 w F p k c e) {d:X5} (hb:Bys w S d l) (j:l.length<=b) (m:l.length<=1000000000) (n:dP l):
  Yk 17 #[pT p,.slice d l.length b] w λf w'=>(∃q,f=.returned q)/\∃a,Lq W0 w' a p k c (fU e l).en/\(fU e l).en.now=e.now/\Stp w w' F a:=by
 refine(h.eg.write h.ok hb j m).mono ?_;rintro f w' ⟨o,a,g,i⟩;refine⟨⟨_,o⟩,a,⟨g,CE h.ok n,?_⟩,?_,i⟩
 .rw[<-h.cf];unfold fU;(repeat' split)<;>rfl
 .unfold fU;(repeat' split)<;>rfl
theorem Lq.next (h:Lq W0 w F p k c e) (l:k<=70000000) {now:Int} (b:Word now):
  Yk 19 #[pT p,uI now] w λd w'=>(∃n,d=.returned n)/\∃a,Lq W0 w' a p (k+200) c (WK 200 e now).en/\(WK 200 e now).en.now=max e.now now/\Stp w w' F a:=by
 refine(Qf W0 k F p e now w h.eg h.ok l b).mono ?_;rintro d w' ⟨o,q,a,m,i,j,r⟩;obtain⟨f,g⟩:=IP 199 e now;exact⟨⟨_,m⟩,a,⟨i,Xi 200 k e now h.ok b,f.trans h.cf⟩,g,j⟩
theorem Lq.tick (h:Lq W0 w F p k c e) {now:Int} (b:Word now):
  Yk 23 #[pT p,uI now] w λd w'=>d=.returned (.tuple #[])/\∃a,Lq W0 w' a p k c (kr e now)/\(kr e now).now=max e.now now/\Stp w w' F a:=by
 refine(h.eg.tick h.ok b).mono ?_;rintro d w' ⟨l,a,i,j⟩;obtain⟨f,g⟩:=OV e now;exact⟨l,a,⟨i,EV h.ok b,f.trans h.cf⟩,g,j⟩
theorem Lq.on (h:Lq W0 w F p k c e) (r:k<=90000000) {now:Int} (g:Word now) {tb:TypeId} {a:X5} {b:List Int} (hb:Byt tb w S a b) (q:b.length<=100000) (f:dP b) (t:tb≠154\/¬S p):
  Yk 20 #[pT p,.slice a b.length n,uI now] w λi w'=>i=.returned (.agg #[jI (lU e b now).ver.kind,jI (lU e b now).ver.why,uI (lU e b now).ver.pn,bV (lU e b now).ver.dU])/\∃d,Lq W0 w' d p (k+1) c (lU e b now).en/\(lU e b now).en.now=max e.now now/\Stp w w' F d:=by
 refine(h.eg.on h.ok r g hb q f t).mono ?_;rintro i w' ⟨s,d,m,o⟩;obtain⟨j,l⟩:=VQ e b now;exact⟨s,d,⟨m,Mo h.ok f g,j.trans h.cf⟩,l,o⟩
theorem Lq.aS (h:Lq W0 w F p k c e):Yk 24 #[pT p] w λa w'=>a=.returned (.agg (stV (cK e)))/\bW w w':=h.eg.aS h.ok
theorem Lq.ledger (h:Lq W0 w F p k c e):
 Yk 22 #[pT p,.agg (cfV c)] w λb w'=>∃a,b=.returned (.agg #[.pointer none,pT a])/\Ka w' a/\bW w w':=Gq W0 k F p e c w h.eg h.ok
theorem Lq.new {tw:TypeId} {f:X4} {a:X5} {words:List Int} (i:lV c) (o:Wot tw w f a words) (q:rG words) (j:words.length<=1000000):
  Yk 15 #[.agg (cfV c),.slice a words.length b] w λl w'=>∃p,l=.returned (.tuple #[pT p,jI 0])/\Lq w w' (λk=>w.heap.size<=k/\k<w'.heap.size) p 0 c (nK c words)/\bW w w':=by
 refine(JH f a b words c w i o j).mono ?_;rintro l w' ⟨p,n,m,g⟩;exact⟨p,n,⟨⟨m,λk d=>d.2,λk d=>d.1,g⟩,JI i q j,rfl⟩,g⟩
end
section
variable {H:Type} {enc:TypeId×Value->H} {w:World} {base:Nat} {spare:Nat->Bool} {held:Bool}
def Dec (enc:TypeId×Value->H) (w:World) (base:Nat) (spare:Nat->Bool) (held:Bool) {c:Type} (t:TypeId) (f:c->List Value) (d:c->Prop):Prop:=
 ∀e b g,DataW.trod enc prog w base spare held e t b=some g->∃a,b=f a/\d a
theorem nG {k:IntKind} (b:prog.underlying t=some (.int k)):Dec enc w base spare held t (λa=>[Value.int k a]) (λa=>(Lit.int k a).wf=true):=by
 intro f e g h;obtain⟨d,rfl,_,c⟩:=DataW.trod_int b h;exact⟨d,rfl,c⟩
theorem PD {z:Type} {f:z->List Value} (j:∀J,(f J).length=m) (o:0<m) (a:Addr) (xs:List z) (h:∀d (e:d<xs.length),w.cells? base (a.add (d*m)) m=some (f xs[d])):
  ∃q,Row w (λI=>I<w.heap.size) q m (some a) xs.length (xs.flatMap f):=by
 have t:∀d i (e:d<xs.length),i<m->w.cell? (a.add (d*m+i))=(f xs[d])[i]?:=by
  intro d i e k;have:=(World.cells?_some (h d e)).2.2 i k
  rwa [Go.Deep.add_add]at this
 by_cases C:xs.length=0
 .have:xs=[]:=by cases xs;rfl;simp at C
  subst this;exact⟨0,Row.WH⟩
 .have c:=t 0 0 oM o
  rw[Nat.zero_mul,Nat.zero_add,show a.add 0=a from rfl]at c;(have r:0<(f (xs[0]'oM)).length:=by rw[j];exact o);rw[aL r]at c;generalize(f (xs[0]'oM))[0]'r=L at c;obtain⟨l,p,y⟩:=a;unfold World.cell? at c;simp only at c;split at c
  .rename_i A q B n
   split at c
   .cases c
   .rename_i G
    (have F:y=none:=by cases y;rfl;simp at G);subst F;refine⟨q,sZ j xs,λ_=>⟨l,p,A,B,rfl,WT n,n,λb K u=>?_⟩⟩;have v:=(List.getElem?_eq_some_iff.1 u).1;rw[sZ j]at v;have e:b/m<xs.length:=Nat.div_lt_of_lt_mul (by rw[Nat.mul_comm];exact v);have k:b%m<m:=Nat.mod_lt _ o;(have x:b/m*m+b%m=b:=by rw[Nat.mul_comm];exact Nat.div_add_mod b m);have s:=mr j xs (b/m) (b%m) e k;rw[x,u]at s;have g:=t (b/m) (b%m) e k;rw[x,<-s]at g;have D:(⟨l,p,none⟩:Addr).add b=⟨l,p+b,none⟩:=by
     unfold Addr.add;split
     .rename_i E;rw[E];rfl
     .rfl
    rw[D]at g;unfold World.cell? at g;simp only[n]at g;simpa using g
  .cases c
theorem tL {j:Type} [Inhabited j] {f:j->List Value} {l:j->Prop} (C:∀x,(f x).length=m) (E:0<m) (G:prog.underlying t=some (.slice e)) (A:prog.cellsOf e=m) (B:Dec enc w base spare held e f l) {x:DataW H×List MemPlace}
  (h:DataW.trod enc prog w base spare held n t V=some x):
  ∃c q,∃i:List j,V=[.slice c i.length q]/\i.length<=q/\(∀a∈i,l a)/\∃K,Row w (λI=>I<w.heap.size) K m c i.length (i.flatMap f):=by
 rcases open_slice G h with⟨rfl,_⟩|⟨c,g,v,J,P,L,M,rfl,_,D,_,F,_,u⟩
 .exact⟨none,0,[],rfl,av _,λa d=>(by cases d),0,Row.WH⟩
 .have O:g<=J:=by rw[F];split<;>omega
  rw[A]at u;obtain⟨o,r⟩:=choose_lt (α:=j) (n:=g) (p:=λb a=>w.cells? base (c.add (b*m)) m=some (f a)/\l a) (λb k=>by
   obtain⟨N,y,z⟩:=u b oM;obtain⟨a,rfl,d⟩:=B _ _ _ z;exact⟨a,y,d⟩)
  have s:((List.range g).map o).length=g:=sM;refine⟨some c,v,(List.range g).map o,by rw[s],by rw[s];exact D,λa d=>?_,?_⟩
  .obtain⟨b,k,rfl⟩:=List.mem_map.1 d
   exact(r b (List.mem_range.1 k)).2
  .refine PD (base:=base) C E c _ (λb k=>?_)
   have:=(r b (by simpa using k)).1;simpa using this
theorem qj {a:Array Field} {x:DataW H×List MemPlace} (j:prog.underlying t=some (.struct a)) (h:DataW.trod enc prog w base spare held n t V=some x) (i:Nat) (f:Field) (b:a[i]?=some f) (u:TypeId) (o m:Nat) (k:f.type=u) (g:f.offset=o) (e:prog.cellsOf u=m):
  ∃n r,DataW.trod enc prog w base spare held n u ((V.drop o).take m)=some r:=by
 obtain⟨q,p,_,_,_,d,l⟩:=DataW.trod_struct j h;have:=l i f b;subst k g e;(have c:i<q.length:=by rw[d];exact(Array.getElem?_eq_some_iff.1 b).1);rw[aL c]at this;exact⟨p,_,this⟩
theorem wf_u32 (h:(Lit.int .u32 z).wf=true):0<=z/\z<4294967296:=by
 simp[Lit.wf,IntKind.min,IntKind.max,IntKind.signed,IntKind.bits]at h;omega
theorem wf_u16 (h:(Lit.int .u16 z).wf=true):0<=z/\z<65536:=by
 simp[Lit.wf,IntKind.min,IntKind.max,IntKind.signed,IntKind.bits]at h;omega
theorem wf_u8 (h:(Lit.int .u8 z).wf=true):0<=z/\z<256:=by
 simp[Lit.wf,IntKind.min,IntKind.max,IntKind.signed,IntKind.bits]at h;omega
theorem wf_u64 (h:(Lit.int .u64 z).wf=true):0<=z/\z<18446744073709551616:=by
 simp[Lit.wf,IntKind.min,IntKind.max,IntKind.signed,IntKind.bits]at h;omega
theorem wf_i64 (h:(Lit.int .i64 z).wf=true): -9223372036854775808<=z/\z<9223372036854775808:=by
 simp[Lit.wf,IntKind.min,IntKind.max,IntKind.signed,IntKind.bits]at h;omega
theorem UC {x:DataW H×List MemPlace} (h:DataW.trod enc prog w base spare held n 22 V=some x):
  ∃b c,∃a:List Int,V=[.slice b a.length c]/\a.length<=c/\U32 a/\∃l,Row w (λa=>a<w.heap.size) l 1 b a.length (a.flatMap u3V):=by
 obtain⟨b,c,m,d,e,g,i⟩:=tL (f:=u3V) (λ_=>rfl) dC Tryz.underlying22 kR (nG (k:=.u32) (t:=50) kR) h;exact⟨b,c,m,d,e,λo j=>wf_u32 (g o j),i⟩
theorem sl_u64 {x:DataW H×List MemPlace} (h:DataW.trod enc prog w base spare held n 23 V=some x):
  ∃b c,∃a:List Int,V=[.slice b a.length c]/\a.length<=c/\rG a/\∃l,Wot l w (λa=>a<w.heap.size) b a:=by
 obtain⟨b,c,m,d,e,g,i⟩:=tL (f:=woV) (λ_=>rfl) dC Tryz.underlying23 kR (nG (k:=.u64) (t:=30) kR) h;exact⟨b,c,m,d,e,λo j=>wf_u64 (g o j),i⟩
theorem sl_by {x:DataW H×List MemPlace} (h:DataW.trod enc prog w base spare held n 47 V=some x):
  ∃b c,∃a:List Int,V=[.slice b a.length c]/\a.length<=c/\dP a/\∃l,Byt l w (λa=>a<w.heap.size) b a:=by
 obtain⟨b,c,m,d,e,g,i⟩:=tL (f:=byV) (λ_=>rfl) dC Tryz.underlying47 kR (nG (k:=.u8) (t:=5) kR) h;exact⟨b,c,m,d,e,λo j=>wf_u8 (g o j),i⟩
instance:Inhabited Sh:=⟨⟨0,none,0,[],0,0,0,0,0,false,0⟩⟩
instance:Inhabited Mv:=⟨⟨0,0,default⟩⟩
instance:Inhabited Sq:=⟨⟨0,0,0,default⟩⟩
theorem list9 {l:List Value} (h:l.length=9):∃a b c d e f g i j,l=[a,b,c,d,e,f,g,i,j]:=by
 match l,h with
 |[a,b,c,d,e,f,g,i,j],_=>exact⟨a,b,c,d,e,f,g,i,j,rfl⟩
theorem JL:Dec enc w base spare held 53 shV (zW w (λl=>l<w.heap.size)):=by
 intro b0 t b7 h;(have E:t.length=9:=by obtain⟨U,l,_,_,B,_⟩:=DataW.trod_struct Tryz.underlying53 h;rw[B];kernel_rfl);obtain⟨Z,a0,a1,a2,a3,a4,a5,a7,a8,rfl⟩:=list9 E;obtain⟨b1,b8,u⟩:=qj Tryz.underlying53 h 0 _ rfl 3 0 1 rfl rfl kR;obtain⟨b2,b9,v⟩:=qj Tryz.underlying53 h 1 _ rfl 47 1 1 rfl rfl kR;obtain⟨b3,c0,x⟩:=qj Tryz.underlying53 h 2 _ rfl 51 2 4 rfl rfl kR;obtain⟨b4,c1,y⟩:=qj Tryz.underlying53 h 3 _ rfl 30 6 1 rfl rfl kR;obtain⟨b5,c2,z⟩:=qj Tryz.underlying53 h 4 _ rfl 4 7 1 rfl rfl kR;obtain⟨b6,c3,A⟩:=qj Tryz.underlying53 h 5 _ rfl 24 8 1 rfl rfl kR;obtain⟨V,b,R⟩:=nG Tryz.underlying3 _ _ _ u;obtain⟨q,s,r,c,D,C,M,F⟩:=sl_by v;obtain⟨W,d,S⟩:=nG Tryz.underlying30 _ _ _ y;obtain⟨X,e,_⟩:=DataW.trod_bool Tryz.underlying4 z;obtain⟨Y,f,T⟩:=nG Tryz.underlying24 _ _ _ A;obtain⟨U,a9,_,_,_,a6,a⟩:=DataW.trod_array Tryz.underlying51 x;(have G:prog.cellsOf 24=1:=by kernel_rfl);rw[G]at a;have m:=a 0 dC;have n:=a 1 dC;have o:=a 2 dC;have p:=a 3 dC;rw[aL oM]at m n o p;obtain⟨I,g,N⟩:=nG Tryz.underlying24 _ _ _ m;obtain⟨J,i,O⟩:=nG Tryz.underlying24 _ _ _ n;obtain⟨K,j,P⟩:=nG Tryz.underlying24 _ _ _ o;obtain⟨L,k,Q⟩:=nG Tryz.underlying24 _ _ _ p;simp at b c d e f g i j k;subst b c d e f g i j k;exact⟨⟨V,q,s,r,I,J,K,L,W,X,Y⟩,rfl,⟨M,F⟩,D,C,wf_u16 N,wf_u16 O,wf_u16 P,wf_u16 Q,wf_u64 S,wf_u16 T,wf_i64 R⟩
theorem dec_mv:Dec enc w base spare held 55 mvV (T9 w (λj=>j<w.heap.size)):=by
 intro v d A h;(have i:d.length=11:=by obtain⟨B,j,_,_,n,_⟩:=DataW.trod_struct Tryz.underlying55 h;rw[n];kernel_rfl);obtain⟨b,c,a,rfl⟩:∃b c a,d=b::c::a:=by
  match d,i with
  |b::c::a,_=>exact⟨b,c,a,rfl⟩
 obtain⟨x,C,k⟩:=qj Tryz.underlying55 h 0 _ rfl 5 0 1 rfl rfl kR;obtain⟨y,D,l⟩:=qj Tryz.underlying55 h 1 _ rfl 50 1 1 rfl rfl kR;obtain⟨z,E,m⟩:=qj Tryz.underlying55 h 2 _ rfl 53 2 9 rfl rfl kR;obtain⟨t,e,r⟩:=nG Tryz.underlying5 _ _ _ k;obtain⟨u,f,s⟩:=nG Tryz.underlying50 _ _ _ l;obtain⟨q,g,p⟩:=JL _ _ _ m;have o:a.take 9=a:=List.take_of_length_le (by simp at i;omega);simp only[List.drop_succ_cons,List.drop_zero,o]at g;simp at e f;subst e f g;exact⟨⟨t,u,q⟩,rfl,wf_u8 r,wf_u32 s,p⟩
theorem U0 {x:DataW H×List MemPlace} (h:DataW.trod enc prog w base spare held n 26 V=some x):
  ∃a:Pl,V=[.slice a.ka a.k.length a.kc,.slice a.wa a.ws.length a.wc,.slice a.aa a.ah.length a.ac,.slice a.ba a.bk.length a.bc,.int .u16 a.delay]/\UL w (λm=>m<w.heap.size) a:=by
 (have F:V.length=5:=by obtain⟨a0,m,_,_,D,_⟩:=DataW.trod_struct Tryz.underlying26 h;rw[D];kernel_rfl);obtain⟨b,c,d,e,f,rfl⟩:∃b c d e f,V=[b,c,d,e,f]:=by
  match V,F with
  |[b,c,d,e,f],_=>exact⟨b,c,d,e,f,rfl⟩
 obtain⟨U,a1,y⟩:=qj Tryz.underlying26 h 0 _ rfl 22 0 1 rfl rfl kR;obtain⟨W,a2,z⟩:=qj Tryz.underlying26 h 1 _ rfl 23 1 1 rfl rfl kR;obtain⟨X,a3,A⟩:=qj Tryz.underlying26 h 2 _ rfl 22 2 1 rfl rfl kR;obtain⟨Y,a4,B⟩:=qj Tryz.underlying26 h 3 _ rfl 22 3 1 rfl rfl kR;obtain⟨Z,a5,C⟩:=qj Tryz.underlying26 h 4 _ rfl 24 4 1 rfl rfl kR;obtain⟨o,s,G,g,R,u0,L⟩:=UC y;obtain⟨p,t,I,i,E,u1,M⟩:=sl_u64 z;obtain⟨q,u,J,j,S,u2,N⟩:=UC A;obtain⟨r,v,K,k,T,u3,O⟩:=UC B;obtain⟨Q,l,P⟩:=nG Tryz.underlying24 _ _ _ C;simp at g i j k l;subst g i j k l;exact⟨⟨o,s,G,p,t,I,q,u,J,r,v,K,Q⟩,rfl,L,u0,M,u1,E,N,u2,O,u3,wf_u16 P⟩
theorem sl_mv {a:X5} {l c:Nat} {x:DataW H×List MemPlace} (h:DataW.trod enc prog w base spare held n 27 [.slice a l c]=some x):
  ∃b:List Mv,l=b.length/\(∀j∈b,T9 w (λd=>d<w.heap.size) j)/\∃k,Row w (λd=>d<w.heap.size) k 11 a b.length (b.flatMap mvV):=by
 obtain⟨o,p,m,e,_,g,i⟩:=tL (f:=mvV) Uo dC Tryz.underlying27 kR dec_mv h;simp at e;obtain⟨rfl,rfl,rfl⟩:=e;exact⟨m,rfl,g,i⟩
end
theorem bv_at {S:X4} {a:X5} {l:List Bv} {j:Nat} (h:Row w S 47 1 a l.length (l.flatMap bvV)) (hb:bW w w') (k:j<l.length):
  ∃b c,a=some ⟨b,c,none⟩/\b<w.heap.size/\w'.cell? ⟨b,c+j,none⟩=some (.slice l[j].a l[j].b.length l[j].c):=by
 obtain⟨b,c,g,n,e,i⟩:=Row.at_ h oM;have d:=mr (f:=bvV) (m:=1) (λ_=>rfl) l j 0 k dC;refine⟨b,c,g,e,(hb.cell (p:=⟨b,c+j,none⟩) e).trans (i j _ ?_)⟩;rw[Nat.mul_one,Nat.add_zero]at d;rw[d];rfl
theorem Y2 (S:X4) (p:Nat) (a1:Wp) (x:Wo) (w:World) (h:WoL w S p a1 x) (X:x.sent<=10000000):
  Yk 29 #[pT p] w λP a4=>(∃L M,P=.returned (.slice L x.sent M))/\bW w a4:=by
 obtain⟨a9,j,b0,b3,b1,b4,b5,b9,b,v,-,-,u,D,-,-,A⟩:=h.ex;rw[<-A]at X|-;have O:=v.Wu 9;obtain⟨G,J⟩:=yx u D;clear v u D h A;go_enter Tryz.func29,Tryz.ntmps29;go_wp2_with fail;clear O;go_loopg [3,5,13] b.length (λQ a3 c3 a2 wr=>∃(a:Nat) (d:X5) (e:Nat) (c:List Bv),a+Q=b.length/\X3 (c.length=a)/\a2=jI (a:Int)/\a3=.slice d c.length e/\X3 (OwnAt wr (λq=>w.heap.size<=q) 47 1 d c.length e (c.flatMap bvV))/\X3 (bW w wr));(case atStart=>exact⟨0,none,0,[],oM,zH rfl,rfl,rfl,zH OwnAt.WH,zH (aj _ _)⟩);case round=>
  obtain⟨a,d,e,c,b7,o,rfl,rfl,K,i⟩:=hrel;by_cases z:a<b.length
  .have R:decide ((a:Int)<(b.length:Int))=true:=bM oM
   have b6:IntKind.i64.wrap ((a:Int)+1)=(a:Int)+1:=eP _ ⟨oM,oM⟩;obtain⟨b2,c2,rfl,n,Y⟩:=bv_at G.o.row i.o z;obtain⟨r,Z,a0⟩:=J.o _ (aN z);generalize b[a]=a5 at*
   obtain⟨l,a6,a7⟩:=a5;dsimp only at Y r Z a0;have I:=zH (aD r i.o);clear r;go_wp2_with (first|(at_builtin;refine fe.wpList rfl _ (.tmp 18) rfl wr.heap.size none 0 [] (by rfl) (iq _ _ _ _) a6 a7 l (by rfl) I.o sO dC (av _) ?_;intro m j s C y;have f:bW wr s:=(aj wr.heap.size wr).grown y (av _) XI;have t:=zH f;have a8:=zH C;clear f C y)|(at_builtin;refine Wn.jO rfl (.tmp 17) (.tmp 20) rfl d e c (by rfl) ((K.o.below t.o).below BEL) (some ⟨s.heap.size,0,none⟩) 1 [⟨l,m,j⟩] (by rfl) (Wn.single (⟨l,m,j⟩:Bv) (Wx _ _ _) rfl) (by have:=o.o;simp;omega) dC ?_;intro E N c4 B g T;have H:=zH B;have F:=zH g;clear B g T));go_roundg (b.length -(a+1));case rel=>
    obtain⟨n,f,g⟩:=FX i.o t.o F.o;obtain⟨W,c0,c1⟩:=FX n.size f.size g.size;refine⟨a+1,E,N,c++[⟨l,m,j⟩],oM,zH (by have:=o.o;simp[this]),by go_num,by rw[aU];rfl,zH ?_,zH ?_⟩
    .refine H.o.mono λq k=>?_
     rcases k with k|⟨V,b8⟩
     .exact k
     .simp at V;omega
    .refine(n.trans (f.mono W)).trans ?_
     exact(show Below w.heap.size s _ from BEL).trans (g.cZ sO (λq k h=>by omega))
   case measure=>omega
  .have R:decide ((a:Int)<(b.length:Int))=false:=bJ oM
   have U:a=b.length:=oM;go_wp2;go_ret;exact⟨⟨d,e,by rw[<-U,<-o.o];rfl⟩,i.o⟩
def YS (d:Nat) (xs:Array Value) (w:World) (p:TypeId×Nat):Prop:=∃a,(part p.1 xs p.2).run prog w=.ok a w/\(Op.equalIn d p.1 a a).run prog w=.ok true w
theorem YE (d:Nat) (xs:Array Value) (w:World):∀b:List Field,(∀c∈b.map (λa=>(a.type,a.offset)),YS d xs w c)->(Op.eqFields d xs xs b).run prog w=.ok true w
 |[],_=>by simp[Op.eqFields]
 |a::b,h=>by
  have g:=YE d xs w b (λc i=>h c (jQ _ i));obtain⟨j,e,f⟩:=h (a.type,a.offset) kT;dsimp only at e f;unfold Op.eqFields;split
  .simp[e,f,g,Result.andThen]
  .exact g
theorem Yy {xs:Array Value} {t i:Nat} {k:IntKind} {a:Int} (c:prog.underlying t=some (.int k)) (b:prog.plainKey t=true) (e:xs[i]?=some (.int k a)):YS (d+1) xs w (t,i):=
 ⟨_,run_part_plain w b e,by rw[run_equalIn_int w d t k k a a c];simp⟩
theorem YK {xs:Array Value} (w:World) (t:Nat) (c:prog.underlying t=some (.struct (prog.fieldsOf t))) (b:prog.stoodInHeld t=false) (h:∀e∈(prog.fieldsOf t).toList.map (λa=>(a.type,a.offset)),YS d xs w e):(Op.equalIn (d+1) t (.agg xs) (.agg xs)).run prog w=.ok true w:=by
 rw[run_equalIn_agg w d t xs xs c b];exact YE d xs w _ h
theorem YO {xs:Array Value} {t i:Nat} {g:TypeInfo} (n:Nat) (a:Array Value) (e:prog.underlying t=some (.struct (prog.fieldsOf t))) (b:prog.info? t=some g) (c:prog.cellsOf t=n) (f:xs.extract i (i+n)=a) (h:(Op.equalIn d t (.agg a) (.agg a)).run prog w=.ok true w):YS d xs w (t,i):=
 ⟨.agg a,by subst c;rw[<-f];simp[part,isAgg,run_underlying e,run_sizeOf w b],h⟩
theorem YB:prog.underlying 30=some (.int .u64):=Tryz.underlying30
theorem und3:prog.underlying 3=some (.int .i64):=Tryz.underlying3
theorem YC:prog.plainKey 30=true:=by kernel_rfl
theorem pk3:prog.plainKey 3=true:=by kernel_rfl
theorem fl36:(prog.fieldsOf 36).toList.map (λa=>(a.type,a.offset))=[(30,0),(30,1),(30,2),(30,3),(30,4)]:=by kernel_rfl
theorem fl38:(prog.fieldsOf 38).toList.map (λa=>(a.type,a.offset))=[(3,0),(30,1),(30,2),(30,3),(30,4),(30,5),(30,6),(30,7),(30,8),(30,9),(30,10),(36,11)]:=by kernel_rfl
theorem fl41:(prog.fieldsOf 41).toList.map (λa=>(a.type,a.offset))=[(38,0),(30,16),(30,17),(30,18),(30,19),(30,20),(39,21)]:=by kernel_rfl
def coV (c:Co):Array Value:= #[uI c.dB,uI c.eT,uI c.fI,uI c.bE,uI c.late]
theorem Zj (d:Nat) (c:Co) (w:World):(Op.equalIn (d+2) 36 (.agg (coV c)) (.agg (coV c))).run prog w=.ok true w:=by
 refine YK (d:=d+1) w 36 kR kR ?_;rw[fl36];simp only[List.forall_mem_cons];exact⟨Yy YB YC rfl,Yy YB YC rfl,Yy YB YC rfl,Yy YB YC rfl,Yy YB YC rfl,λ_ h=>by cases h⟩
theorem Zg (d:Nat) (y:St) (w:World):(Op.equalIn (d+3) 38 (.agg (stV y)) (.agg (stV y))).run prog w=.ok true w:=by
 refine YK (d:=d+2) w 38 kR kR ?_;obtain⟨c,a⟩:∃b,prog.info? 36=some b:=⟨_,by rfl⟩;rw[fl38];simp only[List.forall_mem_cons];exact⟨Yy und3 pk3 rfl,Yy YB YC rfl,Yy YB YC rfl,Yy YB YC rfl,Yy YB YC rfl,Yy YB YC rfl,Yy YB YC rfl,Yy YB YC rfl,Yy YB YC rfl,Yy YB YC rfl,Yy YB YC rfl,YO 5 (coV y.dh) kR a kR kR (Zj d y.dh w),λ_ h=>by cases h⟩
theorem Zh (d:Nat) (y:Rw) (w:World):(Op.equalIn (d+4) 41 (.agg (rwV y)) (.agg (rwV y))).run prog w=.ok true w:=by
 refine YK (d:=d+3) w 41 kR kR ?_;obtain⟨c,a⟩:∃b,prog.info? 38=some b:=⟨_,by rfl⟩;rw[fl41];simp only[List.forall_mem_cons];exact⟨YO 16 (stV y.aS) kR a kR kR (Zg d y.aS w),Yy YB YC rfl,Yy YB YC rfl,Yy YB YC rfl,Yy YB YC rfl,Yy YB YC rfl,Yy (t:=39) Tryz.underlying39 kR rfl,λ_ h=>by cases h⟩
theorem Y8 (y:Rw) (w:World):(binOp .eql 41 (.agg (rwV y)) (.agg (rwV y))).run prog w=.ok (bV true) w:=by
 rw[run_eql_struct];have h:=Zh 9996 y w;rw[show 9996+4=10000 from rfl]at h;rw[h];rfl
theorem YQ {ops:Array Oper} {op:Oper} {a:Act} {Q:X7} (x z:Operand) (y:Rw) (e:op.guard=none) (f:op.op=.binOp .eql 41 x z 41) (d:Option Tmp) (c:op.dst=d) (g:a.eval x=.agg (rwV y)) (i:a.eval z=.agg (rwV y)) (k:Go.wpList prog ops Q O (a.put d (bV true)) w):Go.wpList prog ops Q (op::O) a w:=by
 subst c;refine wpList_plain e λj b=>?_;have h:(execOp a.eval op).run prog w=.ok (.value (bV true)) w:=by
  unfold execOp;simp only[f,g,i,Sem.run_bind,run_eqGuard_agg w .eql 41 x z (rwV y) (rwV y) (show prog.eqGuardType prog.depth 41=false by kernel_rfl),Y8,Result.andThen_ok];simp
 unfold Oper.wp;rw[h];exact b _ _ k
theorem Tq.Y1 {w wr:World} {q:Tp} {x:Wo} {bL:Bl} {c:Bo} (h:Tq w wr q n x bL c) (a:n<=148):
  Yk 29 #[(pT q.p)] wr λe g=>(∃b d,e=.returned (.slice b x.sent d))/\bW wr g:=by
 obtain⟨j,f,_⟩:=h.ex;have i:=h.wd.small (ay a dC) (ay a dC);exact Y2 _ q.p q.rp x wr f.l oM
theorem Tq.noise {w wr:World} {q:Tp} {x:Wo} {bL:Bl} {k:Bo} (h:Tq w wr q n x bL k) (z:n<=148) {tb:TypeId} {S:X4} {a:X5} (hb:Byt tb wr S a l) (s:∀b,S b->b<w.heap.size) (t:l.length<=c) (u:l.length<=140737488355328) (i:dP l):
  Yk 11 #[(pT q.p),.agg #[jI 3,uI 0,.slice a l.length c]] wr λd j=>d=.returned (.agg (rwV (zz x ⟨3,0,l⟩)))/\Tq w j q (n+1) (Bc x ⟨3,0,l⟩) bL []:=by
 obtain⟨e,f,g,m,o,p,r,B⟩:=h.ex;refine(LJ (tb:=tb) e wr q.p n q.rp x 3 0 (λb=>e b=9) a c l f h.wd z ⟨dC,dC⟩ ig (aF hb (λb y=>by show 4<e b;rw[g b (s b y)];decide)) t u i (λd=>Wy d dC) (λd=>Wy d dC)).mono ?_;rintro d j ⟨v,A⟩;exact⟨v,h.did f g m o p r A (U6 h.wd ⟨i,bY 0⟩ ⟨(by decide:(1:Int)<=3),(by decide:(3:Int)<=6)⟩)⟩
theorem Ze {f:Type} {a b:f} {l:List f}:∀e∈a::b::l,e∈b::a::l:=λe c=>
 (bT.1 c).elim (λd=>d▸jQ _ kT) λc=>(bT.1 c).elim (λd=>d▸kT) λc=>jQ _ (jQ _ c)
theorem Tq.cellS {w wr:World} {q:Tp} {x:Wo} {bL:Bl} {g:Nat} (h:Tq w wr q n x ((g,t,C)::bL) []) (a:(∀c∈bL,c.1≠g)/\q.r≠g/\q.en≠g/\q.l≠g) (i:Nat) (u:Value):Tq w (wr.setCell ⟨g,i,none⟩ u) q n x ((g,t,C.setIfInBounds i u)::bL) []:=
 h.set a.1 a.2.1 a.2.2.1 a.2.2.2 ((h.loc _ kT).bF i u) sM (bG (p:=⟨g,i,none⟩) (aj _ _) (av _) _) (λd b=>Below.heap_setCell _ _ _ _ b)
theorem YU {x:Wo} {b:List Int} (e:WdX n n 0 0 x) (i:n<=148) (m:Still x) (hb:dP b) (j:(jy b).err≠0):
  ∃a c:Rw,a=woRow x/\c=zz x ⟨3,0,b⟩/\(Bc x ⟨3,0,b⟩).sent=x.sent/\IntKind.u64.wrap (a.told+1)=a.told+1/\IntKind.u64.wrap (a.aS.dh.dB+1)=a.aS.dh.dB+1/\
   (a.aS.aS<3->(((rwV a).setIfInBounds 11 (uI (a.aS.dh.dB+1))).setIfInBounds 18 (uI (a.told+1))).setIfInBounds 1 (uI c.aS.now)=rwV c)/\
   (¬a.aS.aS<3->((rwV a).setIfInBounds 18 (uI (a.told+1))).setIfInBounds 1 (uI c.aS.now)=rwV c):=by
 obtain⟨k,l⟩:=Y4 e m hb j;(have d:zz x ⟨3,0,b⟩={woRow (Bc x ⟨3,0,b⟩)with err:=0}:=by unfold zz;rw[aB ⟨(by decide:(1:Int)<=3),(by decide:(3:Int)<=6)⟩];rfl);have q:=e.small (ay i dC) (ay i dC);have g:=e.en.gu.n;have o:(woRow x).told=(x.heard:Int):=rfl;have f:(woRow x).aS.dh=x.en.gu.n:=rfl;have p:(woRow x).err=0:=rfl;rw[k]at d;refine⟨_,_,rfl,rfl,l,Wz _ ⟨oM,oM⟩,Wz _ ⟨?_,?_⟩,λh=>?_,λh=>?_⟩
 .rw[f];have:=g.a0;omega
 .rw[f];have:=g.a1;omega
 .rw[d,aB h];rfl
 .rw[d,Ww h];rfl
theorem YR (S:X4) (q:Pl) (j0:X5) (o3:Nat) (k:List Mv) (f6:X5) (cn:Nat) (a1:List Int) (w:World) (o:UL w S q) (j9:∀m8,S m8->m8<w.heap.size) (l5:∃h2,Row w S h2 11 j0 k.length (k.flatMap mvV)) (l4:∀C∈k,T9 w S C) (d5:∃h2,Byt h2 w S f6 a1) (l8:a1.length<=cn) (m0:a1.length<=140737488355328) (l7:dP a1):
  Yk 7 #[.agg (Yi q),.slice j0 k.length o3,.slice f6 a1.length cn] w λO b5=>O=.returned (bV true)/\bW w b5:=by
 obtain⟨f8,g6⟩:=eX (fV q.k);(have p2:lV f8:=by rw[g6];exact CS o.ku);obtain⟨i3,h4,i4,n6,n5⟩:=BF (λa7 (g5:bW w a7)=>o.below g5) g6 j9 l5 l4;obtain⟨t2,d5⟩:=d5;obtain⟨i2,n7,i1,e2⟩:=Bq d5 l8 m0 l7;obtain⟨f4,d1⟩:=eX (w.alloc (.cells (Yi q) 26));(have k2:bW w f4:=by rw[d1];exact BEL);obtain⟨A,d4⟩:=eX w.heap.size;(have m7:Blk f4 A 26 (Yi q):=by rw[d1,d4];exact Wx _ _ _);obtain⟨e1,f2,i5,h5⟩:=Bq k2 m7 d1 d4;clear o p2 g6 k2 m7 d1 j9 l5 l4 d5 l8 m0 l7;go_enter Tryz.func7,Tryz.ntmps7;go_upto_region 1 with fail;rw[<-i5.o,<-d4];clear d4 i5;(go_wp2_with first|(refine kP 26 (.tmp 3) rfl rfl (some 14) rfl A kR (Yi q) f2.o _ Tryz.underlying26 kR kR ?_)|fail);refine(U4 S q f4 (i3.o _ e1.o)).mono ?_;rintro O n0 ⟨⟨c,b,d,b2,b3,s9,d9,j4,j5,rfl,k5⟩,k3⟩;have g2:=Tq.start (bL:=[(A,26,(Yi q))]) k5 e1.o k3 (i3.o _ (aj _ _)) (λb7 d7=>by obtain rfl:=dZ.1 d7;exact⟨Nat.le_of_eq h5.o.symm,f2.o⟩);rw[<-h4.o]at g2;have x:=zH g2;have j6:=Y3 f8 (q.ws.take 60) j4 j5 q.delay;generalize mO f8 (q.ws.take 60) j4 j5 q.delay=r0 at*
 clear k5 k3 g2 f2 h5 e1 h4;by_cases p1:40<k.length
 .have g0:decide ((40:Int)<(k.length:Int))=true:=bM oM
  go_wp2_with fail;refine Yd (tQ n0) ?_;intro n2 d2;go_wp2_with fail;refine Yd (tQ n2) ?_;intro e0 o8;go_wp2;go_ret;exact⟨rfl,((x.o.below d2).below o8).bel⟩
 have g0:decide ((40:Int)<(k.length:Int))=false:=bJ oM;go_wp2_with fail;refine Yd (tQ n0) ?_;intro n2 d2;have K:=zH (x.o.below d2);clear d2 x;go_upto_region 5 with fail;go_wp2;go_loopg [8,34] k.length (λh1 t3 q6 wr=>∃r,q6=jI ((k.length:Int) -h1)/\h1<=k.length/\X3 (Tq w wr ⟨b,d,b2,b3,d9⟩ (k.length -h1) r [(c,45,#[pT b,pT d]),(A,26,(Yi q))] [])/\X3 (Still r));(case atStart=>exact⟨r0,by congr 1;omega,av _,by rw[Nat.sub_self];exact K,zH j6⟩);case round=>
  obtain⟨r,rfl,s7,x,i6⟩:=hrel;clear j6 K;by_cases d7:0<gk
  .obtain⟨p,g8⟩:=eX (k.length -gk)
   have l2:(k.length:Int) -gk=(p:Int):=oM;have l1:p<k.length:=oM;have l0:p<=147:=oM;rw[l2];rw[<-g8]at x;have h8:=zH g8;obtain⟨t1,m5⟩:=n6.o;obtain⟨c2,c3,rfl,o7,m2⟩:=UX m5 l1;obtain⟨e3,n4⟩:=yx (λa7 (g5:bW w a7)=>Ag m2 g5 o7) (n5.o _ (aN l1));generalize k[p]=C at*
   have o4:decide ((p:Int)<(k.length:Int))=true:=bM oM;have s6:IntKind.i64.wrap ((p:Int)+1)=(p:Int)+1:=eP _ ⟨oM,oM⟩;have s8:(p:Int)<k.length:=oM;have o5:=zH l0;clear g8 l2 m2 m5 g0 l0;go_upto_region 7 with fail;have c6:bW wr wr.drew:=bA (aj _ _);have z:=zH (x.o.below c6);have j:Blk wr.drew c 45 #[pT b,pT d]/\wr.drew.rangeAt c2 (c3+p*11) (mvV C):=⟨z.o.loc _ kT,e3.o _ z.o.bel⟩;clear c6 x;refine aZ (S:=λb5=>Blk b5 c 45 #[pT b,pT d]/\b5.rangeAt c2 (c3+p*11) (mvV C)) kR j (λg1=>?_);clear g1;refine tK 0 37 j ?_;refine tK 1 38 j ?_;refine tK 2 39 j ?_;refine X6 3 40 j ?_ (y:=by intro w a8;have m9:w.cell? ⟨c,0,none⟩=_:=a8.1.cell 0;exact gS);refine tK 4 41 j ?_;refine tK 5 42 j ?_;refine tK 6 43 j ?_;refine tK 7 44 j ?_;refine iL (v:=.agg (mvV C).toArray) 8 (some 45) rfl kR kR kR kR (λ_ _ _ h=>h) (yieldsIf_load_mid rfl 55 (.tmp 44) rfl c2 (c3+p*11) kR (mvV C) _ (λw a8=>a8.2) Tryz.underlying55 kR kR) j ?_;(try simp only[Act.put,List.setIfInBounds_toArray,List.set_cons_zero,List.set_cons_succ]);refine nrm 11 511 ?_;refine aI 9 kR ?_;refine opC 46 13 #[pT c,.agg (mvV C).toArray] ((z.o.ways i4.o kT C n4.o).mono ?_);rintro s5 b6 ⟨⟨d8,u,i9,B,f7,k6,k8,Z⟩,o9⟩;obtain⟨b8,J⟩:=yx k8 Z;have d6:Blk b6 c 45 #[pT b,pT d]/\b6.rangeAt c2 (c3+p*11) (mvV C):=⟨J.o.loc _ kT,e3.o _ J.o.bel⟩;refine⟨_,k6,d6,?_⟩;clear k6 k8 Z o9;(try simp only[Act.put,List.setIfInBounds_toArray,List.set_cons_zero,List.set_cons_succ]);refine aI 10 kR ?_;refine opC 47 11 #[pT b,.agg #[jI d8,uI u,.slice i9 f7.length B]] ((J.o.doIt (kind:=d8) (a:=i9) kT b8.o (by have:=o5.o;omega)).mono ?_);rintro j2 n1 ⟨W,Z⟩;have E:=zH Z;have c7:Blk n1 c 45 #[pT b,pT d]/\n1.rangeAt c2 (c3+p*11) (mvV C):=⟨E.o.loc _ kT,e3.o _ E.o.bel⟩;refine⟨_,W,c7,?_⟩;clear W Z;(try simp only[Act.put,List.setIfInBounds_toArray,List.set_cons_zero,List.set_cons_succ]);refine bg kR ?_ _;have i7:=zH (Y7 (e:=⟨d8,u,f7⟩) J.o.wd ⟨b8.o.by_,b8.o.hn.1⟩ b8.o.hk);obtain⟨q9,m6⟩:=eX (Bc r ⟨d8,u,f7⟩);rw[<-m6]at E i7;clear m6 J z j d6 c7 b8 i6;go_wp2;go_roundg (gk -1);(case rel=>exact⟨q9,by congr 1;have:=h8.o;omega,oM,by rw[show k.length -(gk -1)=p+1 by have:=h8.o;omega];exact E,i7⟩);case measure=>omega
  .have o4:decide ((k.length:Int) -gk<(k.length:Int))=false:=bJ oM
   obtain rfl:gk=0:=oM;have l6:k.length<=40:=oM;have I:=zH l6;rw[Nat.sub_zero]at x;clear l6 p1 g0;obtain⟨i8,o6⟩:∃i8:Nat->Prop,i8=S:=⟨_,rfl⟩;go_upto_region 9 with fail;go_wp2_with fail;refine(YZ S f6 cn a1 wr (aD i2.o x.o.bel) i1.o e2.o).mono ?_;rintro O b6 ⟨L,u,B,M,a0,N,a3,a4,a2,f9,rfl,k7,k4⟩;obtain⟨J,h6⟩:=yx (x.o.below k4) k7;clear k4 k7 x o6;(repeat (go_not_at_region 10;first|(refine iG 92 (.tmp 9) (.tmp 52) rfl rfl rfl b6.heap.size 0 (YG L u B M a0 N a3 a4 a2) kR kR ((Wx b6 92 jK).there _ sM) kR XF ?_;intro c9 k0;have g3:=J.o.box jK (YG L u B M a0 N a3 a4 a2) 92 rfl;rw[<-show c9=_ from k0]at g3;have E:=zH g3;clear k0 g3)|go_values|go_skip|go_guarded|go_step|go_upon|go_back|go_simp));obtain⟨b1,t⟩:=eX b6.heap.size;rw[<-t]at E;rw[<-t];clear t J;by_cases d3:f9=0
   .have p0:(f9==0)=true:=by simp[d3]
    go_wp2;go_ret;exact⟨rfl,E.o.bel⟩
   (have p0:(f9==0)=false:=by simp[d3]);have n3:=zH (show(jy a1).err≠0 from λh=>d3 (h6.o h));clear d3 h6;go_upto_region 12 with fail;have c6:bW c9 c9.drew:=bA (aj _ _);have z:=zH (E.o.below c6);have j:Blk c9.drew c 45 #[pT b,pT d]:=z.o.loc _ (jQ _ kT);clear c6 E;refine' FM (F:=_) (λf p8 q2 a7=>X3 (Tq w a7 ⟨b,d,b2,b3,d9⟩ k.length r ((f,41,(rwV (woRow r)))::(b1,92,(YG L u B M a0 N a3 a4 a2))::[(c,45,#[pT b,pT d]),(A,26,(Yi q))]) [])/\X3 ((∀b7∈(b1,92,(YG L u B M a0 N a3 a4 a2))::[(c,45,#[pT b,pT d]),(A,26,(Yi q))],b7.1≠f)/\d≠f/\b2≠f/\b3≠f)) ?tl (λf3=>?mn);case mn=>
    refine aZ (S:=λb5=>Blk b5 c 45 #[pT b,pT d]) kR j (λg1=>?_);clear g1;refine tK 0 56 j ?_;refine tK 1 57 j ?_;refine tK 2 58 j ?_;refine X6 3 59 j ?_ (y:=by intro w a8;have m9:w.cell? ⟨c,0,none⟩=_:=a8.cell 0;exact gS);refine tK 5 61 j ?_;refine tK 6 62 j ?_;refine tK 7 63 j ?_;refine X6 8 64 j ?_ (y:=by intro w a8;have m9:w.cell? ⟨c,0,none⟩=_:=a8.cell 0;exact gS);refine nrm 14 495 ?_;refine fo 4 11 kR ?_ ?_
    .refine opC 60 14 #[pT b] ((z.o.row (by have:=I.o;omega)).mono ?_)
     rintro j2 r1 ⟨W,c5⟩;have b9:=zH (z.o.below c5);have j:Blk r1 c 45 #[pT b,pT d]:=b9.o.loc _ (jQ _ kT);refine⟨_,W,j,?_⟩;clear W c5;(try simp only[Act.put,List.setIfInBounds_toArray,List.set_cons_zero,List.set_cons_succ]);refine fo 9 11 kR ?_ ?_
     .refine opC 65 29 #[pT b] ((b9.o.Y1 (by have:=I.o;omega)).mono ?_)
      rintro j3 h3 ⟨⟨p9,q3,t⟩,l⟩;have e4:=zH (b9.o.below l);have m3:Blk h3 c 45 #[pT b,pT d]:=e4.o.loc _ (jQ _ kT);refine⟨_,t,m3,?_⟩;clear t l;(try simp only[Act.put,List.setIfInBounds_toArray,List.set_cons_zero,List.set_cons_succ]);refine tK 10 66 m3 ?_;refine aI 11 kR ?_;refine fA (op:=_) rfl kR (some 11) kR 41 kR Yj kR ?_;intro f r2 U o l;have e5:=zH (e4.o.new U o l);have p3:Blk r2 c 45 #[pT b,pT d]:=e5.o.loc _ (jQ _ (jQ _ kT));have D:=zH (e4.o.ne o);refine⟨p3,?_⟩;clear U o l;(try simp only[Act.put,List.setIfInBounds_toArray,List.set_cons_zero,List.set_cons_succ]);obtain⟨P,Q,R,T⟩:=D.o;have n:=e5.o.gF (cs':=(rwV (woRow r))) P Q R T rfl;have X:=e5.o.loc _ kT;refine dJ (i:=12) 41 (.tmp 11) (.tmp 60) f 0 (rwV (woRow r)) rfl kR kR kR kR kR kR (X.there _ (av _)) kR (by simp[rwV,Value.oneCell']) (n.loc (c,45,#[pT b,pT d]) (jQ _ (jQ _ kT))) ?_;intro c1 V;have Y:=n.loc (c,45,#[pT b,pT d]) (jQ _ (jQ _ kT));rw[<-show c1=_ from V]at n Y;have a6:=zH n;clear n X V;(try simp only[Act.put,List.setIfInBounds_toArray,List.set_cons_zero,List.set_cons_succ]);refine tK 13 12 Y ?_;refine bg kR ?_ _;exact f3 f p9 q3 _ ⟨a6,zH ⟨P,Q,R,T⟩⟩
     .refine fA (op:=_) rfl kR (some 11) kR 41 kR Yj kR ?_
      intro f r3 U o l;have e6:=zH (b9.o.new U o l);have d6:Blk r3 c 45 #[pT b,pT d]:=e6.o.loc _ (jQ _ (jQ _ kT));have D:=zH (b9.o.ne o);refine⟨d6,?_⟩;clear U o l;(try simp only[Act.put,List.setIfInBounds_toArray,List.set_cons_zero,List.set_cons_succ]);refine aI 9 kR ?_;refine opC 65 29 #[pT b] ((e6.o.Y1 (by have:=I.o;omega)).mono ?_);rintro j3 r4 ⟨⟨q0,q4,t⟩,l⟩;have e7:=zH (e6.o.below l);have c7:Blk r4 c 45 #[pT b,pT d]:=e7.o.loc _ (jQ _ (jQ _ kT));refine⟨_,t,c7,?_⟩;clear t l;(try simp only[Act.put,List.setIfInBounds_toArray,List.set_cons_zero,List.set_cons_succ]);refine tK 10 66 c7 ?_;obtain⟨P,Q,R,T⟩:=D.o;have n:=e7.o.gF (cs':=(rwV (woRow r))) P Q R T rfl;have X:=e7.o.loc _ kT;refine dJ (i:=12) 41 (.tmp 11) (.tmp 60) f 0 (rwV (woRow r)) rfl kR kR kR kR kR kR (X.there _ (av _)) kR (by simp[rwV,Value.oneCell']) (n.loc (c,45,#[pT b,pT d]) (jQ _ (jQ _ kT))) ?_;intro c1 V;have Y:=n.loc (c,45,#[pT b,pT d]) (jQ _ (jQ _ kT));rw[<-show c1=_ from V]at n Y;have a6:=zH n;clear n X V;(try simp only[Act.put,List.setIfInBounds_toArray,List.set_cons_zero,List.set_cons_succ]);refine tK 13 12 Y ?_;refine bg kR ?_ _;exact f3 f q0 q4 _ ⟨a6,zH ⟨P,Q,R,T⟩⟩
    .refine fA (op:=_) rfl kR (some 11) kR 41 kR Yj kR ?_
     intro f r5 U o l;have e8:=zH (z.o.new U o l);have p4:Blk r5 c 45 #[pT b,pT d]:=e8.o.loc _ (jQ _ (jQ _ kT));have D:=zH (z.o.ne o);refine⟨p4,?_⟩;clear U o l;(try simp only[Act.put,List.setIfInBounds_toArray,List.set_cons_zero,List.set_cons_succ]);refine aI 4 kR ?_;refine opC 60 14 #[pT b] ((e8.o.row (by have:=I.o;omega)).mono ?_);rintro j2 r6 ⟨W,c5⟩;have e9:=zH (e8.o.below c5);have p5:Blk r6 c 45 #[pT b,pT d]:=e9.o.loc _ (jQ _ (jQ _ kT));refine⟨_,W,p5,?_⟩;clear W c5;(try simp only[Act.put,List.setIfInBounds_toArray,List.set_cons_zero,List.set_cons_succ]);refine aI 9 kR ?_;refine opC 65 29 #[pT b] ((e9.o.Y1 (by have:=I.o;omega)).mono ?_);rintro j3 r7 ⟨⟨q1,q5,t⟩,l⟩;have f0:=zH (e9.o.below l);have m4:Blk r7 c 45 #[pT b,pT d]:=f0.o.loc _ (jQ _ (jQ _ kT));refine⟨_,t,m4,?_⟩;clear t l;(try simp only[Act.put,List.setIfInBounds_toArray,List.set_cons_zero,List.set_cons_succ]);refine tK 10 66 m4 ?_;obtain⟨P,Q,R,T⟩:=D.o;have n:=f0.o.gF (cs':=(rwV (woRow r))) P Q R T rfl;have X:=f0.o.loc _ kT;refine dJ (i:=12) 41 (.tmp 11) (.tmp 60) f 0 (rwV (woRow r)) rfl kR kR kR kR kR kR (X.there _ (av _)) kR (by simp[rwV,Value.oneCell']) (n.loc (c,45,#[pT b,pT d]) (jQ _ (jQ _ kT))) ?_;intro c1 V;have Y:=n.loc (c,45,#[pT b,pT d]) (jQ _ (jQ _ kT));rw[<-show c1=_ from V]at n Y;have a6:=zH n;clear n X V;(try simp only[Act.put,List.setIfInBounds_toArray,List.set_cons_zero,List.set_cons_succ]);refine tK 13 12 Y ?_;refine bg kR ?_ _;exact f3 f q1 q5 _ ⟨a6,zH ⟨P,Q,R,T⟩⟩
   case tl=>
    rintro f p8 q2 a7 ⟨K,D⟩;clear z j;have j1:a7.cell? ⟨c,0,none⟩=some ((pT b)):=(K.o.loc (c,45,#[pT b,pT d]) (jQ _ (jQ _ kT))).cell 0;go_wp2_with fail;refine Yd (K.o.noise (by have:=I.o;omega) (aD i2.o K.o.bel) i4.o n7.o i1.o e2.o) ?_;intro e0 Z;have c8:=zH Z;clear Z j1;obtain⟨s,m,j8,h0,g9,q8,q7,l3,k9⟩:=YU K.o.wd (by have:=I.o;omega) i6.o e2.o n3.o;rw[<-h0];rw[<-j8]at c8;obtain⟨h9,h7,n8,s2⟩:=Bq l3 k9 g9 h0;clear l3 k9 g9 h0 j8 K;(repeat (go_not_at_region 14;first|(refine iG 41 (.tmp 13) (.tmp 73) rfl rfl rfl e0.heap.size 0 (rwV m) kR kR ((Wx e0 41 Yj).there _ (av _)) kR (by simp[rwV,Value.oneCell']) ?_;intro f5 k1;have g4:=c8.o.box Yj (rwV m) 41 rfl;rw[<-show f5=_ from k1]at g4;have c0:=zH g4;clear k1 g4)|go_values|go_skip|go_guarded|go_step|go_upon|go_back|go_simp));obtain⟨G,g7⟩:=eX e0.heap.size;have i0:=zH (c8.o.ne (g:=G) oM);rw[<-g7]at c0;rw[<-g7];clear g7 c8;have H:=c0.o.loc (f,41,rwV s) (jQ _ kT);have b4:=c0.o.loc (G,41,rwV m) kT;obtain⟨n9,r8⟩:=H.cz 0;obtain⟨o0,r9⟩:=H.cz 1;obtain⟨o1,s0⟩:=H.cz 11;obtain⟨o2,s1⟩:=H.cz 18;have h3:=b4.Wu 1;have l9:G≠f:=λO=>i0.o.1 (f,41,rwV s) kT O.symm;have p6:=H.lt;have p7:=b4.lt;clear H b4;have m1:(∀b7∈(G,41,rwV m)::(b1,92,(YG L u B M a0 N a3 a4 a2))::[(c,45,#[pT b,pT d]),(A,26,(Yi q))],b7.1≠f)/\d≠f/\b2≠f/\b3≠f:=⟨λb7 d7=>(bT.1 d7).elim (λO=>O▸l9) (D.o.1 b7),D.o.2⟩;have f1:=zH (c0.o.sub (bL':=(f,41,rwV s)::(G,41,rwV m)::(b1,92,(YG L u B M a0 N a3 a4 a2))::[(c,45,#[pT b,pT d]),(A,26,(Yi q))]) Ze);have b0:=zH m1;clear m1 c0 i0 D l9;by_cases c4:s.aS.aS<3
    case' pos=>
     have j7:decide (s.aS.aS<3)=true:=bM c4;go_upto_region 18 with fail;obtain⟨d0,a9⟩:=eX (((f5.setCell ⟨f,11,none⟩ (uI (s.aS.dh.dB+1))).setCell ⟨f,18,none⟩ (uI (s.told+1))).setCell ⟨f,1,none⟩ (uI m.aS.now));rw[<-a9];have a5:=zH (show Tq w d0 ⟨b,d,b2,b3,d9⟩ _ _ ((f,41,rwV m)::(G,41,rwV m)::(b1,92,(YG L u B M a0 N a3 a4 a2))::[(c,45,#[pT b,pT d]),(A,26,(Yi q))]) [] by have h:=((f1.o.cellS b0.o 11 (uI (s.aS.dh.dB+1))).cellS b0.o 18 (uI (s.told+1))).cellS b0.o 1 (uI m.aS.now);rw[h9.o c4]at h;rw[a9];exact h);clear a9
    case' neg=>
     have j7:decide (s.aS.aS<3)=false:=bJ c4;go_upto_region 18 with fail;obtain⟨d0,a9⟩:=eX ((f5.setCell ⟨f,18,none⟩ (uI (s.told+1))).setCell ⟨f,1,none⟩ (uI m.aS.now));rw[<-a9];have a5:=zH (show Tq w d0 ⟨b,d,b2,b3,d9⟩ _ _ ((f,41,rwV m)::(G,41,rwV m)::(b1,92,(YG L u B M a0 N a3 a4 a2))::[(c,45,#[pT b,pT d]),(A,26,(Yi q))]) [] by have h:=(f1.o.cellS b0.o 18 (uI (s.told+1))).cellS b0.o 1 (uI m.aS.now);rw[h7.o c4]at h;rw[a9];exact h);clear a9
    all_goals
     clear f1 b0 h9 h7 q8 q7 n9 r8 o0 r9 o1 s0 o2 s1 h3 p6 p7 j7 c4;have H:=a5.o.loc (f,41,rwV m) kT;have b4:=a5.o.loc (G,41,rwV m) (jQ _ kT);have j1:d0.cell? ⟨c,0,none⟩=some ((pT b)):=(a5.o.loc (c,45,#[pT b,pT d]) (jQ _ (jQ _ (jQ _ kT)))).cell 0;refine wp_region_lit ?_;refine kP 41 (.tmp 13) rfl rfl (some 95) rfl G kR (rwV m) b4 _ Tryz.underlying41 kR kR ?_;refine kP 41 (.tmp 11) rfl rfl (some 96) rfl f kR (rwV m) H _ Tryz.underlying41 kR kR ?_;refine YQ (.tmp 95) (.tmp 96) m rfl rfl (some 97) rfl kR kR ?_;clear H b4;(have g9:((((Bc r ⟨3,0,a1⟩).sent:Nat):Int)==(r.sent:Int))=true:=by rw[n8.o];simp);generalize rwV m=t0 at*
     go_wp2_with fail;refine(a5.o.Y1 (by have:=I.o;omega)).mono ?_;rintro O t4 ⟨⟨s3,s4,rfl⟩,l⟩;have a6:=zH (a5.o.below l);clear l a5;go_wp2;go_ret;exact⟨rfl,a6.o.bel⟩
theorem YM {H:Type} {enc:TypeId×Value->H} {base:Nat} (j:Value) (y:DataW H) (a1:List MemPlace) (k:Value) (z:DataW H) (a2:List MemPlace) (l:Value) (n:DataW H) (a3:List MemPlace) (a:World) (Y:Value.okWide prog a .any base 26 j) (S:DataW.Trod enc prog a 0 (λ_=>true) true 26 j y a1) (Z:Value.okWide prog a .any base 27 k) (T:DataW.Trod enc prog a 0 (λ_=>true) true 27 k z a2)
  (a0:Value.okWide prog a .any base 47 l) (U:DataW.Trod enc prog a 0 (λ_=>true) true 47 l n a3) (P:∀o r,n=.slice o r->o.length+r.length<=140737488355328):
  Yk 7 #[j,k,l] a λc a4=>c=.returned (bV true)/\bW a a4:=by
 obtain⟨m,rfl,-⟩:=okWide_struct Tryz.underlying26 Y;obtain⟨a7,E⟩:=S;obtain⟨q,c,O⟩:=U0 E;obtain⟨a8,F⟩:=T;obtain⟨u,b2,w,rfl⟩:=okWide_slice Tryz.underlying27 Z;obtain⟨X,rfl,M,N⟩:=sl_mv F;obtain⟨a9,p⟩:=U;obtain⟨e,V,f,rfl⟩:=okWide_slice Tryz.underlying47 a0;obtain⟨t,v,d,J,K,G,Q⟩:=sl_by p;(have i:([.slice e V f]:List Value)=[.slice t d.length v]:=by simpa[Value.cells]using J);injection i with i _;injection i with B C D;subst B C D;have L:d.length<=140737488355328:=by
  rcases open_slice Tryz.underlying47 p with⟨g,_⟩|⟨s,W,x,b3,b4,a5,a6,g,_,b0,_,b1,R,_⟩
  .have b:([.slice e d.length f]:List Value)=[zzN]:=by simpa[Value.cells]using g
   injection b with b _;injection b with _ c _;omega
  .have b:([.slice e d.length f]:List Value)=[.slice (some s) W x]:=by simpa[Value.cells]using g
   injection b with b _;injection b with _ c _;have I:=P _ _ (lY Prod.fst R);simp only[bR,List.length_range]at I;omega
 (have A:m=(Yi q):=by cases m;simpa[Value.cells]using c);subst A;exact YR _ q u w X e f d a O (λ_ h=>h) N M Q K L G
end Go.Proofs.YtiflndepmgnojaaGreat
