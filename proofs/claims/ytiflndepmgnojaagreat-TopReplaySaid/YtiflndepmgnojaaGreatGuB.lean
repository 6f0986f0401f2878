import Derived.Test.YtiflndepmgnojaaGreatPtp
import Derived.Test.YtiflndepmgnojaaGreatAdc
import Derived.Test.YtiflndepmgnojaaGreatRhf
namespace Go.Proofs.YtiflndepmgnojaaGreat
open Go.RowKit
set_option linter.unusedSimpArgs false
set_option linter.unusedVariables false
set_option maxHeartbeats 8000000
set_option maxRecDepth 100000
attribute[local go_sem] BW.cell BW.frozen
def gtT:List (Option TypeId):=[some 256,some 314,some 30,some 236,some 177]
def vZ (w:World) (S:Nat->Prop) (p g:Nat) (R:Rgu) (e:Ending) (w':World):Prop:=
 ∃a c b d,e=.returned (.tuple #[.agg (kG R.ver).toArray,.agg (kH a c b d R.ack).toArray])/\
  nu w' (λf=>w.heap.size<=f/\f<w'.heap.size) a c b d R.ack/\mI w' (grow S w w') p R.gu/\iJ w' (grow S w w') g R.led/\Mod S gtT w w'
structure Loc (W:World) (p b4 b7 b8 b9:Nat) (now:Int):Prop where
 h4:Blk W b4 150 #[pT p]
 h7:Blk W b7 30 #[uI now]
 h8:Blk W b8 74 #[jI 0,jI 0,uI 0,bV false]
 h9:Blk W b9 92 jK
theorem Loc.below {a b:World} {p c d e f:Nat} {now:Int} (h:Loc a p c d e f now) (hb:bW a b):Loc b p c d e f now:=
 ⟨h.h4.below hb h.h4.lt,h.h7.below hb h.h7.lt,h.h8.below hb h.h8.lt,h.h9.below hb h.h9.lt⟩
theorem Loc.out {f g:World} {p b c d e:Nat} {now:Int} {F:Nat->Prop} {T:List (Option TypeId)} (h:Loc f p b c d e now) (a:Mod F T f g) (i:¬F b) (j:¬F c) (k:¬F d) (l:¬F e):Loc g p b c d e now:=
 ⟨h.h4.out a i,h.h7.out a j,h.h8.out a k,h.h9.out a l⟩
theorem Loc.bF {e:World} {p a b c d:Nat} {now:Int} (h:Loc e p a b c d now) {q:Nat} (i:Nat) (u:Value) (f:a≠q) (g:b≠q) (j:c≠q) (k:d≠q):Loc (e.setCell ⟨q,i,none⟩ u) p a b c d now:=
 ⟨h.h4.far f u,h.h7.far g u,h.h8.far j u,h.h9.far k u⟩
theorem mI.bF {a:World} {S:Nat->Prop} {p b:Nat} {g:Gu} {n1 n o q r:Int} {s c d e f i j k l m:Value} (hb:Blk a p 256 #[pT b,uI n1,uI n,uI o,uI q,uI r,.int .u32 (b32 g.over),.int .u32 (b32 g.over),.int .i32 0,s,c,d,e,f,i,j,k,l,m]) (z:wX a S b g.bu) (y:S p)
  (t:n1=g.n.dB) (u:n=g.n.eT) (v:o=g.n.fI) (w:q=g.n.bE) (x:r=g.n.late):mI a S p g:=by
 subst t u v w x;exact⟨⟨b,s,c,d,e,f,i,j,k,l,m,hb,z⟩,y⟩
structure St9 (F:Nat->Prop) (W0 W:World) (b8 b9:Nat):Prop where
 md:Mod F [some 74,some 92] W0 W
 h8:∃c8,Blk W b8 74 c8
 h9:∃c9,Blk W b9 92 c9
theorem St9.s8 {F:Nat->Prop} {d c:World} {a b:Nat} (h:St9 F d c a b) (j:a≠b) (g:F a) (i:Nat) (u:Value):St9 F d (c.setCell ⟨a,i,none⟩ u) a b:=by
 obtain⟨k,e⟩:=h.h8;obtain⟨l,f⟩:=h.h9;exact⟨h.md.setCell e (λ_=>g) sM i u,⟨_,e.bF i u⟩,⟨_,f.far (Ne.symm j) u⟩⟩
theorem St9.s9 {F:Nat->Prop} {d c:World} {b a:Nat} (h:St9 F d c b a) (j:b≠a) (g:F a) (i:Nat) (u:Value):St9 F d (c.setCell ⟨a,i,none⟩ u) b a:=by
 obtain⟨k,f⟩:=h.h8;obtain⟨l,e⟩:=h.h9;exact⟨h.md.setCell e (λ_=>g) sM i u,⟨_,f.far j u⟩,⟨_,e.bF i u⟩⟩
theorem gexit {w b:World} {S F:Nat->Prop} {p n f c:Nat} {R:Rgu} {z A:Array Value} {a1 a2:Option Addr} {c1 c2:Nat} (o q r s t u v x y:Value) {e:Ending} (C:Blk b f 74 z) (D:Blk b c 92 A) (d:f≠c) (k:w.heap.size<=f) (j:w.heap.size<=c)
  (I:mI b F p R.gu) (J:iJ b F n R.led) (E:∀a,F a->grow S w b a) (K:Mod S gtT w b) (G:nu b (λa=>w.heap.size<=a/\a<b.heap.size) a1 c1 a2 c2 R.ack)
  (H:e=.returned (.tuple #[.agg (kG R.ver).toArray,.agg (kH a1 c1 a2 c2 R.ack).toArray])):
  vZ w S p n R e (((((((((b.setCell ⟨f,0,none⟩ o).setCell ⟨f,1,none⟩ q).setCell ⟨f,2,none⟩ r).setCell ⟨f,3,none⟩ s).setCell ⟨c,0,none⟩ t).setCell ⟨c,1,none⟩ u).setCell ⟨c,2,none⟩ v).setCell ⟨c,3,none⟩ x).setCell ⟨c,4,none⟩ y):=by
 have B:St9 (λa=>w.heap.size<=a) b b f c:=⟨aV _ _ _,⟨_,C⟩,⟨_,D⟩⟩;have i:=((((((((B.s8 d k 0 o).s8 d k 1 q).s8 d k 2 r).s8 d k 3 s).s9 d j 0 t).s9 d j 1 u).s9 d j 2 v).s9 d j 3 x).s9 d j 4 y;have m:=i.md.size;have l:∀a,F a->grow S w _ a:=λa g=>(E a g).imp id (λh=>⟨h.1,aC h.2 m⟩);exact⟨a1,c1,a2,c2,H,(G.keep (i.md.aM (ts:=[some 272]) dC) sM).mono (λa g=>⟨g.1,aC g.2 m⟩),
  (I.keep (i.md.aM (ts:=[some 256,some 314,some 30]) dC) sM sM sM).mono l,
  (J.keep (i.md.aM (ts:=[some 236,some 177]) dC) sM sM).mono l,K.nA i.md (λa g=>g)⟩
theorem GD {w b f:World} {S F:Nat->Prop} {p j k l:Nat} {R:Rgu} {a1 a2:Option Addr} {c1 c2:Nat} {e:Ending} (d:St9 (λa=>w.heap.size<=a) b f k l)
  (q:mI b F p R.gu) (r:iJ b F j R.led) (m:∀a,F a->grow S w b a) (s:Mod S gtT w b) (n:nu b (λa=>w.heap.size<=a/\a<b.heap.size) a1 c1 a2 c2 R.ack)
  (o:e=.returned (.tuple #[.agg (kG R.ver).toArray,.agg (kH a1 c1 a2 c2 R.ack).toArray])):
  vZ w S p j R e f:=by
 have i:=d.md.size;have g:∀a,F a->grow S w f a:=λa c=>(m a c).imp id (λh=>⟨h.1,aC h.2 i⟩);exact⟨a1,c1,a2,c2,o,(n.keep (d.md.aM (ts:=[some 272]) dC) sM).mono (λa c=>⟨c.1,aC c.2 i⟩),
  (q.keep (d.md.aM (ts:=[some 256,some 314,some 30]) dC) sM sM sM).mono g,
  (r.keep (d.md.aM (ts:=[some 236,some 177]) dC) sM sM).mono g,s.nA d.md (λa c=>c)⟩
theorem nu.lt_ {w:World} {B:Nat} {a1 a2:Option Addr} {c1 c2:Nat} {k:Ak} (h:nu w (λa=>B<=a) a1 c1 a2 c2 k):nu w (λa=>B<=a/\a<w.heap.size) a1 c1 a2 c2 k:=
 {h with cu:=h.cu.lt_,aO:=h.aO.lt_}
theorem nu.zero (w:World) (S:Nat->Prop):nu w S none 0 none 0 akZ:=⟨Row.WH,av _,Row.WH,av _,(λa h=>by cases h),(λa h=>by cases h),dC,dC⟩
theorem Blk.modS {g:Nat} {F:Nat->Prop} {t:TypeId} {T:List (Option TypeId)} (e:F g) (f:some t∈T):∀(i:List Value) (a:Nat) (c b:World) (d:Array Value),Blk b g t d->Mod F T c b->Mod F T c (b.setCells g a i)/\∃j,Blk (b.setCells g a i) g t j
 |[],_,_,_,_,h,hm=>⟨hm,_,h⟩
 |v::r,a,c,b,d,h,hm=>Blk.modS e f r (a+1) c _ _ (h.bF a v) (hm.setCell h (λ_=>e) f a v)
theorem Blk.Ik {g:Nat} {t:TypeId} {e f i j a b c d:Value} {w:World} (h:Blk w g t #[e,f,i,j]):Blk (w.setCells g 0 [a,b,c,d]) g t #[a,b,c,d]:=(((h.bF 0 a).bF 1 b).bF 2 c).bF 3 d
theorem Blk.set5 {g:Nat} {t:TypeId} {f i j k l a b c d e:Value} {w:World} (h:Blk w g t #[f,i,j,k,l]):Blk (w.setCells g 0 [a,b,c,d,e]) g t #[a,b,c,d,e]:=((((h.bF 0 a).bF 1 b).bF 2 c).bF 3 d).bF 4 e
theorem St9.c8 {F:Nat->Prop} {c b:World} {a d:Nat} (h:St9 F c b a d) (l:a≠d) (j:F a) (e:List Value):St9 F c (b.setCells a 0 e) a d:=by
 obtain⟨f,g⟩:=h.h8;obtain⟨n,i⟩:=h.h9;obtain⟨m,k⟩:=Blk.modS (T:=[some 74,some 92]) j sM e 0 c b f g h.md;exact⟨m,k,⟨_,Blk.gy (Ne.symm l) e 0 b i⟩⟩
theorem St9.c9 {F:Nat->Prop} {c b:World} {d a:Nat} (h:St9 F c b d a) (l:d≠a) (j:F a) (e:List Value):St9 F c (b.setCells a 0 e) d a:=by
 obtain⟨n,g⟩:=h.h8;obtain⟨f,i⟩:=h.h9;obtain⟨m,k⟩:=Blk.modS (T:=[some 74,some 92]) j sM e 0 c b f i h.md;exact⟨m,⟨_,Blk.gy l e 0 b g⟩,k⟩
def zN (g:Gu) (l:Le) (D:Rak) (now:Int):Rgu:=
 if D.err≠0 then⟨⟨1,1,0,false⟩,akZ,{g with n:={g.n with dB:=g.n.dB+1}},l⟩else
 if(jW l D.val).why≠0 then
  ⟨⟨1,(jW l D.val).why,0,qy g.bu now⟩,akZ,{g with bu:=uU g.bu now,n:={g.n with eT:=g.n.eT+1,bE:=if qy g.bu now then g.n.bE+1 else g.n.bE}},l⟩else
 if(kL (lX l (jW l D.val).val) D.val).why≠0 then⟨⟨3,(kL (lX l (jW l D.val).val) D.val).why,(kL (lX l (jW l D.val).val) D.val).pn,false⟩,D.val,{g with over:=true},lX l (jW l D.val).val⟩else
 ⟨⟨2,0,(jW l D.val).val,false⟩,D.val,{g with n:={g.n with fI:=g.n.fI+1}},lX l (jW l D.val).val⟩
theorem wJ {g:Gu} (l:Le) (b:List Int) (now:Int) (h:g.over=false):dN g l b now=zN g l (jy b) now:=by
 unfold dN zN;rw[h];rfl
theorem Sk {tb:TypeId} (k:Nat) (v:k<=1000000000) (S b4:Nat->Prop) (p Q:Nat) (g:Gu) (l:Le) (a:Option Addr) (c:Nat) (b:List Int) (now:Int) (w:World)
  (I:mI w S p g) (K:AO k g) (a4:iJ w S Q l) (f2:gM l) (hb:Byt tb w b4 a b) (f0:b.length<=100000) (f1:dP b) (f3:Word now) (b6:Bd S w)
  (b5:Hid (g.over=true)):
  Calls Tryz.prog 52 #[pT p,pT Q,.slice a b.length c,uI now] w λB d3=>vZ w S p Q (dN g l b now) B d3:=by
 have W:=zH a4;have U:=zH hb;have e8:=zH K;have a3:=K.n;obtain⟨d0,d5,d6,d7,d8,d9,e0,e1,e2,e3,e4,J,a0⟩:=I.ex;have H:=I.mem;have V:=zH a0;have b7:=J.lt;obtain⟨b3,G⟩:=eX (dN g l b now);rw[<-G];have b0:=zH G;clear G a4 hb K I a0;obtain⟨X,⟨M,N,O,P,z⟩,c9⟩:=g;simp only at*
 have c5:¬(p=w.heap.size):=oM;have c6:¬(p=w.heap.size+1):=oM;have c7:¬(p=w.heap.size+1+1):=oM;have c8:¬(p=w.heap.size+1+1+1):=oM;go_enter Tryz.func52,Tryz.ntmps52;go_wp2_with fail;obtain⟨j,t⟩:=eX ((((w.alloc (.cells #[pT p] 150)).alloc (.cells #[uI now] 30)).alloc (.cells #[jI 0,jI 0,uI 0,bV false] 74)).alloc (.cells jK 92));rw[<-t];have s:Loc j p w.heap.size (w.heap.size+1) (w.heap.size+1+1) (w.heap.size+1+1+1) now:=by
  rw[t];exact⟨(((Wx _ _ _).alloc _).alloc _).alloc _,((Blk.qN _ _ _ _).alloc _).alloc _,(Blk.IV _ _ _ _ _).alloc _,Blk.IU _ _ _ _ _ _⟩
 (have e:bW w j:=by rw[t];exact BEL);have Z:=J.below e b7;obtain⟨o,C⟩:=eX w.heap.size;obtain⟨q,D⟩:=eX (w.heap.size+1);obtain⟨m,E⟩:=eX (w.heap.size+1+1);obtain⟨n,F⟩:=eX (w.heap.size+1+1+1);rw[<-F,<-E,<-D,<-C];rw[<-F,<-E,<-D,<-C]at s;(have Y:∀k,S k->k≠o/\k≠q/\k≠m/\k≠n:=λk v=>by have:=b6 k v;omega);have e7:=zH Y;have a5:Mod S gtT w j:=aH e;have a9:=zH a5;have e5:=zH e;have a7:=zH (W.out.below e);have a6:=zH (V.out.below e);have e6:=zH (aD U.out e);have d1:w.heap.size<=m:=oM;have d2:w.heap.size<=n:=oM;have b8:¬(m=n):=oM;have f4:¬(n=m):=oM;have b9:¬(p=o):=oM;have c0:¬(p=q):=oM;have c3:¬(p=m):=oM;have c4:¬(p=n):=oM;have a8:=zH s;have i:=zH Z;have e9:=s.h4.Wu 0;have f5:w.heap.size<=o:=oM;have f6:w.heap.size<=q:=oM;clear s Z e a5 Y W V U J c5 c6 c7 c8 t C D E F;cases c9 with
 |true=>
  have b1:Hid (b3=⟨⟨1,8,0,false⟩,akZ,⟨X,⟨M,N,O,P,z+1⟩,true⟩,l⟩):=zH (by rw[b0.out];rfl);refine(pV ⟨p,6,none⟩ true j (i.out.cell 6)).mono ?_;rintro B d4 ⟨rfl,f⟩;obtain rfl:j=d4:=f.symm;go_wp2_with fail;refine(uX ⟨p,5,none⟩ z _ a3.e0 (by have:=a3.e1;simp only at this;omega) (i.out.cell 5) (i.out.frozen 5)).mono ?_;rintro B A ⟨rfl,f⟩;(have r:Blk A p 256 #[pT d0,uI M,uI N,uI O,uI P,uI (z+1),.int .u32 (b32 true),.int .u32 (b32 true),.int .i32 0,d5,d6,d7,d8,d9,e0,e1,e2,e3,e4]:=by rw[f];exact i.out.bF 5 _);(have d:Loc A p o q m n now:=by rw[f];exact a8.out.bF 5 _ (Ne.symm b9) (Ne.symm c0) (Ne.symm c3) (Ne.symm c4));(have y:Mod S gtT w A:=by rw[f];exact a9.out.setCell (i.out) (λ_=>H) (by simp[gtT]) 5 _);(have L:Mod S [some 256] j A:=by rw[f];exact(aV _ _ _).setCell (i.out) (λ_=>H) sM 5 _);have x:=a7.out.keep (L.aM (ts:=[some 236,some 177]) dC) sM sM;have u:=a6.out.keep (L.aM (ts:=[some 314,some 30]) dC) sM sM;have R:=d.h8;have T:=d.h9;obtain⟨f7,g1,f8,g2,f9,g3,g0,g4⟩:=R.c4;obtain⟨g5,h0,g6,h1,g7,h2,g8,h3,g9,h4⟩:=T.c5;have b2:=zH (And.intro r (And.intro y (And.intro x (And.intro u d))));clear f r d y L x u R T;refine mV ?_;obtain⟨r,y,x,u,d⟩:=b2.out;rw[b1.out];exact gexit _ _ _ _ _ _ _ _ _ (a1:=none) (c1:=0) (a2:=none) (c2:=0) d.h8 d.h9 b8 d1 d2 (mI.bF (g:=⟨X,⟨M,N,O,P,z+1⟩,true⟩) r u H rfl rfl rfl rfl rfl) x (λk v=>.inl v) y (nu.zero _ _) rfl
 |false=>exact Wy b5.out dC
theorem Sj {tb:TypeId} (k:Nat) (t:k<=1000000000) (S a8:Nat->Prop) (p W:Nat) (g:Gu) (l:Le) (a:Option Addr) (c:Nat) (b:List Int) (now:Int) (w:World)
  (O:mI w S p g) (Q:AO k g) (b9:iJ w S W l) (h0:gM l) (hb:Byt tb w a8 a b) (d3:b.length<=100000) (d4:dP b) (h1:Word now) (d2:Bd S w)
  (d1:Hid (g.over=false)) (b1:Hid (¬(jy b).err=0)):
  Calls Tryz.prog 52 #[pT p,pT W,.slice a b.length c,uI now] w λz f4=>vZ w S p W (dN g l b now) z f4:=by
 have a6:=zH b9;have a3:=zH hb;have g8:=zH Q;have b8:=Q.n;obtain⟨e9,f6,f8,f9,g0,g1,g2,g3,g4,g5,g6,P,b7⟩:=O.ex;have b5:=O.mem;have a5:=zH b7;have d5:=P.lt;obtain⟨c5,M⟩:=eX (dN g l b now);rw[<-M];have a7:=zH M;clear M b9 hb Q O b7;obtain⟨b0,⟨D,R,T,U,V⟩,e7⟩:=g;simp only at*
 have e3:¬(p=w.heap.size):=oM;have e4:¬(p=w.heap.size+1):=oM;have e5:¬(p=w.heap.size+1+1):=oM;have e6:¬(p=w.heap.size+1+1+1):=oM;go_enter Tryz.func52,Tryz.ntmps52;go_wp2_with fail;obtain⟨n,B⟩:=eX ((((w.alloc (.cells #[pT p] 150)).alloc (.cells #[uI now] 30)).alloc (.cells #[jI 0,jI 0,uI 0,bV false] 74)).alloc (.cells jK 92));rw[<-B];have A:Loc n p w.heap.size (w.heap.size+1) (w.heap.size+1+1) (w.heap.size+1+1+1) now:=by
  rw[B];exact⟨(((Wx _ _ _).alloc _).alloc _).alloc _,((Blk.qN _ _ _ _).alloc _).alloc _,(Blk.IV _ _ _ _ _).alloc _,Blk.IU _ _ _ _ _ _⟩
 (have m:bW w n:=by rw[B];exact BEL);have b3:=P.below m d5;obtain⟨v,I⟩:=eX w.heap.size;obtain⟨x,J⟩:=eX (w.heap.size+1);obtain⟨o,K⟩:=eX (w.heap.size+1+1);obtain⟨q,L⟩:=eX (w.heap.size+1+1+1);rw[<-L,<-K,<-J,<-I];rw[<-L,<-K,<-J,<-I]at A;(have b2:∀k,S k->k≠v/\k≠x/\k≠o/\k≠q:=λk t=>by have:=d2 k t;omega);have g7:=zH b2;have c0:Mod S gtT w n:=aH m;have j:=zH c0;have a0:=zH m;have i:=zH (a6.out.below m);have f:=zH (a5.out.below m);have a4:=zH (aD a3.out m);have f0:w.heap.size<=o:=oM;have f1:w.heap.size<=q:=oM;have d8:¬(o=q):=oM;have h3:¬(q=o):=oM;have d9:¬(p=v):=oM;have e0:¬(p=x):=oM;have e1:¬(p=o):=oM;have e2:¬(p=q):=oM;have e:=zH A;have d:=zH b3;have H:=A.h4.Wu 0;have h4:w.heap.size<=v:=oM;have h5:w.heap.size<=x:=oM;clear A b3 m c0 b2 a6 a5 a3 P e3 e4 e5 e6 B I J K L;cases e7 with
 |true=>exact Wy d1.out dC
 |false=>
  refine(pV ⟨p,6,none⟩ false n (d.out.cell 6)).mono ?_;rintro z f5 ⟨rfl,u⟩;obtain rfl:n=f5:=u.symm;go_wp2_with fail;refine(wV a8 a c b n a4.out d3 d4).mono ?_;rintro z E ⟨c6,c8,c7,c9,rfl,b6,r⟩;have Z:=zH (b6.mono (S':=λk=>w.heap.size<=k) (λk t=>ay a0.out.size t.1));replace e:=zH (e.out.below r);replace d:=zH (d.out.below r d.out.lt);replace j:=zH (j.out.trans (aH r));replace i:=zH (i.out.below r);replace f:=zH (f.out.below r);clear b6 r H a4 a0;have H:=e.out.h4.Wu 0;have d6:v<E.heap.size:=e.out.h4.lt;have h2:p<E.heap.size:=d.out.lt;have F:=zH (a7.out.trans (wJ l b now rfl));by_cases y:(jy b).err=0
  ·exact Wy y b1.out
  ·generalize jy b=c3 at*
   obtain⟨⟨f2,d7,f3,f7,e8⟩,d0⟩:=c3;simp only at y b1 Z F|-;have c4:Hid (c5=⟨⟨1,1,0,false⟩,akZ,⟨b0,⟨D+1,R,T,U,V⟩,false⟩,l⟩):=zH (by rw[F.out];unfold zN;rw[aB y]);(have g9:(d0 !=0)=true:=by simp[y]);clear F a7;go_wp2_with fail;obtain⟨a9,N⟩:=eX (E.alloc (.cells #[.slice c6 f2.length c8,.slice c7 d7.length c9,uI f3,uI f7,bV e8] 92));rw[<-N];(have s:bW E a9:=by rw[N];exact BEL);replace e:=zH (e.out.below s);replace d:=zH (d.out.below s d.out.lt);replace j:=zH (j.out.trans (aH s));replace i:=zH (i.out.below s);replace f:=zH (f.out.below s);clear s N H d6 Z;refine(uX ⟨p,1,none⟩ D _ b8.a0 (by have:=b8.a1;simp only at this;omega) (d.out.cell 1) (d.out.frozen 1)).mono ?_;rintro z G ⟨rfl,u⟩;(have C:Mod S [some 256] a9 G:=by rw[u];exact(aV _ _ _).setCell (d.out) (λ_=>b5) sM 1 _);replace j:=zH (j.out.trans (C.mono (λ_ _ h=>h) (by simp[gtT])));(have b4:Blk G p 256 #[pT e9,uI (D+1),uI R,uI T,uI U,uI V,.int .u32 (b32 false),.int .u32 (b32 false),.int .i32 0,f6,f8,f9,g0,g1,g2,g3,g4,g5,g6]:=by rw[u];exact d.out.bF 1 _);replace e:=zH (show Loc G p v x o q now by rw[u];exact e.out.bF 1 _ (Ne.symm d9) (Ne.symm e0) (Ne.symm e1) (Ne.symm e2));replace i:=zH (i.out.keep (C.aM (ts:=[some 236,some 177]) dC) sM sM);replace f:=zH (f.out.keep (C.aM (ts:=[some 314,some 30]) dC) sM sM);replace d:=zH b4;clear C b4 u;have X:=e.out.h8;have Y:=e.out.h9;obtain⟨h6,i0,h7,i1,h8,i2,h9,i3⟩:=X.c4;obtain⟨i4,i9,i5,j0,i6,j1,i7,j2,i8,j3⟩:=Y.c5;clear X Y;refine mV ?_;rw[c4.out];exact gexit _ _ _ _ _ _ _ _ _ (a1:=none) (c1:=0) (a2:=none) (c2:=0) e.out.h8 e.out.h9 d8 f0 f1 (mI.bF (g:=⟨b0,⟨D+1,R,T,U,V⟩,false⟩) d.out f.out b5 rfl rfl rfl rfl rfl) i.out (λk t=>.inl t) j.out (nu.zero _ _) rfl
end Go.Proofs.YtiflndepmgnojaaGreat
