import Derived.Great.BuildSlice
import Derived.Test.YtiflndepmgnojaaGreatOff
import Derived.Test.YtiflndepmgnojaaGreatInv
namespace Go.Proofs.YtiflndepmgnojaaGreat
open Go.RowKit Tryz
set_option linter.unusedSimpArgs false
set_option linter.unusedVariables false
set_option maxHeartbeats 8000000
set_option maxRecDepth 100000
variable {b c n p:Nat} {e t:TypeId} {w w' W:World} {l:List Int} {C:Array Value} {K:Act->World->Prop} {O:List Oper}
attribute[local go_sem] BW.cell BW.frozen
def spV (s:Sp):List Value:=[uI s.lo,uI s.hi]
def spVs (l:List Sp):List Value:=l.flatMap spV
structure SpW (s:Sp):Prop where
 lo:Word s.lo
 hi:Word s.hi
def Sps (w:World) (S:X4) (a:X5) (l:List Sp):Prop:=Row w S 272 2 a l.length (spVs l)
theorem Sps.at_ {S:X4} {a:X5} {l:List Sp} {j:Nat} (h:Sps w S a l) (hb:bW w w') (r:j<l.length):
  ∃b d,a=some ⟨b,d,none⟩/\b<w.heap.size/\w'.cell? ⟨b,d+j*2,none⟩=some (uI l[j].lo)/\w'.cell? ⟨b,d+j*2+1,none⟩=some (uI l[j].hi):=by
 obtain⟨b,d,n,t,k,e⟩:=Row.at_ h oM;have q:=λc e=>mr (f:=spV) (m:=2) (λ_=>rfl) l j c r e;have i:∀c g,c<2->(spV l[j])[c]?=some g->w'.cell? ⟨b,d+j*2+c,none⟩=some g:=λc g o s=>by
  rw[Nat.add_assoc];exact(hb.cell (p:=⟨b,d+(j*2+c),none⟩) k).trans (e _ _ ((q c o).trans s))
 exact⟨b,d,n,k,i 0 _ oM rfl,i 1 _ oM rfl⟩
theorem zG (s:Sp) (w:World):
  Yk 212 #[.agg #[uI s.lo,uI s.hi]] w λe f=>e=.returned (bV (jf s))/\bW w f:=by
 obtain⟨b,a⟩:=s;by_cases c:b<=a
 .go_enter Tryz.func212,Tryz.ntmps212
  go_wp2;go_ret;exact⟨eF (by unfold jf;simp[c]),BEL⟩
 .have d:decide (b<=a)=false:=sO
  go_enter Tryz.func212,Tryz.ntmps212;go_wp2;go_ret;exact⟨eF (by unfold jf;simp[d]),BEL⟩
theorem Ar (p:Option Int) (s:Sp) (t:List Sp):oh p (s::t)=(jf s&&(match p with|none=>true|some h=> !decide (s.lo<=h+1))&&oh (some s.hi) t):=rfl
def uj (l:List Sp) (j:Nat):Option Int:=if j=0 then none else(l[j -1]?).map (·.hi)
theorem IA {l:List Sp} {j:Nat} (h:j<l.length):uj l (j+1)=some l[j].hi:=by unfold uj;simp[h]
theorem qw (S:X4) (a:X5) (c:Nat) (l:List Sp) (w:World) (h:Sps w S a l) (a9:l.length<=9223372036854775807) (P:∀e∈l,SpW e):
  Yk 211 #[.slice a l.length c] w λQ X=>Q=.returned (bV (iR l))/\bW w X:=by
 obtain⟨F,G⟩:=yx h P;clear h P;go_enter Tryz.func211,Tryz.ntmps211;go_wp2;go_loopw [7] (λz wr=>∃(b:Nat),b<=l.length/\z=jI b/\X3 (oh (uj l b) (l.drop b)=iR l)/\(0<b->(l[b -1]?.map (·.hi)).getD 0<=4611686018427387903)/\X3 (bW w wr)) (λz _=>l.length -(intOf z).toNat);(case atStart=>exact⟨0,oM,rfl,rfl,λh=>by omega,aj _ _⟩);case round=>
  obtain⟨b,a8,rfl,E,m,f⟩:=hrel;have r:=f.o.size;by_cases o:b<l.length
  .obtain⟨H,b3,rfl,a5,b1,b2⟩:=F.o.at_ f.o o
   have d:=E.o;rw[aR o,Ar]at d;have M:=IA o;have q:=G.o _ (aN o);obtain⟨b9,c0,c1,c2⟩:=Ju q.lo.1 q.lo.2 q.hi.1 q.hi.2;have k:=zH (zG l[b]);have D:X3 (uj l (b+1)=some l[b].hi):=zH M;have C:X3 ((l[b+1 -1]?.map (·.hi)).getD 0=l[b].hi):=zH (by simp[o]);clear M q;by_cases i:jf l[b]=true
   .rw[i]at d k
    (have L:l[b].hi<=4611686018427387903:=by unfold jf at i;simp at i;exact i.2);clear i;by_cases s:b=0
    .have U:decide (0<(b:Int))=false:=sO
     have V:decide (0<b)=false:=sO;(have p:uj l b=none:=by unfold uj;rw[aB s]);rw[p]at d;simp only[Bool.true_and]at d;rw[<-D.o]at d;have u:=zH d;clear d p s m;generalize l[b]=e at*
     obtain⟨A,x⟩:=e;simp only at*
     go_wp2;refine fq kR kR ?_;(repeat (go_big_quiet_step ((go_at_call 212;exact bU _ (k.o _)))));refine aK ?_;refine bwI ?_;intro B g;go_wp2;go_roundw;(case rel=>exact⟨b+1,oM,by go_num,u,λ_=>by rw[C.o];exact L,(f.o.alloc r _).trans (g.mono sO)⟩);case measure=>exact Yl
    .have U:decide (0<(b:Int))=true:=sO
     have V:decide (0<b)=true:=sO;have W:0<b:=oM;have m:=m W;obtain⟨Z,b4,v,_,b7,b8⟩:=F.o.at_ f.o (j:=b -1) oM;injection v with v;injection v with R T;subst R T;(have p:uj l b=some l[b -1].hi:=by unfold uj;rw[Ww s];simp[show b -1<l.length by omega]);(have N:(l[b -1]?.map (·.hi)).getD 0=l[b -1].hi:=by simp[show b -1<l.length by omega]);rw[N]at m;rw[p]at d;have b5:=(G.o _ (aN (show b -1<l.length by omega))).hi.1;generalize l[b -1].hi=t at*
     generalize l[b -1].lo=b6 at*
     have I:(b:Int) -1=((b -1:Nat):Int):=oM;have a0:(0:Int)<=(b:Int) -1:=oM;have a1:(b:Int) -1<(l.length:Int):=oM;have a2:((b:Int) -1).toNat=b -1:=oM;have a3:IntKind.i64.wrap ((b:Int) -1)=(b:Int) -1:=eP _ oM;have a4:IntKind.u64.wrap (t+1)=t+1:=Wz _ oM;have Y:=zH I;have a6:H<wr.heap.size:=oM;have a7:H<wr.heap.size+1:=oM;clear p s N I;by_cases y:l[b].lo<=t+1
     .have K:iR l=false:=by rw[<-d];simp[y]
      have n:=zH K;clear d K;generalize l[b]=e at*
      obtain⟨A,x⟩:=e;simp only at*
      go_wp2;refine fq kR kR ?_;(repeat (go_big_quiet_step ((go_at_call 212;exact bU _ (k.o _)))));refine aK ?_;refine bwI ?_;intro B g;go_wp2;go_ret;exact⟨eF n.o.symm,(f.o.alloc r _).trans (g.mono sO)⟩
     .have J:oh (uj l (b+1)) (l.drop (b+1))=iR l:=by rw[D.o,<-d];simp[y]
      have b0:decide (l[b].lo<=t+1)=false:=sO;have u:=zH J;clear d J y;generalize l[b]=e at*
      obtain⟨A,x⟩:=e;simp only at*
      go_wp2;refine fq kR kR ?_;(repeat (go_big_quiet_step ((go_at_call 212;exact bU _ (k.o _)))));refine aK ?_;refine bwI ?_;intro B g;go_wp2;go_roundw;(case rel=>exact⟨b+1,oM,by go_num,u,λ_=>by rw[C.o];exact L,(f.o.alloc r _).trans (g.mono sO)⟩);case measure=>exact Yl
   .have O:jf l[b]=false:=by simpa using i
    rw[O]at d k;simp only[Bool.false_and]at d;have n:=zH d.symm;clear d i O m;generalize l[b]=e at*
    obtain⟨A,x⟩:=e;simp only at*
    go_wp2;refine fq kR kR ?_;(repeat (go_big_quiet_step ((go_at_call 212;exact bU _ (k.o _)))));refine aK ?_;refine bwI ?_;intro B g;go_wp2;go_ret;exact⟨eF n.o.symm,(f.o.alloc r _).trans (g.mono sO)⟩
  .obtain rfl:b=l.length:=oM
   have d:=E.o;rw[List.drop_length]at d;have n:X3 (iR l=true):=zH d.symm;clear d m;go_wp2;go_ret;exact⟨eF n.o.symm,f.o⟩
theorem iP:Elem prog 90 272 2 16 spV:=
 ⟨Tryz.underlying90,by
  obtain⟨a,c,d,e,f⟩:=info_parts (show(prog.info? 272).map (λa=>(a.zero,a.size,a.bytes))=some (some (.agg #[uI 0,uI 0]),2,16) by kernel_rfl);exact⟨a,_,c,d,e,f,rfl⟩,dC,λ_=>rfl,λi g b=>by simp[spV]at b;rcases b with rfl|rfl<;>rfl⟩
theorem CX (x:Sp) (t:List Sp) (n:Int):dI (x::t) n=(nV n x||dI t n):=rfl
theorem yZ (S:X4) (a:X5) (c:Nat) (l:List Sp) (n:Int) (w:World) (h:Sps w S a l) (D:l.length<=9223372036854775807) (z:∀s∈l,SpW s):
  Yk 156 #[.slice a l.length c,uI n] w λC G=>C=.returned (bV (oQ l n))/\bW w G:=by
 obtain⟨k,B⟩:=yx (qw S a c l w h D z) h;clear h z;by_cases g:iR l=true
 .rw[g]at k
  (have i:oQ l n=dI l n:=by unfold oQ;rw[g];rfl);rw[i];clear g i;go_enter Tryz.func156,Tryz.ntmps156;go_wp2_with fail;refine Yd k.o ?_;intro H f;have j:=zH f;clear f;go_wp2;go_loopw [12] (λr wr=>∃(d:Nat),d<=l.length/\r=jI d/\X3 (dI (l.drop d) n=dI l n)/\X3 (bW w wr)) (λr _=>l.length -(intOf r).toNat);(case atStart=>exact⟨0,oM,rfl,rfl,j⟩);case round=>
   obtain⟨d,M,rfl,t,e⟩:=hrel;have q:=e.o.size;clear j;by_cases y:d<l.length
   .obtain⟨I,N,rfl,L,E,F⟩:=B.o.at_ e.o y
    have b:=t.o;rw[aR y,CX]at b;generalize l[d]=s at*
    obtain⟨A,x⟩:=s;simp only at E F;by_cases u:A<=n
    .by_cases v:n<=x
     .have o:X3 (dI l n=true):=zH (by rw[<-b];simp[nV,u,v])
      clear b;go_wp2;go_ret;exact⟨eF o.o.symm,e.o.alloc q _⟩
     .have K:decide (n<=x)=false:=sO
      have m:X3 (dI (l.drop (d+1)) n=dI l n):=zH (by rw[<-b];simp[nV,v]);clear b;go_wp2;go_roundw;(case rel=>exact⟨d+1,oM,by go_num,m,e.o.alloc q _⟩);case measure=>exact Yl
    .have J:decide (A<=n)=false:=sO
     have m:X3 (dI (l.drop (d+1)) n=dI l n):=zH (by rw[<-b];simp[nV,u]);clear b;go_wp2;go_roundw;(case rel=>exact⟨d+1,oM,by go_num,m,e.o.alloc q _⟩);case measure=>exact Yl
   .obtain rfl:d=l.length:=oM
    have b:=t.o;rw[List.drop_length]at b;have o:X3 (dI l n=false):=zH b.symm;clear b;go_wp2;go_ret;exact⟨eF o.o.symm,e.o⟩
 .have p:iR l=false:=by simpa using g
  rw[p]at k;(have i:oQ l n=false:=by unfold oQ;rw[p];rfl);rw[i];clear g p i;go_enter Tryz.func156,Tryz.ntmps156;go_wp2_with fail;refine Yd k.o ?_;intro H f;have j:=zH f;clear f;go_wp2;go_ret;exact⟨rfl,j.o⟩
theorem kQ {g:Nat} {lo a:Int} (h:Blk w g 272 #[uI lo,uI a]):Row w (λb=>b=g) 272 2 (some ⟨g,0,none⟩) [(⟨lo,a⟩:Sp)].length ([(⟨lo,a⟩:Sp)].flatMap spV):=iP.single _ h rfl
theorem yM {size n c m:Nat} {a:X5} {xs:List Value} (h:w.ownsRow b e size (.slice a n c) m xs):n<=c:=by
 rcases h.2 with⟨d,l⟩|⟨k,g,i,d,_,_,o,_⟩
 .injection d with _ f _;omega
 .injection d with _ f j;omega
theorem AV (S:X4) (a:X5) (c:Nat) (l:List Sp) (s:Sp) (w:World) (h:Sps w S a l) (i3:l.length<=1000000000) (a9:∀s∈l,SpW s) (f0:SpW s):
  Yk 201 #[.slice a l.length c,.agg #[uI s.lo,uI s.hi]] w λR O=>∃a5 a6,R=.returned (.tuple #[.slice a5 (jh l s).length a6,bV (iR l&&jf s)])/\(jh l s).length<=a6/\Sps O (λb1=>w.heap.size<=b1/\b1<O.heap.size) a5 (jh l s)/\bW w O:=by
 obtain⟨L,d5,X,d6⟩:=Bq (λO (e7:bW w O)=>qw S a c l O (h.below e7) oM a9) h (zG s) a9;clear h a9;obtain⟨d,b⟩:=s;obtain⟨⟨g0,g1⟩,⟨g2,g3⟩⟩:=f0;simp only at g0 g1 g2 g3;by_cases x:iR l=true
 .by_cases G:jf ⟨d,b⟩=true
  .rw[x]at L
   rw[G]at X;(have I:jh l ⟨d,b⟩=l.flatMap (ji ⟨d,b⟩):=by unfold jh;rw[x,G];rfl);rw[x,G,I];(have i4:b<=4611686018427387903:=by unfold jf at G;simp at G;exact G.2);clear x G I;go_enter Tryz.func201,Tryz.ntmps201;go_wp2_with fail;refine Yd (L.o _ BEL) ?_;intro y o;have a3:X3 (Below (w.alloc (.cells #[uI d,uI b] 272)).heap.size (w.alloc (.cells #[uI d,uI b] 272)) y):=o;have b4:=o.cell (p:=⟨w.heap.size,0,none⟩) sM;have b5:=o.cell (p:=⟨w.heap.size,1,none⟩) sM;simp[go_sem]at b4 b5;(have c7:w.heap.size<y.heap.size:=by have:=o.size;simp at this;omega);clear o;go_wp2_with fail;refine Yd (X.o _) ?_;intro c8 T;have V:X3 (Below (w.alloc (.cells #[uI d,uI b] 272)).heap.size (w.alloc (.cells #[uI d,uI b] 272)) c8):=zH (a3.o.trans (T.mono a3.o.size));clear T b4 b5 c7 a3;go_wp2_with fail;generalize Z:w.alloc (.cells #[uI d,uI b] 272)=i at*
   (have c4:bW w i:=by rw[<-Z];exact BEL);(have c2:i.heap.size=w.heap.size+1:=by rw[<-Z];simp);(have c0:Blk i w.heap.size 272 #[uI d,uI b]:=by rw[<-Z];exact Wx _ _ _);obtain⟨a4,d1,h5⟩:=Av c0 c4 c2;have a2:w.heap.size<i.heap.size:=oM;clear Z c0 c4 c2;go_loopw [6,19] (λg4 b0 wr=>∃(g:Nat) (e:List Sp) (u:X5) (v:Nat),g<=l.length/\b0=jI g/\g4=.slice u e.length v/\e.length<=2*g/\
    X3 (wr.ownsRow i.heap.size 272 2 (.slice u e.length v) e.length (e.flatMap spV))/\X3 (e++(l.drop g).flatMap (ji ⟨d,b⟩)=l.flatMap (ji ⟨d,b⟩))/\X3 (bW i wr)) (λ_ b0 _=>l.length -(intOf b0).toNat)
   (case atStart=>exact⟨0,[],none,0,oM,rfl,rfl,sM,iq _ _ _ _,rfl,V⟩);case round=>
    obtain⟨g,e,u,v,i2,rfl,rfl,i0,P,b8,A⟩:=hrel;clear V;have N:=A.o.size;have b6:X3 (Blk wr w.heap.size 272 #[uI d,uI b]):=zH (a4.o.below A.o a2);obtain⟨b4,b5⟩:=b6.o.e2 0 1;have c7:w.heap.size<wr.heap.size:=oM;have a7:=d1.o.trans (A.o.mono (fO a2));by_cases a8:g<l.length
    .obtain⟨h6,i5,rfl,M,f8,f9⟩:=d5.o.at_ a7 a8
     have K:=b8.o;rw[aR a8,List.flatMap_cons]at K;have J:=zH K;have U:=d6.o _ (aN a8);obtain⟨g7,g8,g9,h0⟩:=Ju U.lo.1 U.lo.2 U.hi.1 U.hi.2;clear K a7 U;generalize l[g]=g6 at*
     obtain⟨j,f⟩:=g6;simp only at f8 f9 g7 g8 g9 h0;have c1:∀(b2 b3:Obj),((wr.alloc b2).alloc b3).ownsRow i.heap.size 272 2 (.slice u e.length v) e.length (e.flatMap spV):=λb2 b3=>(P.o.alloc b2).alloc b3;obtain⟨t,b7⟩:=yx c1 (zI P.o);clear c1;by_cases b9:f<d
     .go_wp2_with (at_builtin;refine iP.wpList rfl (.tmp 35) (.tmp 37) rfl i.heap.size u v (e) (by rfl) (t.o _ _) (some ⟨wr.heap.size+1,0,none⟩) 1 [⟨j,f⟩] (by rfl) (kQ (Blk.qN _ _ _ _)) sO dC sO ?_;intro z D q n m)
      have k:bW i q:=((A.o.alloc N _).alloc sO _).grown m sO (jM (t.o (.cells #[] 0) (.cells #[] 0)));have C:X3 ((e++[⟨j,f⟩])++(l.drop (g+1)).flatMap (ji ⟨d,b⟩)=l.flatMap (ji ⟨d,b⟩)):=zH (by have:=J.o;simpa[ji,b9]using this);obtain⟨r,B⟩:=yx n k;clear n k m;go_wp2;go_roundw;(case rel=>exact⟨g+1,_,z,D,oM,by go_num,sM,by simp only[aU,bO];omega,r,C,B⟩);case measure=>exact Yl
     .by_cases e2:b<j
      .have e1:decide (f<d)=false:=sO
       go_wp2_with (at_builtin;refine iP.wpList rfl (.tmp 35) (.tmp 37) rfl i.heap.size u v (e) (by rfl) (t.o _ _) (some ⟨wr.heap.size+1,0,none⟩) 1 [⟨j,f⟩] (by rfl) (kQ (Blk.qN _ _ _ _)) sO dC sO ?_;intro z D q n m);have k:bW i q:=((A.o.alloc N _).alloc sO _).grown m sO (jM (t.o (.cells #[] 0) (.cells #[] 0)));have C:X3 ((e++[⟨j,f⟩])++(l.drop (g+1)).flatMap (ji ⟨d,b⟩)=l.flatMap (ji ⟨d,b⟩)):=zH (by have:=J.o;simpa[ji,b9,e2]using this);obtain⟨r,B⟩:=yx n k;clear n k m;go_wp2;go_roundw;(case rel=>exact⟨g+1,_,z,D,oM,by go_num,sM,by simp only[aU,bO];omega,r,C,B⟩);case measure=>exact Yl
      .have e1:decide (f<d)=false:=sO
       have h7:decide (b<j)=false:=sO;by_cases Y:j<d
       .by_cases Q:b<f
        .have h4:=J
         go_wp2_with (first|(at_builtin;refine iP.wpList rfl (.tmp 58) (.tmp 65) rfl i.heap.size z D (e++[⟨j,d -1⟩]) (by first|rfl|simp[Act.eval]) (r.o.alloc _) (some ⟨q.heap.size,0,none⟩) 1 [⟨(b+1),f⟩] (by rfl) (kQ (Wx _ _ _)) sO dC sO ?_;intro c9 e3 g5 c6 c5)|(at_builtin;refine iP.wpList rfl (.tmp 44) (.tmp 51) rfl i.heap.size u v (e) (by rfl) (t.o _ _) (some ⟨wr.heap.size+1,0,none⟩) 1 [⟨j,(d -1)⟩] (by rfl) (kQ (Blk.qN _ _ _ _)) sO dC sO ?_;intro z D q n m;have k:bW i q:=((A.o.alloc N _).alloc sO _).grown m sO (jM (t.o (.cells #[] 0) (.cells #[] 0)));have F:Blk q wr.heap.size 272 #[uI j,uI f]:=((Wx wr _ _).alloc _).grown m (λR=>by have:=b7.o wr.heap.size R.symm;omega);have h1:=F.Wu 0;have h2:=F.Wu 1;have h3:=F.lt;have E:=a4.o.below k a2;have d8:=E.Wu 0;have d9:=E.Wu 1;have e0:=E.lt;have r:=zH n;have B:=zH k;have f1:=k.size;clear n k m F E));have C:X3 (((e++[⟨j,d -1⟩])++[⟨b+1,f⟩])++(l.drop (g+1)).flatMap (ji ⟨d,b⟩)=l.flatMap (ji ⟨d,b⟩)):=zH (by have:=J.o;simpa[ji,(show¬(f<d\/b<j)from by omega),Y,Q]using this);have c3:bW i g5:=(B.o.alloc oM _).grown c5 sO (jM r.o);obtain⟨d4,d0⟩:=yx c6 c3;clear c6 c3 c5;go_wp2;go_roundw;(case rel=>exact⟨g+1,_,c9,e3,oM,by go_num,sM,by simp only[aU,bO];omega,d4,C,d0⟩);case measure=>exact Yl
        .have e4:decide (b<f)=false:=sO
         go_wp2_with (at_builtin;refine iP.wpList rfl (.tmp 44) (.tmp 51) rfl i.heap.size u v (e) (by rfl) (t.o _ _) (some ⟨wr.heap.size+1,0,none⟩) 1 [⟨j,(d -1)⟩] (by rfl) (kQ (Blk.qN _ _ _ _)) sO dC sO ?_;intro z D q n m;have k:bW i q:=((A.o.alloc N _).alloc sO _).grown m sO (jM (t.o (.cells #[] 0) (.cells #[] 0)));have F:Blk q wr.heap.size 272 #[uI j,uI f]:=((Wx wr _ _).alloc _).grown m (λR=>by have:=b7.o wr.heap.size R.symm;omega);have h1:=F.Wu 0;have h2:=F.Wu 1;have h3:=F.lt;have E:=a4.o.below k a2;have d8:=E.Wu 0;have d9:=E.Wu 1;have e0:=E.lt;have r:=zH n;have B:=zH k;have f1:=k.size;clear n k m F E);have C:X3 ((e++[⟨j,d -1⟩])++(l.drop (g+1)).flatMap (ji ⟨d,b⟩)=l.flatMap (ji ⟨d,b⟩)):=zH (by have:=J.o;simpa[ji,(show¬(f<d\/b<j)from by omega),Y,eq_false Q]using this);go_wp2;go_roundw;(case rel=>exact⟨g+1,_,z,D,oM,by go_num,sM,by simp only[aU,bO];omega,r,C,B⟩);case measure=>exact Yl
       .have h8:decide (j<d)=false:=sO
        by_cases Q:b<f
        .go_wp2_with (at_builtin;refine iP.wpList rfl (.tmp 58) (.tmp 65) rfl i.heap.size u v (e) (by rfl) (t.o _ _) (some ⟨wr.heap.size+1,0,none⟩) 1 [⟨(b+1),f⟩] (by rfl) (kQ (Blk.qN _ _ _ _)) sO dC sO ?_;intro z D q n m)
         have k:bW i q:=((A.o.alloc N _).alloc sO _).grown m sO (jM (t.o (.cells #[] 0) (.cells #[] 0)));have C:X3 ((e++[⟨b+1,f⟩])++(l.drop (g+1)).flatMap (ji ⟨d,b⟩)=l.flatMap (ji ⟨d,b⟩)):=zH (by have:=J.o;simpa[ji,(show¬(f<d\/b<j)from by omega),eq_false Y,Q]using this);obtain⟨r,B⟩:=yx n k;clear n k m;go_wp2;go_roundw;(case rel=>exact⟨g+1,_,z,D,oM,by go_num,sM,by simp only[aU,bO];omega,r,C,B⟩);case measure=>exact Yl
        .have e4:decide (b<f)=false:=sO
         have d2:X3 (e++(l.drop (g+1)).flatMap (ji ⟨d,b⟩)=l.flatMap (ji ⟨d,b⟩)):=zH (by have:=J.o;simpa[ji,(show¬(f<d\/b<j)from by omega),eq_false Y,eq_false Q]using this);go_wp2;go_roundw;(case rel=>exact⟨g+1,e,u,v,oM,by go_num,rfl,oM,P.o.alloc _,d2,A.o.alloc N _⟩);case measure=>exact Yl
    .obtain rfl:g=l.length:=oM
     have K:=b8.o;rw[List.drop_length,List.flatMap_nil,List.append_nil]at K;have d3:=zH K;clear K;go_wp2;go_ret2;obtain⟨a5,a6,f2,i1,e9⟩:=nT P.o;injection f2 with e5 h9 e6;subst e5 e6;rw[<-d3.o];exact⟨_,_,rfl,yM P.o,aF e9 (λb1 e8=>⟨oM,e8.2⟩),a7⟩
  .have a1:jf ⟨d,b⟩=false:=by simpa using G
   rw[x]at L;rw[a1]at X;(have I:jh l ⟨d,b⟩=[]:=by unfold jh;rw[x,a1];rfl);rw[x,a1,I];clear x G a1 I;go_enter Tryz.func201,Tryz.ntmps201;go_wp2_with fail;refine Yd (L.o _ BEL) ?_;intro y o;have M:bW w y:=by
    refine bD ?_ (o.mono ?_)
    .exact BEL
    .first|(simp;done)|(simp;omega)
   have H:Blk y (w.heap.size) 272 #[uI d,uI b]:=iK o;obtain⟨f3,f5,f4,f6⟩:=H.c2;have f7:w.heap.size<y.heap.size:=H.lt;have d7:=zH H;clear H;have W:=zH M;clear o M;go_wp2_with fail;refine Yd (X.o _) ?_;intro c8 T;have V:=zH T;clear T;go_wp2;go_ret2;exact⟨none,0,rfl,av _,Row.WH,W.o.trans (V.o.mono W.o.size)⟩
 .have a0:iR l=false:=by simpa using x
  rw[a0]at L;(have I:jh l ⟨d,b⟩=[]:=by unfold jh;rw[a0];rfl);rw[a0,I,Bool.false_and];clear x a0 I;go_enter Tryz.func201,Tryz.ntmps201;go_wp2_with fail;refine Yd (L.o _ BEL) ?_;intro y o;have M:bW w y:=by
   refine bD ?_ (o.mono ?_)
   .exact BEL
   .first|(simp;done)|(simp;omega)
  have H:Blk y (w.heap.size) 272 #[uI d,uI b]:=iK o;obtain⟨f3,f5,f4,f6⟩:=H.c2;have f7:w.heap.size<y.heap.size:=H.lt;have d7:=zH H;clear H;have W:=zH M;clear o M;go_wp2;go_ret2;exact⟨none,0,rfl,av _,Row.WH,W.o⟩
theorem Jt (lo:Int) (s:Sp) (t:List Sp):jr lo (s::t)=if lo<=s.hi then⟨max s.lo lo,s.hi⟩::jr lo t else jr lo t:=rfl
theorem zb (S:X4) (a:X5) (c:Nat) (l:List Sp) (lo:Int) (w:World) (h:Sps w S a l) (b1:l.length<=1000000000) (M:∀Y∈l,SpW Y):
  Yk 200 #[.slice a l.length c,uI lo] w λQ G=>∃A B,Q=.returned (.slice A (gV l lo).length B)/\(gV l lo).length<=B/\Sps G (λN=>w.heap.size<=N/\N<G.heap.size) A (gV l lo)/\bW w G:=by
 obtain⟨u,P⟩:=yx (qw S a c l w h oM M) h;clear h M;by_cases o:iR l=true
 .rw[o]at u
  (have r:gV l lo=jr lo l:=by unfold gV;rw[o];rfl);rw[r];clear o r;go_enter Tryz.func200,Tryz.ntmps200;go_wp2_with fail;refine Yd u.o ?_;intro a0 m;have t:=zH m;clear m;go_wp2;go_loopw [5,13] (λZ F wr=>∃(d:Nat) (b:List Sp) (j:X5) (k:Nat),d<=l.length/\F=jI d/\Z=.slice j b.length k/\b.length<=d/\
   X3 (wr.ownsRow w.heap.size 272 2 (.slice j b.length k) b.length (b.flatMap spV))/\X3 (b++jr lo (l.drop d)=jr lo l)/\X3 (bW w wr)) (λ_ F _=>l.length -(intOf F).toNat)
  (case atStart=>exact⟨0,[],none,0,oM,rfl,rfl,sM,iq _ _ _ _,rfl,t⟩);case round=>
   obtain⟨d,b,j,k,b0,rfl,rfl,a7,e,J,g⟩:=hrel;clear t;have E:=g.o.size;by_cases L:d<l.length
   .obtain⟨a2,b2,rfl,a8,W,X⟩:=P.o.at_ g.o L
    have f:=J.o;rw[aR L,Jt]at f;have I:=zH f;clear f;generalize l[d]=a1 at*
    obtain⟨v,s⟩:=a1;simp only at W X;by_cases K:lo<=s
    .have i:X3 ((b++[⟨max v lo,s⟩])++jr lo (l.drop (d+1))=jr lo l):=zH (by have:=I.o;simpa[K]using this)
     by_cases a4:v<lo
     .rw[Int.max_eq_right oM]at i
      go_wp2_with (at_builtin;refine iP.wpList rfl (.tmp 21) (.tmp 29) rfl w.heap.size j k b (by rfl) ((e.o.alloc _).alloc _) (some ⟨wr.heap.size+1,0,none⟩) 1 [⟨lo,s⟩] (by rfl) (kQ (Blk.qN _ _ _ _)) sO dC sO ?_;intro x C H q p;have n:bW w H:=((g.o.alloc E _).alloc sO _).grown p sO (jM e.o);have z:=zH q;have y:=zH n;clear q n p);go_roundw;(case rel=>exact⟨d+1,_,x,C,oM,by go_num,sM,by simp;omega,z,i,y⟩);case measure=>exact Yl
     .rw[Int.max_eq_left oM]at i
      have a5:lo<=v:=oM;go_wp2_with (at_builtin;refine iP.wpList rfl (.tmp 21) (.tmp 29) rfl w.heap.size j k b (by rfl) ((e.o.alloc _).alloc _) (some ⟨wr.heap.size+1,0,none⟩) 1 [⟨v,s⟩] (by rfl) (kQ (Blk.qN _ _ _ _)) sO dC sO ?_;intro x C H q p;have n:bW w H:=((g.o.alloc E _).alloc sO _).grown p sO (jM e.o);have z:=zH q;have y:=zH n;clear q n p);go_roundw;(case rel=>exact⟨d+1,_,x,C,oM,by go_num,sM,by simp;omega,z,i,y⟩);case measure=>exact Yl
    .have a3:decide (lo<=s)=false:=sO
     have i:X3 (b++jr lo (l.drop (d+1))=jr lo l):=zH (by have:=I.o;rwa [Ww K]at this);go_wp2;go_roundw;(case rel=>exact⟨d+1,b,j,k,oM,by go_num,rfl,oM,e.o.alloc _,i,g.o.alloc E _⟩);case measure=>exact Yl
   .obtain rfl:d=l.length:=oM
    have f:=J.o;rw[List.drop_length]at f;have O:X3 (b=jr lo l):=zH (by simpa[jr]using f);clear f;go_wp2;go_ret;obtain⟨A,B,V,a9,U⟩:=nT e.o;injection V with R a6 T;subst R T;rw[<-O.o];exact⟨_,_,rfl,yM e.o,U,g.o⟩
 .have D:iR l=false:=by simpa using o
  rw[D]at u;(have r:gV l lo=[]:=by unfold gV;rw[D];rfl);rw[r];clear o D r;go_enter Tryz.func200,Tryz.ntmps200;go_wp2_with fail;refine Yd u.o ?_;intro a0 m;have t:=zH m;clear m;go_wp2;go_ret;exact⟨none,0,rfl,av _,Row.WH,t.o⟩
theorem Ig (s x:Sp) (t:List Sp):qU s (x::t)=if x.hi<s.lo then qU s t else x::t:=rfl
theorem Dm (s:Sp) (t b:List Sp):lI (s::t) b=match qU s b with|[]=>false|x::r=>if s.lo<x.lo\/x.hi<s.hi then false else lI t (x::r):=rfl
theorem xG (S S':X4) (a:X5) (c:Nat) (l:List Sp) (a2:X5) (c2:Nat) (m:List Sp) (w:World) (h:Sps w S a l) (e0:l.length<=1000000000) (a8:∀V∈l,SpW V)
  (N:Sps w S' a2 m) (e1:m.length<=1000000000) (a9:∀V∈m,SpW V):
  Yk 183 #[.slice a l.length c,.slice a2 m.length c2] w λc1 I=>c1=.returned (bV (jA l m))/\bW w I:=by
 obtain⟨u,F,b7,b8⟩:=Bq (qw S a c l w h oM a8) (λI (i:bW w I)=>qw S' a2 c2 m I (N.below i) oM a9) h N;clear h a8 N a9;by_cases q:iR l=true
 .by_cases A:iR m=true
  .rw[q]at u
   rw[A]at F;(have r:jA l m=lI l m:=by unfold jA;rw[q,A];rfl);rw[r];clear q r A;go_enter Tryz.func183,Tryz.ntmps183;go_wp2_with fail;refine Yd u.o ?_;intro b3 i;have f:=zH i;clear i;go_wp2_with fail;refine Yd (F.o _ f.o) ?_;intro c7 z;have E:=zH (f.o.trans (z.mono f.o.size));clear z f;go_wp2;go_loopw [5,18] (λC R wr=>∃(n o:Nat),n<=l.length/\o<=m.length/\R=jI n/\C=jI o/\X3 (lI (l.drop n) (m.drop o)=lI l m)/\X3 (bW w wr)) (λ_ R _=>l.length -(intOf R).toNat);(case atStart=>exact⟨0,0,oM,oM,rfl,rfl,rfl,E⟩);case round=>
    obtain⟨n,o,d8,c4,rfl,rfl,Y,D⟩:=hrel;clear E;have c5:=D.o.size;by_cases a7:n<l.length
    .obtain⟨d2,e4,rfl,d6,b0,b1⟩:=b7.o.at_ D.o a7
     have s:=Y.o;rw[aR a7,Dm]at s;have W:=zH s;clear s;generalize l[n]=c8 at*
     obtain⟨d,e⟩:=c8;simp only at b0 b1;go_wp2_with fail;have a5:bW w (wr.alloc (.cells #[uI d,uI e] 272)):=D.o.alloc c5 _;have a4:Blk (wr.alloc (.cells #[uI d,uI e] 272)) wr.heap.size 272 #[uI d,uI e]:=Wx _ _ _;generalize c3:wr.alloc (.cells #[uI d,uI e] 272)=wx at*
     obtain⟨j,a0⟩:=yx a5 a4;clear c3 a5 a4 b0 b1;obtain⟨x,rfl⟩:∃x:World,x=wr:=⟨_,rfl⟩;go_loopw [5] (λC wr=>∃(b:Nat),b<=m.length/\C=jI b/\X3 (qU ⟨d,e⟩ (m.drop b)=qU ⟨d,e⟩ (m.drop o))/\X3 (∃H,wr=wx.drewN H)) (λC _=>m.length -(intOf C).toNat);(case atStart=>exact⟨o,c4,rfl,rfl,0,rfl⟩);case round=>
      obtain⟨b,d9,rfl,Z,b6⟩:=hrel;obtain⟨H,rfl⟩:=b6.o;obtain⟨J,K⟩:=a0.o.e2 0 1;have e5:(0:Int)<=(b:Int):=oM;by_cases G:b<m.length
      .obtain⟨a1,b2,rfl,d7,T,U⟩:=b8.o.at_ j.o G
       have O:=Z.o;rw[aR G,Ig]at O;have X:=zH O;clear O;(have c6:=bM G);have e6:((b:Int)==(m.length:Int))=false:=sO;have e7:(b:Int)<(m.length:Int):=oM;have a6:(m[b]::m.drop (b+1))=m.drop b:=(aR G).symm;have b5:=zH a6;clear a6;generalize m[b]=c9 at*
       obtain⟨L,y⟩:=c9;simp only at T U;generalize g:wx.drewN H=t at*
       (have e2:t.cell? ⟨a1,b2+b*2,none⟩=some (uI L):=by rw[<-g];exact T);(have e3:t.cell? ⟨a1,b2+b*2+1,none⟩=some (uI y):=by rw[<-g];exact U);(have d0:t.cell? ⟨x.heap.size,0,none⟩=some (uI d):=by rw[<-g];exact J);(have d1:t.cell? ⟨x.heap.size,1,none⟩=some (uI e):=by rw[<-g];exact K);have v:=zH g;clear g T U J K;by_cases a3:y<d
       .have b4:X3 (qU ⟨d,e⟩ (m.drop (b+1))=qU ⟨d,e⟩ (m.drop o)):=zH (by have:=X.o;rwa [aB a3]at this)
        go_wp2;refine mQ ?_;rintro _ ⟨nq,rfl⟩;go_wp2;go_roundw;(case rel=>exact⟨b+1,oM,by go_num,b4,by rw[<-v.o,World.drewN_drewN];exact⟨_,rfl⟩⟩);case measure=>exact Yl
       .have d3:decide (y<d)=false:=sO
        (have B:qU ⟨d,e⟩ (m.drop o)=⟨L,y⟩::m.drop (b+1):=by have:=X.o;rw[Ww a3]at this;exact this.symm);have p:=W.o;rw[B]at p;simp only at p;have M:=zH p;clear B p;by_cases b9:d<L
        .have k:X3 (lI l m=false):=zH (by have:=M.o;rw[aB (Or.inl b9)]at this;exact this.symm)
         go_wp2;refine mQ ?_;rintro _ ⟨nq,rfl⟩;go_wp2;refine mQ ?_;rintro _ ⟨nq,rfl⟩;go_wp2;go_ret;exact⟨eF k.o.symm,by rw[<-v.o];first|exact aA (aA (aA j.o _) _) _|exact aA (aA j.o _) _⟩
        .have d4:decide (d<L)=false:=sO
         by_cases c0:y<e
         .have k:X3 (lI l m=false):=zH (by have:=M.o;rw[aB (Or.inr c0)]at this;exact this.symm)
          go_wp2;refine mQ ?_;rintro _ ⟨nq,rfl⟩;go_wp2;refine mQ ?_;rintro _ ⟨nq,rfl⟩;go_wp2;go_ret;exact⟨eF k.o.symm,by rw[<-v.o];first|exact aA (aA (aA j.o _) _) _|exact aA (aA j.o _) _⟩
         .have d5:decide (y<e)=false:=sO
          have k:X3 (lI (l.drop (n+1)) (m.drop b)=lI l m):=zH (by have:=M.o;rw[Ww oM]at this;rw[<-b5.o];exact this);go_wp2;refine mQ ?_;rintro _ ⟨nq,rfl⟩;go_wp2;refine mQ ?_;rintro _ ⟨nq,rfl⟩;go_wp2;go_roundw;(case rel=>exact⟨n+1,b,oM,oM,by go_num,rfl,k,by rw[<-v.o];first|exact aA (aA (aA j.o _) _) _|exact aA (aA j.o _) _⟩);case measure=>exact Yl
      .obtain rfl:b=m.length:=oM
       have c6:decide (m.length<m.length)=false:=sM;(have B:qU ⟨d,e⟩ (m.drop o)=[]:=by have:=Z.o;rw[List.drop_length]at this;exact this.symm);have p:=W.o;rw[B]at p;have k:X3 (lI l m=false):=zH p.symm;clear B p;generalize g:wx.drewN H=t at*
       (have d0:t.cell? ⟨x.heap.size,0,none⟩=some (uI d):=by rw[<-g];exact J);(have d1:t.cell? ⟨x.heap.size,1,none⟩=some (uI e):=by rw[<-g];exact K);have v:=zH g;clear g J K;go_wp2;refine mQ ?_;rintro _ ⟨nq,rfl⟩;go_wp2;refine mQ ?_;rintro _ ⟨nq,rfl⟩;go_wp2;go_ret;exact⟨eF k.o.symm,by rw[<-v.o];first|exact aA (aA (aA j.o _) _) _|exact aA (aA j.o _) _⟩
    .obtain rfl:n=l.length:=oM
     have s:=Y.o;rw[List.drop_length]at s;have k:X3 (lI l m=true):=zH s.symm;clear s;go_wp2;go_ret;exact⟨eF k.o.symm,D.o⟩
  .have Q:iR m=false:=by simpa using A
   rw[q]at u;rw[Q]at F;(have r:jA l m=false:=by unfold jA;rw[q,Q];rfl);rw[r];clear q r A Q;go_enter Tryz.func183,Tryz.ntmps183;go_wp2_with fail;refine Yd u.o ?_;intro b3 i;have f:=zH i;clear i;go_wp2_with fail;refine Yd (F.o _ f.o) ?_;intro c7 z;have E:=zH (f.o.trans (z.mono f.o.size));clear z f;go_wp2;go_ret;exact⟨rfl,E.o⟩
 .have P:iR l=false:=by simpa using q
  rw[P]at u;(have r:jA l m=false:=by unfold jA;rw[P];rfl);rw[r];clear q r P;go_enter Tryz.func183,Tryz.ntmps183;go_wp2_with fail;refine Yd u.o ?_;intro b3 i;have f:=zH i;clear i;go_wp2;go_ret;exact⟨rfl,f.o⟩
theorem JX {S:X4} {a:X5} (h:Bys w S a l) (b:n<=l.length) (f:l.length<=c):Row w S 5 1 (fE a c 0 1) n ((l.take n).flatMap byV):=by
 have:=wT h (k:=0) (m:=n) (jV _) b (fE a c 0 1) (λg e i d=>by subst d;rw[lD oM]);unfold Bys at this;rw[List.drop_zero,aT,fJ b]at this;exact this
theorem vS {S:X4} {a:X5} (h:Bys w S a l) (d:n<=l.length) (f:l.length<=c):Bys w S (fE a c n 1) (l.drop n):=by
 have:=wT h (k:=n) (m:=l.length) d (av _) (fE a c n 1) (λg e i b=>by subst b;rw[lD oM,Nat.mul_one])
 rwa [dM]at this
theorem yB (S:X4) (p:Nat) (l:List Int) (n:Nat) (w:World) (h:pu w S p l) (a7:l.length<=200000000000) (b0:n<=100000):
  Yk 95 #[pT p,jI n] w λc m=>∃b a,c=.returned (.tuple #[.slice b (fQ n l).val.length a,jI (fQ n l).err])/\Bys m (λd=>w.heap.size<=d/\d<m.heap.size) b (fQ n l).val/\
   pu m S p (fQ n l).left/\Mod (λd=>d=p) [some 309] w m/\(fQ n l).val.length<=a:=by
 obtain⟨b,a,g,y,z⟩:=h.ex;have U:=zH h;obtain⟨L,R⟩:=g.cz 0;have k:=g.lt;obtain⟨H,v⟩:=yx g y;clear h g y;have b4:decide ((n:Int)<0)=false:=sM;by_cases j:l.length<n
 .have c:fQ n l=⟨[],2,l⟩:=by unfold fQ;rw[aB j]
  rw[c];clear c;go_enter Tryz.func95,Tryz.ntmps95;go_wp2;go_ret2;exact⟨none,0,rfl,Bys.WH,U.o,aV _ _ _,av _⟩
 .have c:fQ n l=⟨l.take n,0,l.drop n⟩:=by unfold fQ;rw[Ww j]
  rw[c];clear c;(have a8:=bJ j);have a9:decide ((l.length:Int)<(n:Int))=false:=sO;have t:n<=l.length:=oM;obtain⟨b2,s,a0,F,a1⟩:=info_parts lF;have hcut:=tY (P:=prog) Tryz.underlying47 s b l.length a n oM;have W:=gI (P:=prog) Tryz.underlying47 s b l.length a n t;rw[F]at hcut W;obtain⟨K,I⟩:=yx (JX v.o t z) (vS v.o t z);(have C:(l.take n).length=n:=by rw[aT];omega);(have D:(l.drop n).length=l.length -n:=by rw[bI]);obtain⟨f,x⟩:=yx C D;generalize fE b a 0 1=N at*
  generalize fE b a n 1=r at*
  clear s a0 F a1 j C D;go_enter Tryz.func95,Tryz.ntmps95;go_wp2_with (at_builtin;refine fe.wpList rfl _ (.tmp 25) rfl w.heap.size none 0 [] (by rfl) (iq _ _ _ _) N a (l.take n) (by simp[Act.eval,f.o]) (by rw[f.o];exact K.o) (by rw[f.o];simp;omega) dC (av _) ?_;intro G M o E A;have e:bW w o:=(aj w.heap.size w).grown A (av _) XI;have b3:=(e.cell (p:=⟨p,0,none⟩) k).trans L;have a5:=(e.frozen (p:=⟨p,0,none⟩) k).trans R;have b1:p<o.heap.size:=aC k e.size;have J:=zH E;have q:=zH e;clear E A e);go_ret2;have u:=J.o;rw[List.nil_append]at u;have V:=(OwnAt.fresh u).cap_;obtain⟨a2,a3,Z,a6,Y⟩:=nT u;injection Z with O a4 Q;subst O Q;have i:=H.o.below q.o k;(have X:(o.setCell ⟨p,0,none⟩ (.slice r (l.length -n) (a -n))).heap.size=o.heap.size:=by simp[World.setCell]);refine⟨G,M,by simp[f.o],?_,⟨r,a -n,?_,?_,?_⟩,?_,V⟩
  .exact aF (aG Y (ts:=[some 5]) (bQ.setCell i dC 0 _) sM) (λd B=>⟨B.1,by rw[X];exact B.2⟩)
  .rw[x.o];simpa using i.bF 0 (.slice r (l.length -n) (a -n))
  .exact aG (aD I.o q.o) (ts:=[some 5]) (bQ.setCell i dC 0 _) sM
  .rw[x.o];omega
  .exact Mod.setCell (S:=λd=>d=p) (T:=[some 309]) (aH q.o) i (λ_=>rfl) (List.Mem.head _) 0 _
theorem nR (S:X4) (p:Nat) (l:List Int) (n:Nat) (w:World) (h:pu w S p l) (k:l.length<=200000000000) (m:n<=100000):
  Yk 95 #[pT p,jI n] w λe a=>∃b d,e=.returned (.tuple #[.slice b (fQ n l).val.length d,jI (fQ n l).err])/\Bys a (λc=>w.heap.size<=c/\c<a.heap.size) b (fQ n l).val/\
   pu a S p (fQ n l).left/\Mod (λc=>c=p) [some 309] w a:=
 (yB S p l n w h k m).mono λe a ⟨b,d,f,g,i,j,_⟩=>⟨b,d,f,g,i,j⟩
def Rdm (p:Nat) (w w':World):Prop:=Mod (λa=>a=p) [some 309] w w'
theorem Rdm.trans (h:Rdm p w w') (a:Rdm p w' W):Rdm p w W:=Mod.trans h a
theorem ru (n:Int) (l:List Int) (x:Int):eD n (l++[x])=eD n l*256+x:=by unfold eD;rw[iA];rfl
theorem vK {n:Int} (a:dP l) (k:Nat) (b:0<=n) (c:n<256^k):0<=eD n l/\eD n l<256^(k+l.length):=by
 induction l generalizing n k with
 |nil=>exact⟨b,by simpa[eD]using c⟩
 |cons x t ih=>
  have g:=a x sM;(have d:n*256+x<256^(k+1):=by rw[Int.pow_succ];omega);have:=ih (λf e=>a f (by simp[e])) (k+1) (n:=n*256+x) oM d;rw[show k+(x::t).length=k+1+t.length by simp;omega];exact this
theorem yN {m c:Int} (d:0<=m) (e:m<72057594037927936) (c0:0<=c) (c1:c<256):bits BinOp.or IntKind.u64 (m*256) c=m*256+c:=by
 obtain⟨m,rfl⟩:=bH d;obtain⟨c,rfl⟩:=bH c0;have a:((m:Int)*256)=((m*256:Nat):Int):=oM;rw[a,bits_or_u64_nat (m*256) c oM oM];have:=Nat.two_pow_add_eq_or_of_lt (i:=8) (b:=c) oM m;rw[show 2^8*m=m*256 by omega]at this;omega
theorem Ba (S:X4) (p:Nat) (l:List Int) (w:World) (h:pu w S p l) (L:l.length<=200000000000) (x:dP l):
  Yk 98 #[pT p] w λc C=>c=.returned (.tuple #[uI (jU l).val,jI (jU l).err])/\pu C S p (jU l).left/\Mod (λM=>M=p) [some 309] w C:=by
 have j:=zH (nR S p l 8 w h L dC);clear h;by_cases d:l.length<8
 .have c:fQ 8 l=⟨[],2,l⟩:=by unfold fQ;rw[aB d]
  (have f:jU l=⟨0,2,l⟩:=by unfold jU;rw[aB d]);rw[c]at j;rw[f];clear c f;go_enter Tryz.func98,Tryz.ntmps98;go_wp2_with fail;refine j.o.mono ?_;rintro c O ⟨G,H,rfl,k,i,g⟩;obtain⟨q,o⟩:=yx i g;clear k i g;go_wp2;go_ret2;exact⟨rfl,q.o,o.o⟩
 .have c:fQ 8 l=⟨l.take 8,0,l.drop 8⟩:=by unfold fQ;rw[Ww d]
  (have f:jU l=⟨eD 0 (l.take 8),0,l.drop 8⟩:=by unfold jU;rw[Ww d]);rw[c]at j;rw[f];(have z:(l.take 8).length=8:=by rw[aT];omega);have v:dP (l.take 8):=λm e=>x m (bf e);clear c f d x;generalize l.take 8=b at*
  obtain⟨P,s⟩:=yx z v;have X:b.length<=8:=oM;clear z v;go_enter Tryz.func98,Tryz.ntmps98;go_wp2_with fail;refine j.o.mono ?_;rintro c O ⟨G,H,rfl,k,i,g⟩;obtain⟨D,q,o⟩:=Av k i g;clear k i g;go_wp2;go_loop [6,19] (λN r=>∃(a:Nat),a<=b.length/\r=jI a/\N=uI (eD 0 (b.take a))) (λ_ r=>b.length -(intOf r).toNat);(case atStart=>exact⟨0,oM,rfl,rfl⟩);case round=>
   obtain⟨a,T,rfl,rfl⟩:=hrel;by_cases d:a<b.length
   .obtain⟨Q,W,rfl,R,U⟩:=D.o.at_ (aj _ _) d
    obtain⟨I,t⟩:=vK (n:=0) (l:=b.take a) (λm e=>s.o m (bf e)) 0 dC dC;(have y:(b.take a).length=a:=by rw[aT];omega);rw[y,Nat.zero_add]at t;have J:eD 0 (b.take a)<72057594037927936:=by
     have:(256:Int)^a<=256^7:=by
      have K:256^a<=256^7:=Nat.pow_le_pow_right dC oM;have u:=Int.ofNat_le.2 K;rw[Int.natCast_pow,Int.natCast_pow]at u;exact u
     have c:(256:Int)^7=72057594037927936:=dC;omega
    have e:=s.o _ (aN d);(have B:eD 0 (b.take (a+1))=eD 0 (b.take a)*256+b[a]:=by rw[bB d,ru]);have A:=yN I J e.1 e.2;obtain⟨F,E⟩:=yx B A;have Y:=e.1;have Z:=e.2;clear t y e B A;generalize eD 0 (b.take a)=V at*
    generalize b[a]=m at*
    go_wp2;go_round;(case rel=>exact⟨a+1,oM,by go_num,by rw[F.o,<-E.o]⟩);case measure=>exact Yl
   .obtain rfl:a=b.length:=oM
    have c:b.take b.length=b:=dM;rw[c];clear c;go_wp2;go_ret2;exact⟨rfl,q.o,o.o⟩
theorem FX {b:Int} (d:0<=b) (e:b<256):(b<64/\nM b=1)\/(64<=b/\b<128/\nM b=2)\/(128<=b/\b<192/\nM b=4)\/(192<=b/\nM b=8):=by
 unfold nM;have h:(b/64).toNat=0/\b<64\/(b/64).toNat=1/\64<=b/\b<128\/(b/64).toNat=2/\128<=b/\b<192\/(b/64).toNat=3/\192<=b:=oM;rcases h with⟨a,h⟩|⟨a,h,c⟩|⟨a,h,c⟩|⟨a,h⟩<;>rw[a]
 .exact .inl ⟨h,rfl⟩
 .exact .inr (.inl ⟨h,c,rfl⟩)
 .exact .inr (.inr (.inl ⟨h,c,rfl⟩))
 .exact .inr (.inr (.inr ⟨h,rfl⟩))
theorem Qe:eZ []=⟨0,2,[]⟩:=rfl
theorem Ex (a:Int) (t:List Int):eZ (a::t)=if(a::t).length<nM a then⟨0,2,a::t⟩else if eU (eD (a%64) (t.take (nM a -1)))≠nM a then⟨0,5,a::t⟩else⟨eD (a%64) (t.take (nM a -1)),0,(a::t).drop (nM a)⟩:=rfl
theorem wG (S:X4) (p:Nat) (l:List Int) (w:World) (h:pu w S p l) (e2:l.length<=200000000000) (D:dP l):
  Yk 97 #[pT p] w λg v=>g=.returned (.tuple #[uI (eZ l).val,jI (eZ l).err])/\pu v S p (eZ l).left/\Mod (λu=>u=p) [some 309] w v:=by
 obtain⟨c6,f,y,N,O⟩:=h.ex;have C:=zH h;obtain⟨c9,L⟩:=y.cz 0;have e3:=y.lt;obtain⟨z,A⟩:=yx y N;clear h y N;rcases l with _|⟨b,c⟩
 .rw[Qe]
  go_enter Tryz.func97,Tryz.ntmps97;go_wp2;go_ret2;exact⟨rfl,C.o,aV _ _ _⟩
 .have R:=D b sM
  have U:dP c:=λr i=>D r (by simp[i]);obtain⟨o,q,rfl,d8,c4⟩:=A.o.at_ (aj _ _) (j:=0) sM;rw[Nat.add_zero,show(b::c)[0]=b from rfl]at c4;have f3:=R.1;have f4:=R.2;have a0:(b::c).length=c.length+1:=rfl;rw[Ex];obtain⟨a,g,d2,d6,d7⟩:∃a:Nat,nM b=a/\wrap64 (2^(b/64).toNat)=(a:Int)/\1<=a/\a<=8:=by
   have c0:(b/64).toNat=0\/(b/64).toNat=1\/(b/64).toNat=2\/(b/64).toNat=3:=oM;refine⟨_,rfl,?_⟩;unfold nM;rcases c0 with h|h|h|h<;>rw[h]<;>decide+kernel
  rw[g];have d1:c.length+1<=f:=O;by_cases B:c.length+1<a
  .have d4:decide ((c.length:Int)+1<(a:Int))=true:=sO
   rw[aB (show(b::c).length<a from B)];go_enter Tryz.func97,Tryz.ntmps97;go_wp2;go_ret2;exact⟨rfl,C.o,aV _ _ _⟩
  .rw[Ww (show¬(b::c).length<a from B)]
   have d5:a<=c.length+1:=oM;have d3:decide ((c.length:Int)+1<(a:Int))=false:=sO;obtain⟨e8,Y,e6,a7,e7⟩:=info_parts lF;(have a6:(c.take (a -1)).length=a -1:=by rw[aT];omega);have hcut:∀w,(Instr.slice 47 (.slice (some ⟨o,q,none⟩) (c.length+1) f) (some (jI 1)) (some (jI a)) none).run prog w=.ok (.slice (fE (some ⟨o,q,none⟩) f 1 1) (c.take (a -1)).length (f -1)) w:=λw=>by
    have h:=qL (P:=prog) Tryz.underlying47 Y (some ⟨o,q,none⟩) (c.length+1) f 1 a oM oM w;rw[a7]at h;rw[a6];exact h
   have e0:∀w,(Instr.slice 47 (.slice (some ⟨o,q,none⟩) (c.length+1) f) (some (jI a)) none none).run prog w=.ok (.slice (fE (some ⟨o,q,none⟩) f a 1) (c.length+1 -a) (f -a)) w:=λw=>by
    have h:=gI (P:=prog) Tryz.underlying47 Y (some ⟨o,q,none⟩) (c.length+1) f a oM w;rw[a7]at h;exact h
   have a3:Bys w S (fE (some ⟨o,q,none⟩) f 1 1) (c.take (a -1)):=by
    have:=wT A.o (k:=1) (m:=a) oM (by rw[a0];omega) (fE (some ⟨o,q,none⟩) f 1 1) (λt c7 f0 g=>by injection g with g;injection g with b7 b8;subst b7 b8;rw[lD oM]);rw[List.drop_take]at this;exact this
   obtain⟨b4,a9⟩:=yx a3 (vS A.o (n:=a) (by rw[a0];omega) O);have a5:dP (c.take (a -1)):=λr i=>U r (bf i);(have V:((b::c).drop a).length=c.length+1 -a:=by rw[bI];rfl);obtain⟨a8,I,H⟩:=Av (show c.length+1 -a<=f -a by omega) a5 V;generalize(b::c).drop a=K at*
   generalize c.take (a -1)=d at*
   generalize fE (some ⟨o,q,none⟩) f 1 1=d0 at*
   generalize fE (some ⟨o,q,none⟩) f a 1=J at*
   generalize c.length+1 -a=b6 at*
   generalize f -a=G at*
   have b5:=zH (oF (eD (b%64) d));have X:∀x:Rd->Prop,(eU (eD (b%64) d)=a->x ⟨eD (b%64) d,0,K⟩)->(eU (eD (b%64) d)≠a->x ⟨0,5,b::c⟩)->x (if eU (eD (b%64) d)≠a then⟨0,5,b::c⟩else⟨eD (b%64) d,0,K⟩):=by
    intro x c2 c3;by_cases s:eU (eD (b%64) d)=a
    .rw[Ww oM];exact c2 s
    .rw[aB s];exact c3 s
   generalize W:eD (b%64) d=F at*
   refine X (λr=>Yk 97 _ w λg v=>g=.returned (.tuple #[uI r.val,jI r.err])/\pu v S p r.left/\Mod (λu=>u=p) [some 309] w v) ?_ ?_;(all_goals intro s);(all_goals have b0:=zH W);(all_goals have f2:d.length<=7:=oM);(all_goals have b2:=zH s);(all_goals clear X a3 a5 V B g U D s W a6);all_goals
    go_enter Tryz.func97,Tryz.ntmps97;go_wp2;go_loop [5,46] (λc5 E=>∃(e:Nat),e<=d.length/\E=jI e/\c5=uI (eD (b%64) (d.take e))) (λ_ E=>d.length -(intOf E).toNat);(case atStart=>exact⟨0,oM,rfl,rfl⟩);case round=>
     obtain⟨e,e1,rfl,rfl⟩:=hrel;by_cases t:e<d.length
     .obtain⟨c8,f1,rfl,d9,e9⟩:=b4.o.at_ (aj _ _) t
      obtain⟨L,M⟩:=vK (n:=b%64) (l:=d.take e) (λr i=>I.o r (bf i)) 1 oM sO;(have Z:(d.take e).length=e:=by rw[aT];omega);rw[Z]at M;have b9:eD (b%64) (d.take e)<72057594037927936:=by
       have:(256:Int)^(1+e)<=256^7:=by
        have c1:256^(1+e)<=256^7:=Nat.pow_le_pow_right dC oM;have Q:=Int.ofNat_le.2 c1;rw[Int.natCast_pow,Int.natCast_pow]at Q;exact Q
       have g:(256:Int)^7=72057594037927936:=dC;omega
      have i:=I.o _ (aN t);(have a2:eD (b%64) (d.take (e+1))=eD (b%64) (d.take e)*256+d[e]:=by rw[bB t,ru]);have a1:=yN L b9 i.1 i.2;obtain⟨b3,b1⟩:=yx a2 a1;have f5:=i.1;have f6:=i.2;clear M Z i a2 a1;generalize eD (b%64) (d.take e)=F at*
      generalize d[e]=r at*
      go_wp2;go_round;(case rel=>exact⟨e+1,oM,by go_num,by rw[b3.o,<-b1.o]⟩);case measure=>exact Yl
     .obtain rfl:e=d.length:=oM
      have g:d.take d.length=d:=dM;rw[g,b0.o];clear g t;have a4:=b5.o;have s:=b2.o;(first|(rw[s]at a4)|(have e4:((eU F:Int)!=(a:Int))=true:=sO;have e5:((eU F:Int)==(a:Int))=false:=sO));clear s;go_wp2_with fail;refine Yg (a4 _) ?_;go_wp2;go_ret2;first|(exact⟨rfl,⟨J,G,by rw[H.o];simpa using z.o.bF 0 (.slice J b6 G),aG a9.o (ts:=[some 5]) (bQ.setCell z.o dC 0 _) sM,by rw[H.o];exact a8.o⟩,Mod.setCell (S:=λu=>u=p) (T:=[some 309]) (aV _ _ _) z.o (λ_=>rfl) (List.Mem.head _) 0 _⟩)|(exact⟨rfl,C.o,aV _ _ _⟩)
theorem aP:(∀(a:Act) (d:Value),a.put none d=a)/\(∀(e:Array Value) (b:List Deferred) (f:Tmp) (d:Value),Act.put ⟨e,b⟩ (some f) d=⟨e.setIfInBounds f d,b⟩)/\(∀(c:List Value) (i:Nat) (d:Value),c.toArray.setIfInBounds i d=(c.set i d).toArray)/\(∀(c:List Value) (a b:Value),(a::c).set 0 b=b::c)/\(∀(c:List Value) (i:Nat) (a b:Value),(a::c).set (i+1) b=a::c.set i b):=
 ⟨λ_ _=>rfl,λ_ _ _ _=>rfl,λ_ _ _=>List.setIfInBounds_toArray ..,λ_ _ _=>rfl,λ_ _ _ _=>rfl⟩
theorem Below.bZ {B b:Nat} {a:World} (hb:B<=b):∀(d:List Value) (c:Nat) (w:World),Below B a w->Below B a (w.setCells b c d)
 |[],_,_,h=>h
 |v::r,c,w,h=>Below.bZ hb r (c+1) _ (bG h hb v)
theorem Blk.gy {g b:Nat} {t:TypeId} {d:Array Value} (hb:g≠b):∀(e:List Value) (c:Nat) (w:World),Blk w g t d->Blk (w.setCells b c e) g t d
 |[],_,_,h=>h
 |v::r,c,w,h=>Blk.gy hb r (c+1) _ (h.far hb v)
theorem Blk.there {g:Nat} (h:Blk w g t C) (n:Nat) (d:n<=C.size):w.there g 0 n:=λb c=>by
 refine⟨?_,h.frozen (0+b)⟩;rw[Nat.zero_add,cell_of_row w g b C t (0,0) h,Array.getElem?_eq_getElem oM];rfl
theorem Blk.Px {g:Nat} {t:TypeId}:∀(d:List Value) (b:Nat) (w:World) (c:Array Value),Blk w g t c->b+d.length<=c.size->Blk (w.setCells g b d) g t (c.toList.take b++d++c.toList.drop (b+d.length)).toArray
 |[],b,w,c,h,_=>by simpa[World.setCells]using h
 |v::r,b,w,c,h,hl=>by
  have e:=Blk.Px r (b+1) _ _ (h.bF b v) (by simp at hl|-;omega);have f:=list_seg_step c.toList b v r (by simp at hl|-;omega);rw[Array.toList_setIfInBounds,f]at e;exact e
theorem Blk.gF {g:Nat} (h:Blk w g t C) (b:List Value) (c:b.length=C.size):Blk (w.setCells g 0 b) g t b.toArray:=by
 have:=Blk.Px b 0 w C h oM;rw[List.take_zero,List.nil_append,Nat.zero_add,List.drop_eq_nil_of_le sO,List.append_nil]at this;exact this
section
variable {P:Program} {md:Region.Mode} {ops:Array Oper} {Q:X7} {S:World->Prop} {i:Nat} {op:Oper} {fuel:Nat} {listed:Array Bool} {a:Act} {w:World}
theorem oC (ty:TypeId) (x y:Operand) (b o:Nat) (c:Array Value) (k:ops[i]?=some op) (m:Region.ready md ops listed=[i]) (l:op.op=.store ty x y) (j:op.guard=none) (g:op.dst=none)
  (p:a.eval x=.pointer (some ⟨b,o,none⟩)) (hy:a.eval y=.agg c) (n:w.there b o c.size) (q:(P.info? ty).map (·.size)=some c.size) (d:c.all (·.oneCell')=true)
  (f:S (w.setCells b o c.toList)) (h:wpAnyH P md ops Q S fuel (listed.setIfInBounds i true) a (w.setCells b o c.toList)):wpAnyH P md ops Q S (fuel+1) listed a w:=by
 refine wpAnyH_ready m sM (AllReadyH.cons k (λr e=>?_) AllReadyH.nil);rw[aB (by simp[Region.wanted,j])];refine wp_store_mid ty x y l b o c p hy n q d ?_;rw[g];exact e.out _ _ f (λ_=>h)
theorem aI (i:Nat) (d:Region.ready md ops listed=[i]) (h:wpOp P ops Q i (λa' e=>S e/\wpAnyH P md ops Q S fuel (listed.setIfInBounds i true) a' e) a w):wpAnyH P md ops Q S (fuel+1) listed a w:=by
 refine⟨λb=>?_,λf c=>?_⟩
 .rw[d]at b;cases b
 .rw[d]at c
  (obtain rfl:f=i:=by simpa using c);exact h
theorem fo (i j:Nat) (e:Region.ready md ops listed=[i,j]) (h:wpOp P ops Q i (λa' c=>S c/\wpAnyH P md ops Q S fuel (listed.setIfInBounds i true) a' c) a w)
  (f:wpOp P ops Q j (λa' c=>S c/\wpAnyH P md ops Q S fuel (listed.setIfInBounds j true) a' c) a w):wpAnyH P md ops Q S (fuel+1) listed a w:=by
 refine⟨λd=>?_,λg b=>?_⟩
 .rw[e]at d;cases d
 .rw[e]at b
  rcases bT.1 b with b|b
  .subst b;exact h
  .obtain rfl:g=j:=by simpa using b
   exact f
theorem KJ (e:ops[i]?=some op) (c:op.guard=none) (d:Option Tmp) (b:op.dst=d) (v:Value) (w':World) (f:(execOp a.eval op).run P w=.ok (.value v) w') (h:K (a.put d v) w'):wpOp P ops Q i K a w:=by
 subst b;unfold wpOp;simp only[e,Region.wanted,c,if_true];refine .inl ?_;unfold Oper.wp;rw[f];exact h
theorem WE (k:ops[i]?=some op) (g:op.guard=none) (d:Option Tmp) (e:op.dst=d) (f:FuncId) (args:Array Value) (m:(execOp a.eval op).run P w=.ok (.enter f args) w)
  (h:Calls P f args w λc n=>∃b,c=.returned b/\K (a.put d b) n):wpOp P ops Q i K a w:=by
 subst e;unfold wpOp;simp only[k,Region.wanted,g,if_true];refine .inl ?_;unfold Oper.wp;rw[m,Oper.upon_enter];refine h.mono λc o j=>?_;obtain⟨b,rfl,l⟩:=j;exact l
theorem P8 (g:ops[i]?=some op) (f:op.guard=none) (d:Option Tmp) (e:op.dst=d) (t:TypeId) (j:op.op=.alloc t) (c:Array Value) (b:((P.info? t).bind (·.zero)).map (·.cells)=some c)
  (h:K (a.put d (.pointer (some ⟨w.heap.size,0,none⟩))) (w.alloc (.cells c t))):wpOp P ops Q i K a w:=by
 refine KJ g f d e _ _ ?_ h;cases hq:P.info? t with
 |none=>rw[hq]at b;cases b
 |some inf=>
  cases hzz:inf.zero with
  |none=>rw[hq]at b;simp[hzz]at b
  |some z=>
   rw[hq]at b;simp[hzz]at b;subst b;simp[execOp,j,Instr.alloc,zeroValue,typeInfo,hq,hzz,newVar,newRow]
theorem fA (j:ops[i]?=some op) (g:op.guard=none) (d:Option Tmp) (f:op.dst=d) (t:TypeId) (k:op.op=.alloc t) (c:Array Value) (l:((P.info? t).bind (·.zero)).map (·.cells)=some c)
  (h:∀(b:Nat) (e:World),bW w e->w.heap.size<=b->Blk e b t c->K (a.put d (.pointer (some ⟨b,0,none⟩))) e):wpOp P ops Q i K a w:=
 P8 j g d f t k c l (h _ _ ((aj _ _).alloc (av _) _) (av _) (Wx _ _ _))
theorem opC (d f:Nat) (args:Array Value) (h:Calls P f args w λc l=>∃b,c=.returned b/\K (a.put (some d) b) l) (j:ops[i]?=some op:=by exact rfl) (g:op.guard=none:=by kernel_rfl) (e:op.dst=some d:=by kernel_rfl) (k:(execOp a.eval op).run P w=.ok (.enter f args) w:=by kernel_rfl):wpOp P ops Q i K a w:=WE j g (some d) e f args k h
theorem opA (d t:Nat) (c:Array Value) (h:∀(b:Nat) (e:World),Below w.heap.size w e->w.heap.size<=b->Blk e b t c->K (a.put (some d) (.pointer (some ⟨b,0,none⟩))) e) (j:ops[i]?=some op:=by exact rfl) (g:op.guard=none:=by kernel_rfl) (f:op.dst=some d:=by kernel_rfl) (k:op.op=.alloc t:=by kernel_rfl) (l:((P.info? t).bind (·.zero)).map (·.cells)=some c:=by kernel_rfl):wpOp P ops Q i K a w:=fA j g (some d) f t k c l h
theorem jl (c:ops[i]?=some op) (b:op.guard=none) (h:op.wp P a w K Q):wpOp P ops Q i K a w:=by
 unfold wpOp;simp only[c,Region.wanted,b,if_true];exact .inl h
theorem jX (o:ops[i]?=some op) (n:op.guard=none) (d:Option Tmp) (l:op.dst=d) (t e:TypeId) (c:Nat) (j:Array (Nat×Operand)) (q:op.op=.buildSlice t c j)
  (g:Array Value) {b:TypeInfo} {z:Value} (u:P.underlying t=some (.slice e)) (p:P.info? e=some b) (v:b.zero=some z) (s:¬c*b.size>2^24) (r:¬c*b.size=0)
  (m:Instr.fill (λi=>some (i*b.size,b.size)) ((Array.range (c*b.size)).map (z.cells[·%z.cells.size]!)) (j.map λ(i,x)=>(i,a.eval x)).toList=some g)
  (h:∀(f:Nat) (k:World),bW w k->w.heap.size<=f->Blk k f e g->K (a.put d (.slice (some ⟨f,0,none⟩) c c)) k):wpOp P ops Q i K a w:=by
 subst l;exact jl o n (wp_buildSlice t e c j q g b z u p v s r m (h _ _ ((aj _ _).alloc (av _) _) (av _) (Wx _ _ _)))
theorem fF (n:ops[i]?=some op) (m:op.guard=none) (k:op.dst=none) (ty:TypeId) (x y:Operand) (q:op.op=.store ty x y) (g o:Nat) (v:Value) (u:a.eval x=.pointer (some ⟨g,o,none⟩)) (hy:a.eval y=v) (c:v.oneCell'=true)
  (b:(P.info? ty).map (·.size)=some 1) (hb:Blk w g t C) (p:o<C.size) (h:∀d,d=w.setCell ⟨g,o,none⟩ v->K a d):wpOp P ops Q i K a w:=by
 refine jl n m ?_;have f:v.cells= #[v]:=by cases v<;>first|rfl|cases c
 (have j:w.cell? ⟨g,o,none⟩=some C[o]:=by rw[cell_of_row w g o C t (0,0) hb,Array.getElem?_eq_getElem p]);have l:=hb.frozen o;cases hq:P.info? ty with
 |none=>rw[hq]at b;cases b
 |some inf=>
  (have s:inf.size=1:=by simpa[hq]using b);(have r:(store (⟨g,o,none⟩:Addr) v).run P w=.ok () (w.setCell ⟨g,o,none⟩ v):=by rw[run_store P w _ v _ c,j];simp[l]);(have e:(⟨g,o,none⟩:Addr).add 0=⟨g,o,none⟩:=by rw[Go.WideShapes.add_plain];rfl);unfold Oper.wp execOp;simp[q,u,hy,Instr.storeAt,Instr.sureAddr,storeVar,sizeOf,typeInfo,hq,s,f,storeCells,e,r];simp[Oper.upon,k,Act.put];exact h _ rfl
theorem Ke (k:op.dst=none) (ty:TypeId) (x y:Operand) (n:op.op=.store ty x y) (g o:Nat) (v:Value) (r:a.eval x=.pointer (some ⟨g,o,none⟩)) (hy:a.eval y=v) (c:v.oneCell'=true)
  (b:(P.info? ty).map (·.size)=some 1) (hb:Blk w g t C) (m:o<C.size) (h:∀d,d=w.setCell ⟨g,o,none⟩ v->K a d):op.wp P a w K Q:=by
 have f:v.cells= #[v]:=by cases v<;>first|rfl|cases c
 (have j:w.cell? ⟨g,o,none⟩=some C[o]:=by rw[cell_of_row w g o C t (0,0) hb,Array.getElem?_eq_getElem m]);have l:=hb.frozen o;cases hq:P.info? ty with
 |none=>rw[hq]at b;cases b
 |some inf=>
  (have q:inf.size=1:=by simpa[hq]using b);(have p:(store (⟨g,o,none⟩:Addr) v).run P w=.ok () (w.setCell ⟨g,o,none⟩ v):=by rw[run_store P w _ v _ c,j];simp[l]);(have e:(⟨g,o,none⟩:Addr).add 0=⟨g,o,none⟩:=by rw[Go.WideShapes.add_plain];rfl);unfold Oper.wp execOp;simp[n,r,hy,Instr.storeAt,Instr.sureAddr,storeVar,sizeOf,typeInfo,hq,q,f,storeCells,e,p];simp[Oper.upon,k,Act.put];exact h _ rfl
theorem qR (ty:TypeId) (x y:Operand) (l:op.op=.store ty x y) (j:op.guard=none) (f:op.dst=none) (g o:Nat) (v:Value) (m:a.eval x=.pointer (some ⟨g,o,none⟩)) (hy:a.eval y=v) (d:v.oneCell'=true)
  (n:(P.info? ty).map (·.size)=some 1) (hb:Blk w g t C) (k:o<C.size) (h:∀b,b=w.setCell ⟨g,o,none⟩ v->wpList P ops Q O a b):wpList P ops Q (op::O) a w:=
 wpList_plain j λp e=>Ke f ty x y l g o v m hy d n hb k (λb c=>e _ _ (h b c))
theorem dJ (ty:TypeId) (x y:Operand) (b o:Nat) (c:Array Value) (k:ops[i]?=some op) (m:Region.ready md ops listed=[i]) (l:op.op=.store ty x y) (j:op.guard=none) (g:op.dst=none)
  (p:a.eval x=.pointer (some ⟨b,o,none⟩)) (hy:a.eval y=.agg c) (n:w.there b o c.size) (q:(P.info? ty).map (·.size)=some c.size) (e:c.all (·.oneCell')=true)
  (f:S (w.setCells b o c.toList)) (h:∀d,d=w.setCells b o c.toList->wpAnyH P md ops Q S fuel (listed.setIfInBounds i true) a d):wpAnyH P md ops Q S (fuel+1) listed a w:=
 oC ty x y b o c k m l j g p hy n q e f (h _ rfl)
theorem iG (ty:TypeId) (x y:Operand) (k:op.op=.store ty x y) (j:op.guard=none) (g:op.dst=none) (b o:Nat) (c:Array Value)
  (m:a.eval x=.pointer (some ⟨b,o,none⟩)) (hy:a.eval y=.agg c) (l:w.there b o c.size) (n:(P.info? ty).map (·.size)=some c.size) (e:c.all (·.oneCell')=true)
  (h:∀d,d=w.setCells b o c.toList->wpList P ops Q O a d):wpList P ops Q (op::O) a w:=
 wpList_plain j λp f=>wp_store_mid ty x y k b o c m hy l n e (by rw[g];exact f _ _ (h _ rfl))
theorem iL {v:Value} (i:Nat) (d:Option Tmp) (j:ops[i]?=some op) (f:op.dst=d) (l:Region.noSelect ops=true) (g:Region.free md ops listed i=true) (k:(Region.ready md ops listed).contains i=true)
  (c:∀b a w,Q (.panic b) (a.put d v) w->Q (.panic b) a w) (hy:YieldsIf P ops S op v a) (e:S w)
  (h:wpAnyH P md ops Q S fuel (listed.setIfInBounds i true) (a.put d v) w):wpAnyH P md ops Q S (fuel+1) listed a w:=by
 subst f;exact wpAnyH_take j l g k c hy e h
theorem Ip {l:List Oper} (F:Nat->Act) (C:Nat->World->Prop) (d:∀b c,C b c->Q .normal (F b) c) (h:(∀b c,C b c->Q .normal (F b) c)->(Code.region p l.toArray true).wp P Q a w):(Code.region p l.toArray true).wp P Q a w:=h d
theorem Blk.range {g:Nat} (h:Blk w g t C):w.rangeAt g 0 C.toList:=λc d b=>by
 rw[Nat.zero_add,cell_of_row w g c C t (0,0) h];simpa using b
theorem kP (ty:TypeId) (x:Operand) (j:op.op=.load ty x) (g:op.guard=none) (d:Option Tmp) (f:op.dst=d) (b:Nat) (m:a.eval x=.pointer (some ⟨b,0,none⟩)) (c:Array Value) (hb:Blk w b t c)
  (e:TypeDesc) (l:P.underlying ty=some e) (k:e.isRow=true) (n:(P.info? ty).map (·.size)=some c.size) (h:wpList P ops Q O (a.put d (.agg c)) w):wpList P ops Q (op::O) a w:=by
 subst f;exact wpList_load_mid g ty x j b 0 m c.toList e hb.range l k (by simpa using n) (by simpa using h)
theorem iZ {f:Func} {R:Ending->World->Prop} (e:Tmp) (ty:TypeId) (b:Nat) (c:Array Value) (o:f.results= #[.cell e ty]) (j:a.tmps.getD e undef=.pointer (some ⟨b,0,none⟩)) (hb:Blk w b t c)
  (d:TypeDesc) (p:P.underlying ty=some d) (n:d.isRow=true) (q:(P.info? ty).map (·.size)=some c.size) (l:a.defers=[]) (g:R (.returned (.agg c)) w):bodyPost P f R .ret a w:=by
 refine eG (v:=.agg c) ?_ l g;have m:=run_loadVar_mid (P:=P) w b 0 ty c.toList d hb.range p n (by simpa using q);(have k:a.tmps[e]?.getD undef=.pointer (some ⟨b,0,none⟩):=by rw[<-j,Array.getD_eq_getD_getElem?]);simp[results,o,k,asAddr];simpa using m
end
def XH (n m:Nat):Array Bool:=((List.range n).map m.testBit).toArray
section
variable {P:Program} {md:Region.Mode} {ops:Array Oper} {Q:X7} {S:World->Prop} {op:Oper} {fuel:Nat} {listed:Array Bool} {a a':Act} {w:World}
theorem nrm (n m:Nat) (h:wpAnyH P md ops Q S fuel (XH n m) a w) (b:listed=XH n m:=by kernel_rfl):wpAnyH P md ops Q S fuel listed a w:=b▸h
theorem tk {v:Value} (i:Nat) (d:Option Tmp) (e:S w) (k:ops[i]?=some op:=by exact rfl) (g:op.dst=d:=by kernel_rfl) (m:Region.noSelect ops=true:=by kernel_rfl) (j:Region.free md ops listed i=true:=by kernel_rfl) (l:(Region.ready md ops listed).contains i=true:=by kernel_rfl)
  (c:∀b a w,Q (.panic b) (a.put d v) w->Q (.panic b) a w:=by exact λ_ _ _ h=>h) (n:Region.wanted op (yielded ops a.tmps)=true:=by rfl) (hy:∀w,S w->(execOp a.eval op).run P w=.ok (.value v) w:=by intro w o;exact gS)
  (f:a.put d v=a':=by first|(simp only[Act.put,List.setIfInBounds_toArray,List.set_cons_zero,List.set_cons_succ];exact rfl)|exact rfl) (h:wpAnyH P md ops Q S fuel (listed.setIfInBounds i true) a' w):wpAnyH P md ops Q S (fuel+1) listed a w:=by
 subst f;exact iL i d k g m j l c (.inl ⟨n,hy⟩) e h
theorem tK {v:Value} (i d:Nat) (e:S w) (h:wpAnyH P md ops Q S fuel (listed.setIfInBounds i true) a' w) (k:ops[i]?=some op:=by exact rfl) (g:op.dst=some d:=by kernel_rfl) (m:Region.noSelect ops=true:=by kernel_rfl) (j:Region.free md ops listed i=true:=by kernel_rfl) (l:(Region.ready md ops listed).contains i=true:=by kernel_rfl)
  (c:∀b a w,Q (.panic b) (a.put (some d) v) w->Q (.panic b) a w:=by exact λ_ _ _ h=>h) (n:Region.wanted op (yielded ops a.tmps)=true:=by rfl) (hy:∀w,S w->(execOp a.eval op).run P w=.ok (.value v) w:=by intro w o;go_simp;try with_reducible rfl)
  (f:a.put (some d) v=a':=by first|(simp only[Act.put,List.setIfInBounds_toArray,List.set_cons_zero,List.set_cons_succ];exact rfl)|exact rfl):wpAnyH P md ops Q S (fuel+1) listed a w:=
 tk i (some d) e k g m j l c n hy f h
theorem X6 {v:Value} (i d:Nat) (e:S w) (h:wpAnyH P md ops Q S fuel (listed.setIfInBounds i true) a' w) (k:ops[i]?=some op:=by exact rfl) (g:op.dst=some d:=by kernel_rfl) (m:Region.noSelect ops=true:=by kernel_rfl) (j:Region.free md ops listed i=true:=by kernel_rfl) (l:(Region.ready md ops listed).contains i=true:=by kernel_rfl)
  (c:∀b a w,Q (.panic b) (a.put (some d) v) w->Q (.panic b) a w:=by exact λ_ _ _ h=>h) (n:Region.wanted op (yielded ops a.tmps)=true:=by rfl) (y:∀w,S w->(execOp a.eval op).run P w=.ok (.value v) w)
  (f:a.put (some d) v=a':=by first|(simp only[Act.put,List.setIfInBounds_toArray,List.set_cons_zero,List.set_cons_succ];exact rfl)|exact rfl):wpAnyH P md ops Q S (fuel+1) listed a w:=
 tk i (some d) e k g m j l c n y f h
theorem Yf {v:Value} {b:Prop} (i d:Nat) (g:S w) (h:wpAnyH P md ops Q S fuel (listed.setIfInBounds i true) a' w) (e:Bx (wpAnyH P md ops Q S (fuel+1) listed a w)->b:=by
 intro h;(try simp only[aP]);exact h.o) (m:ops[i]?=some op:=by exact rfl) (k:op.dst=some d:=by kernel_rfl) (o:Region.noSelect ops=true:=by kernel_rfl) (l:Region.free md ops listed i=true:=by kernel_rfl) (n:(Region.ready md ops listed).contains i=true:=by kernel_rfl)
  (f:∀c a w,Q (.panic c) (a.put (some d) v) w->Q (.panic c) a w:=by exact λ_ _ _ h=>h) (p:Region.wanted op (yielded ops a.tmps)=true:=by rfl) (hy:∀w,S w->(execOp a.eval op).run P w=.ok (.value v) w:=by intro w q;go_simp;try with_reducible rfl)
  (j:a.put (some d) v=a':=by first|(simp only[Act.put,List.setIfInBounds_toArray,List.set_cons_zero,List.set_cons_succ];exact rfl)|exact rfl):b:=
 e ⟨tk i (some d) g m k o l n f p hy j h⟩
theorem tkU (i:Nat) (d:Option Tmp) (e:S w) (k:ops[i]?=some op:=by exact rfl) (g:op.dst=d:=by kernel_rfl) (m:Region.noSelect ops=true:=by kernel_rfl) (j:Region.free md ops listed i=true:=by kernel_rfl) (l:(Region.ready md ops listed).contains i=true:=by kernel_rfl)
  (c:∀b a w,Q (.panic b) (a.put d undef) w->Q (.panic b) a w:=by exact λ_ _ _ h=>h) (n:Region.wanted op (yielded ops a.tmps)=false:=by kernel_rfl)
  (f:a.put d undef=a':=by first|(simp only[Act.put,List.setIfInBounds_toArray,List.set_cons_zero,List.set_cons_succ];exact rfl)|exact rfl) (h:wpAnyH P md ops Q S fuel (listed.setIfInBounds i true) a' w):wpAnyH P md ops Q S (fuel+1) listed a w:=by
 subst f;exact iL i d k g m j l c (.inr ⟨n,rfl⟩) e h
end
theorem mP {b c:Prop} (g:c) (h:Bx c->b:=by
 intro h;(try simp only[aP]);exact h.o):b:=h ⟨g⟩
section
variable {P:Program} {md:Region.Mode} {ops:Array Oper} {Q:X7} {S:World->Prop} {fuel:Nat} {listed:Array Bool} {a:Act} {w:World}
theorem Fu (i j l:Nat) (f:Region.ready md ops listed=[i,j,l]) (h:wpOp P ops Q i (λd c=>S c/\wpAnyH P md ops Q S fuel (listed.setIfInBounds i true) d c) a w)
  (g:wpOp P ops Q j (λd c=>S c/\wpAnyH P md ops Q S fuel (listed.setIfInBounds j true) d c) a w) (k:wpOp P ops Q l (λd c=>S c/\wpAnyH P md ops Q S fuel (listed.setIfInBounds l true) d c) a w):wpAnyH P md ops Q S (fuel+1) listed a w:=by
 refine⟨λe=>?_,λm b=>?_⟩
 .rw[f]at e;cases e
 .rw[f]at b
  simp only[bT,List.not_mem_nil,or_false]at b;rcases b with b|b|b
  .subst b;exact h
  .subst b;exact g
  .subst b;exact k
theorem uf {l:List Oper} (F:Nat->Act) (C:Nat->World->Prop) (d:∀b c,C b c->Q .normal (F b) c) (h:(∀b c,C b c->Q .normal (F b) c)->(Code.region p l.toArray true).wp P Q a w):(Code.region p l.toArray true).wp P Q a w:=h d
theorem RX {op:Oper} {i:Nat} (j:ops[i]?=some op) (g:op.guard=none) (d:Option Tmp) (f:op.dst=d) (t:TypeId) (x:Operand) (k:op.op=.box t x) (b:Array Value) (l:a.eval x=.agg b) (m:(P.info? t).map (·.size)=some b.size)
  (h:∀(c:Nat) (e:World),bW w e->w.heap.size<=c->Blk e c t b->K (a.put d ((pT c))) e):wpOp P ops Q i K a w:=by
 refine KJ j g d f ((pT w.heap.size)) (w.alloc (.cells b t)) ?_ (h _ _ ((aj _ _).alloc (av _) _) (av _) (Wx _ _ _));simp[execOp,k,l,Instr.box,newVar,newRow,Value.cells]
theorem FR {l:List Oper} (F:Nat->Nat->Option Addr->Nat->Option Addr->Nat->Act) (C:Nat->Nat->Option Addr->Nat->Option Addr->Nat->World->Prop) (j:∀d g b e c f i,C d g b e c f i->Q .normal (F d g b e c f) i) (h:(∀d g b e c f i,C d g b e c f i->Q .normal (F d g b e c f) i)->(Code.region p l.toArray true).wp P Q a w):(Code.region p l.toArray true).wp P Q a w:=h j
end
structure Iv where
 iat:Int
 b:List Int
 a:Option Addr
 c:Nat
def itV (x:Iv):List Value:=[uI x.iat,.slice x.a x.b.length x.c]
def Iv.it (x:Iv):It:=⟨x.iat,x.b⟩
def faV (f:Fa):List Value:=[bV f.drop,bV f.twice,bV f.mark,uI f.delay]
structure Bv where
 b:List Int
 a:Option Addr
 c:Nat
def bvV (x:Bv):List Value:=[.slice x.a x.b.length x.c]
structure rH (w:World) (S:X4) (p:Nat) (q:Pp):Prop where
 ex:∃af cf ai ci,∃iv:List Iv,Blk w p 218 #[.slice af q.qF.length cf,jI q.count,.slice ai iv.length ci]/\Row w S 187 4 af q.qF.length (q.qF.flatMap faV)/\gW w S 222 2 ai iv.length ci (iv.flatMap itV)/\(∀x∈iv,Bys w S x.a x.b)/\q.items=iv.map Iv.it
 mem:S p
structure vY (k:Nat) (q:Pp):Prop where
 count:q.count<=k
 items:q.items.length<=2*k
 ok:∀x∈q.items,Word x.iat/\dP x.b/\x.b.length<=100000
 qF:q.qF.length<=1000000000
 word:∀f∈q.qF,Word f.delay
section
variable {w w':World} {S S':X4} {p:Nat} {q:Pp} {ts:X8}
theorem rH.mono (h:rH w S p q) (a:∀b,S b->S' b):rH w S' p q:=by
 obtain⟨c,e,d,f,n,g,i,j,k,l⟩:=h.ex;exact⟨⟨c,e,d,f,n,g,i.mono a,j.mono a,λo m=>aF (k o m) a,l⟩,a _ h.mem⟩
theorem rH.keep (h:rH w S p q) (a:bQ S ts w w') (f:some 218∈ts) (g:some 187∈ts) (i:some 222∈ts) (j:some 5∈ts):rH w' S p q:=by
 obtain⟨b,d,c,e,l,m,n,o,r,s⟩:=h.ex;exact⟨⟨b,d,c,e,l,m.keep a h.mem f,n.keep a g,o.keep a i,λt k=>aG (r t k) a j,s⟩,h.mem⟩
theorem rH.below (h:rH w S p q) (hb:bW w w'):rH w' S p q:=h.keep (ts:=[some 218,some 187,some 222,some 5]) (bQ.below hb) sM sM sM sM
end
theorem KQ (x:It) (l:List It) (m:Nat) (a:m<l.length) (h:x.iat<l[m].iat):WY x (l.take (m+1)).reverse (l.drop (m+1))=WY x (l.take m).reverse (l.drop m):=by
 rw[bB a,List.reverse_append,List.reverse_singleton,List.singleton_append,aR a]
 conv=>lhs;unfold WY
 rw[aB h]
theorem Ck (x:It) (l:List It) (k:Nat) (c:∀b,k<=b->∀d:b<l.length,x.iat<l[b].iat):∀a,k+a<=l.length->WY x (l.take (k+a)).reverse (l.drop (k+a))=WY x (l.take k).reverse (l.drop k)
 |0,_=>rfl
 |a+1,hm=>by
  rw[<-Nat.add_assoc,KQ x l (k+a) oM (c _ oM oM)];exact Ck x l k c a oM
theorem Qt (x:It) (l:List It) (k:Nat) (e:k<=l.length) (c:∀a,k<=a->∀b:a<l.length,x.iat<l[a].iat) (d:∀a,a+1=k->∀b:a<l.length,¬x.iat<l[a].iat):uD l x=l.take k++x::l.drop k:=by
 have h:=Ck x l k c (l.length -k) oM;rw[Nat.add_sub_cancel' e,dM,List.drop_length]at h;unfold uD;rw[h];cases k with
 |zero=>simp[WY]
 |succ a=>
  have b:a<l.length:=oM;have:=d a rfl b;rw[bB b,List.reverse_append,List.reverse_singleton,List.singleton_append];unfold WY;rw[Ww this];simp
theorem Ou {now:Int} {x:It} {t:List It} (h:x.iat<=now):iy now (x::t)=x.b::iy now t:=by simp[iy,h]
theorem QW {now:Int} {x:It} {t:List It} (h:¬x.iat<=now):iy now (x::t)=[]:=by unfold iy;rw[Ww h]
theorem Nj {now:Int} {x:It} {t:List It} (h:x.iat<=now):iH now (x::t)=iH now t:=by simp[iH,h]
theorem PE {now:Int} {x:It} {t:List It} (h:¬x.iat<=now):iH now (x::t)=x::t:=by unfold iH;rw[Ww h]
theorem wR {now:Int} {l:List It} {b:List Int} (h:b∈iy now l):∃a∈l,a.b=b:=by
 induction l with
 |nil=>unfold iy at h;cases h
 |cons a t ih=>
  unfold iy at h;split at h
  .rcases bT.1 h with h|h
   .exact⟨a,sM,h.symm⟩
   .obtain⟨e,d,c⟩:=ih h;exact⟨e,by simp[d],c⟩
  .cases h
theorem Nk {now:Int} {l:List It} {x:It} (h:x∈iH now l):x∈l:=by
 induction l with
 |nil=>exact h
 |cons y t ih=>
  unfold iH at h;split at h
  .exact jQ _ (ih h)
  .exact h
theorem pU (now:Int) (l:List It):(iy now l).length+(iH now l).length=l.length:=by
 induction l with
 |nil=>rfl
 |cons y t ih=>
  unfold iy iH;split
  .simp only[aY];omega
  .simp
theorem EI (x:It):∀(a b:List It),(WY x a b).length=a.length+b.length+1
 |[],b=>by unfold WY;simp
 |y::a,b=>by
  unfold WY;split
  .rw[EI x a];simp;omega
  .simp;omega
theorem vE (l:List It) (x:It):(uD l x).length=l.length+1:=by unfold uD;rw[EI];simp
theorem EH (x y:It):∀(a b:List It),y∈WY x a b->y=x\/y∈a\/y∈b
 |[],b,h=>by unfold WY at h;simpa using h
 |z::a,b,h=>by
  unfold WY at h;split at h
  .rcases EH x y a _ h with h|h|h
   .exact .inl h
   .exact .inr (.inl (by simp[h]))
   .rcases bT.1 h with h|h
    .exact .inr (.inl (by simp[h]))
    .exact .inr (.inr h)
  .simp only[List.reverse_cons,List.append_assoc,WB,List.mem_reverse,bT,List.not_mem_nil,or_false]at h
   rcases h with h|h|h|h
   .exact .inr (.inl (by simp[h]))
   .exact .inr (.inl (by simp[h]))
   .exact .inl h
   .exact .inr (.inr h)
theorem vD {l:List It} {x y:It} (h:y∈uD l x):y=x\/y∈l:=by
 rcases EH x y _ _ h with h|h|h
 .exact .inl h
 .exact .inr (by simpa using h)
 .cases h
theorem Gw (x:Iv):(itV x).length=2:=rfl
theorem oO:Elem prog 216 222 2 32 itV:=
 ⟨by kernel_rfl,by
  obtain⟨a,c,d,e,f⟩:=info_parts (show(prog.info? 222).map (λa=>(a.zero,a.size,a.bytes))=some (some (.agg #[uI 0,zzN]),2,32) by kernel_rfl);exact⟨a,_,c,d,e,f,rfl⟩,dC,λ_=>rfl,λi g b=>by simp[itV]at b;rcases b with rfl|rfl<;>rfl⟩
theorem Ivs.at_ {S:X4} {a:X5} {b:List Iv} (h:gW w S 222 2 a b.length c (b.flatMap itV)) {j:Nat} (g:j<b.length):
  ∃d e,a=some ⟨d,e,none⟩/\S d/\d<w.heap.size/\w.cell? ⟨d,e+j*2,none⟩=some (uI b[j].iat)/\w.cell? ⟨d,e+j*2+1,none⟩=some (.slice b[j].a b[j].b.length b[j].c):=by
 obtain⟨d,e,i,k,l,f⟩:=h.row.at_ oM;refine⟨d,e,i,k,l,f _ _ ?_,?_⟩
 .exact mr Gw b j 0 g oM
 .rw[Nat.add_assoc];exact f _ _ (mr Gw b j 1 g oM)
theorem RP {A B:List Value} {c0 c1 u v:Value} (b:A.length=n):((A++[c0,c1]++B).set n u).set (n+1) v=A++[u,v]++B:=by
 subst b
 induction A with
 |nil=>rfl
 |cons a A ih=>simp
theorem Mc (a:List Iv) (x z:Iv) (m:Nat) (c:m<=a.length):
  (((((a++[z]).take (m+1)++((a++[z]).drop m).take ((a++[z]).length -(m+1))).flatMap itV).set (m*2) (uI x.iat)).set (m*2+1) (.slice x.a x.b.length x.c))=(a.take m++x::a.drop m).flatMap itV:=by
 have d:((a++[z]).drop m).take ((a++[z]).length -(m+1))=a.drop m:=by
  rw[List.drop_append_of_le_length c,aU,bO,show a.length+1 -(m+1)=(a.drop m).length by rw[bI];omega];exact List.take_left
 have e:m<(a++[z]).length:=sO;obtain⟨b,f⟩:∃b,(a++[z]).take (m+1)=a.take m++[b]:=⟨(a++[z])[m],by rw[bB e,List.take_append_of_le_length c]⟩;rw[d,f];simp only[iE,List.flatMap_cons,List.flatMap_nil,List.append_nil];have:=RP (A:=(a.take m).flatMap itV) (B:=(a.drop m).flatMap itV) (c0:=uI b.iat) (c1:=.slice b.a b.b.length b.c) (u:=uI x.iat) (v:=.slice x.a x.b.length x.c) (n:=m*2) (by rw[sZ Gw,aT,fJ c]);simpa[itV]using this
def lyT:List (Option TypeId):=[some 218,some 222]
theorem qQ (k:Nat) (d:k<=1000000000) (S:X4) (p:Nat) (q:Pp) (x:Iv) (w:World) (h:rH w S p q) (j3:q.items.length<=2*k+1) (hb:Bys w S x.a x.b) (r:Word x.iat) (o8:∀f5∈q.items,Word f5.iat) (c8:Bd S w):
  Yk 101 #[pT p,.agg #[uI x.iat,.slice x.a x.b.length x.c]] w λd7 l0=>
   d7=.returned (.tuple #[])/\rH l0 (grow S w l0) p {q with items:=uD q.items x.it}/\Mod S lyT w l0:=by
 obtain⟨a7,a9,l4,i3,b,g1,m0,m1,l9,j9⟩:=h.ex;have f9:=h.mem;have o2:=g1.lt;obtain⟨f4,d5,m3⟩:=q;obtain⟨j,s,y,z⟩:=x;simp only at*
 obtain⟨m7,l2,f6,l1,l3⟩:=BF m1 m0 l9 hb j9;(have q7:b.length<=2*k+1:=by rw[j9,bR]at j3;exact j3);have k8:¬(p=w.heap.size):=oM;have f8:=g1.Wu 2;have m4:=zH g1;clear g1 m1 m0 l9 hb j9 h j3 o8;go_enter Tryz.func101,Tryz.ntmps101;go_wp2_with fail;generalize j1:w.alloc (.cells #[uI j,.slice y s.length z] 222)=c6;(have g0:bW w c6:=by rw[<-j1];exact BEL);(have g5:Blk c6 w.heap.size 222 #[uI j,.slice y s.length z]:=by rw[<-j1];exact Wx _ _ _);obtain⟨a8,l7⟩:=eX w.heap.size;rw[<-l7]at g5 k8|-;obtain⟨c7,h7⟩:=yx g0 g5;have k3:=g5.lt;have j6:Blk c6 p 218 #[.slice a7 f4.length a9,jI d5,.slice l4 b.length i3]:=m4.o.below g0 o2;have h3:=zH j6;have j7:=j6.lt;have g6:=zH (m7.o.below g0);have r3:w.heap.size<=a8:=oM;clear j1 g0 g5 f8 j6 l7;go_loopw [4] (λM wr=>∃(a:Nat),a<=b.length/\M=jI a/\X3 (∀f,a<=f->∀g3:f<b.length,j<b[f].iat)/\X3 (∃f2,wr=c6.drewN f2)) (λM _=>(intOf M).toNat);(case atStart=>exact⟨b.length,oM,rfl,(λf F G=>by omega),⟨0,rfl⟩⟩);case round=>
  obtain⟨a,q8,rfl,d0,f7⟩:=hrel;have a4:=zH (show bW c6 wr from by obtain⟨f2,d7⟩:=f7.o;rw[d7];exact aA (aj _ _) f2);have j2:=h7.o.below a4.o k3;have l8:=h3.o.below a4.o j7;obtain⟨l5,l6⟩:=j2.e2 0 1;have f8:=l8.Wu 2;clear j2 l8;rcases Nat.eq_zero_or_pos a with m2|m2
  .subst m2
   have b9:X3 (∀f,f+1=0->∀g3:f<b.length,¬j<b[f].iat):=zH (λf h=>by omega);go_wp2;refine mQ ?_;rintro _ ⟨nq,rfl⟩;have m5:=zH b9;have g4:0<=b.length:=oM;have g8:=zH (Qt ⟨j,s⟩ (b.map Iv.it) (0) sM (λf F G=>by rw[List.getElem_map];exact d0.o f F (by simpa using G)) (λf F G=>by rw[List.getElem_map];have:=b9.o f F (by simpa using G);show¬j<b[f].iat;omega));generalize e5:wr.drewN nq=v;have H:=zH (show bW c6 v by rw[<-e5];exact aA a4.o _);have U:=h3.o.below H.o j7;have b5:=h7.o.below H.o k3;have i2:=U.Wu 2;have o5:=U.lt;have p1:=b5.lt;obtain⟨h6,h9,g7⟩:=Av U b5 (g6.o.below H.o);have f1:w.heap.size<=v.heap.size:=ay c7.o.size H.o.size;have p4:¬(p=v.heap.size):=oM;clear e5 U b5 l5 l6 f8 b9 d0 a4 f7;go_wp2_with (at_builtin;refine oO.DC rfl (.tmp 32) (.tmp 34) rfl (l4) i3 b XG (g7.o.below (BEL)) (λk d=>by have:=c8 k d;simp;omega) (some ⟨v.heap.size,0,none⟩) 1 [(⟨0,[],none,0⟩:Iv)] XG (oO.single (⟨0,[],none,0⟩:Iv) (Wx v 222 _) rfl) sO dC sM ?_;intro g c E C Y;have I:=zH C;have a5:=zH Y;have R:=(h6.o.alloc (.cells #[uI 0,zzN] 222)).mod Y dC;obtain⟨i4,i5⟩:=R.cz 2;have a6:=zH R;have j8:=R.lt;have e6:=(h9.o.alloc (.cells #[uI 0,zzN] 222)).o Y (λh=>by have:=c8 _ h;omega);have d4:=zH e6;clear C Y R e6 i2);obtain⟨e,O⟩:=eX (b.length+1);rw[<-O];(have b3:(b++[(⟨0,[],none,0⟩:Iv)]).length=e:=by rw[O];simp);have C:=I.o;rw[b3]at C;replace I:=zH C;clear C;obtain⟨u,L⟩:=eX (E.setCell ⟨p,2,none⟩ (.slice g e c));rw[<-L];obtain⟨a2,c2⟩:=eX (v.alloc (.cells #[uI 0,zzN] 222));rw[<-c2]at a5 I;(have W:bW v a2:=by rw[c2];exact BEL);(have T:Blk u p 218 #[.slice a7 f4.length a9,jI d5,.slice g e c]:=by rw[L];exact a6.o.bF 2 _);have j5:∀d8,g=some ⟨d8,0,none⟩->True:=λ_ _=>trivial;(have b4:Blk u a8 222 #[uI j,.slice y s.length z]:=by rw[L];exact d4.o.far (Ne.symm k8) _);(have Z:Mod (λk=>k=p) [some 218] E u:=by rw[L];exact(aV (λk=>k=p) [some 218] E).setCell a6.o (λ_=>rfl) sM 2 _);have Q:gW u (grow S a2 E) 222 2 g e c ((b++[(⟨0,[],none,0⟩:Iv)]).flatMap itV):=I.o.keep (Z.aM (ts:=[some 222]) dC) sM;have e1:Mod S lyT w u:=(((aH ((c7.o.trans (H.o.mono c7.o.size)).trans (W.mono f1))).trans (a5.o.mono (λ_ _ h=>h) (by simp[lyT]))).then (Z.mono (λ_ _ h=>h) (by simp[lyT])) (λk _ h=>by subst h;exact f9));have c0:∀k,grow S a2 E k->grow S w u k:=λk d=>d.imp id (λh=>⟨ay (ay f1 W.size) h.1,aC h.2 Z.size⟩);obtain⟨A,N⟩:=eX (grow S a2 E);(have e4:∀k,S k->A k:=λk d=>by rw[N];exact .inl d);have e7:¬A a8:=by
    rw[N];rintro(h|h)
    .have:=c8 _ h;omega
    .have F:=h.1;have G:=W.size;omega
   rw[<-N]at Q c0;obtain⟨h4,h8,h2,h1,d1,m9⟩:=Fy T b4 Q e1 c0 e4;obtain⟨o3,o9,k9,n9⟩:=Ju T.lt b4.lt (T.Wu 2) Q.cap_;obtain⟨p2,c1,k4,c3,k5⟩:=info_parts (show(prog.info? 222).map (λM=>(M.zero,M.size,M.bytes))=some (some (.agg #[uI 0,zzN]),2,32) by kernel_rfl);have e8:∀w,(Instr.slice 216 (.slice g e c) (some (jI 1)) none none).run prog w=.ok (.slice (fE g c 1 2) (e -1) (c -1)) w:=λw=>by
    have h:=gI (P:=prog) oO.ht c1 g e c 1 oM w;rw[c3]at h;simpa using h
   have e9:∀w,(Instr.slice 216 (.slice g e c) (some (jI 0)) none none).run prog w=.ok (.slice (fE g c (0) 2) (e -(0)) (c -(0))) w:=λw=>by
    have h:=gI (P:=prog) oO.ht c1 g e c (0) oM w;rw[c3]at h;simpa using h
   obtain⟨n1,b6⟩:=eX (fE g c 1 2);obtain⟨n2,b7⟩:=eX (fE g c (0) 2);rw[<-b6]at e8;rw[<-b7]at e9;obtain⟨B,g9,i0,i1⟩:=Bq b3 O b6 b7;have i8:0<e:=oM;clear L c2 W T j5 b4 Z Q e1 c0 N e4 c1 k4 c3 k5 b3 O b6 b7 I a5 a6 d4 i4 i5 j8;refine bP 13 kR kR ?_;refine mB ?_;rintro _ ⟨c4,rfl⟩;refine dA rfl rfl ?_;refine oO.LH (.tmp 44) (.tmp 50) rfl g c (b++[(⟨0,[],none,0⟩:Iv)]) (0) (by rw[B.o];exact i8) (by rw[B.o,<-i0.o];simp[Act.eval]) (by rw[B.o,<-i1.o];simp[Act.eval]) (by rw[B.o];exact h2.o.below (BEL)) ?_;intro n a1 a0;rw[B.o]at a1;refine aK ?_;obtain⟨d3,d2⟩:=yx a1 a0;have J:=(h4.o.drewN c4).mod a0 dC;have K:=(h8.o.drewN c4).o a0 e7;obtain⟨h5,n0⟩:=yx J K;have e0:1<((((b++[(⟨0,[],none,0⟩:Iv)]).take (0+1)++((b++[(⟨0,[],none,0⟩:Iv)]).drop (0)).take (e -(0+1))).flatMap itV)).length:=by
    rw[a1.len];omega
   obtain⟨l,m,d6,hA4,b2,o,b8,f0⟩:=d3.o.bF (i:=0) oM;have q0:=J.Wu 2;obtain⟨p8,p9⟩:=K.e2 0 1;obtain⟨u0,o6⟩:∃c5,n.cell? ⟨l,m,none⟩=some c5:=⟨_,(cell_of_row n l _ d6 222 _ o).trans (b8 (0) _ (aL oM))⟩;obtain⟨u1,o7⟩:∃c5,n.cell? ⟨l,m+1,none⟩=some c5:=⟨_,(cell_of_row n l _ d6 222 _ o).trans (b8 (1) _ (aL oM))⟩;have n3:=o.frozen (m);have n4:=o.frozen (m+1);have f3:¬(p=l):=J.ne_ o dC;have p3:¬(a8=l):=λh=>e7 (h▸b2);have n7:0<(e:Int):=oM;have n8:(0:Int)<=0:=oM;subst hA4;obtain⟨m8,h0,c9⟩:=Av f0 e0 o;obtain⟨o4,p0,o0⟩:=Hl J.lt K.lt o.lt;clear J K b8 f0 e0 o a1 a0 k9 e8 e9;go_wp2;refine bP 7 kR kR ?_;refine mB ?_;rintro _ ⟨D,rfl⟩;refine dA rfl rfl ?_;go_simp;refine aK ?_;refine mE ?_;obtain⟨t,V⟩:=eX (((n.drewN D).setCell ⟨l,m,none⟩ (uI j)).setCell ⟨l,m+1,none⟩ (.slice y s.length z));rw[<-V];have i9:gW t A 222 2 (some ⟨l,m,none⟩) e c ((b.take (0)++(⟨j,s,y,z⟩:Iv)::b.drop (0)).flatMap itV):=by
    rw[V,<-Mc b ⟨j,s,y,z⟩ (⟨0,[],none,0⟩:Iv) (0) g4,B.o];have i6:=d3.o.below (aA (aj n.heap.size n) D);have j4:=h0.o;obtain⟨n5,p6,_,hA5,_,_,_,k0⟩:=i6.bF (i:=0) oM;injection hA5 with hA5;injection hA5 with b0 b1;subst b0 b1;obtain⟨n6,p7,_,hA6,_,_,_,k2⟩:=(k0 (uI j)).bF (i:=1) (by rw[List.length_set];exact j4);injection hA6 with hA6;injection hA6 with b0 b1;subst b0 b1;exact k2 _
   (have e2:Mod A [some 222] n t:=by rw[V];exact(((aV A [some 222] n).drewN D).setCell (c9.o.drewN D) (λ_=>b2) sM _ _).setCell ((c9.o.drewN D).bF _ _) (λ_=>b2) sM _ _);have e3:Mod S lyT w t:=(h1.o.drewN c4).then ((d2.o.trans e2).mono (λ_ _ h=>h) (by simp[lyT])) (λk d h=>(d1.o k h).elim id (λh=>by have:=h.1;omega));(have j0:Blk t p 218 #[.slice a7 f4.length a9,jI d5,.slice (some ⟨l,m,none⟩) e c]:=by rw[V];exact((h5.o.drewN D).far f3 _).far f3 _);have k1:u.heap.size<=t.heap.size:=ay d2.o.size e2.size;have i7:∀k,A k->grow S w t k:=λk d=>(d1.o k d).imp id (λh=>⟨h.1,aC h.2 k1⟩);(have d9:(b.take (0)++(⟨j,s,y,z⟩:Iv)::b.drop (0)).length=e:=by rw[g9.o,aU,aY,aT,bI];omega);have X:bQ S [some 187,some 5] w t:=e3.aM (ts:=[some 187,some 5]) dC;refine⟨rfl,⟨⟨a7,a9,some ⟨l,m,none⟩,c,b.take (0)++(⟨j,s,y,z⟩:Iv)::b.drop (0),?_,?_,?_,?_,?_⟩,.inl f9⟩,e3⟩
   .rw[d9];exact j0
   .exact(l2.o.keep X sM).mono (λk d=>.inl d)
   .rw[d9];exact i9.mono i7
   .intro x r
    rcases WB.1 r with r|r
    .exact(aG (f6.o x (bf r)) X sM).mono (λk d=>.inl d)
    .rcases bT.1 r with rfl|r
     .exact(aG l1.o X sM).mono (λk d=>.inl d)
     .exact(aG (f6.o x (dW r)) X sM).mono (λk d=>.inl d)
   .show uD m3 _=_
    rw[l3.o,List.map_append,List.map_cons,List.map_take,List.map_drop];exact g8.o
  .obtain⟨a,rfl⟩:∃f,a=f+1:=⟨a -1,oM⟩
   have o1:a<b.length:=oM;obtain⟨d8,p5,rfl,q5,q6,k6,k7⟩:=Ivs.at_ (g6.o.below a4.o) o1;have r2:(0:Int)<((a+1:Nat):Int):=oM;have r0:((a+1:Nat):Int) -1=(a:Int):=oM;have r1:(a:Int)<(b.length:Int):=oM;have q9:(0:Int)<=(a:Int):=oM;by_cases a3:j<b[a].iat
   .have m6:X3 (∀f,a<=f->∀g3:f<b.length,j<b[f].iat):=zH (λf F G=>by
     rcases Nat.eq_or_lt_of_le F with h|h
     .subst h;exact a3
     .exact d0.o f h G)
    (have g2:=bM a3);generalize b[a]=f5 at*
    obtain⟨q2,q3,q1,q4⟩:=f5;simp only at k6 k7 g2 a3;clear a3;go_wp2;refine mQ ?_;rintro _ ⟨nq,rfl⟩;go_wp2;go_roundw;(case rel=>exact⟨a,oM,by go_num,m6,zH (by obtain⟨f2,d7⟩:=f7.o;exact⟨f2+nq,by rw[d7];simp[World.drewN,Nat.add_assoc]⟩)⟩);case measure=>simp[intOf]
   .have b9:X3 (∀f,f+1=a+1->∀g3:f<b.length,¬j<b[f].iat):=zH (λf h g3=>by
     obtain rfl:f=a:=oM;exact a3)
    (have g2:=bJ a3);generalize b[a]=f5 at*
    obtain⟨q2,q3,q1,q4⟩:=f5;simp only at k6 k7 g2 a3;clear a3;go_wp2;refine mQ ?_;rintro _ ⟨nq,rfl⟩;clear k6 k7 g2;have m5:=zH b9;have g4:a+1<=b.length:=oM;have g8:=zH (Qt ⟨j,s⟩ (b.map Iv.it) (a+1) (by simpa using g4) (λf F G=>by rw[List.getElem_map];exact d0.o f F (by simpa using G)) (λf F G=>by rw[List.getElem_map];have:=b9.o f F (by simpa using G);show¬j<b[f].iat;omega));generalize e5:wr.drewN nq=v;have H:=zH (show bW c6 v by rw[<-e5];exact aA a4.o _);have U:=h3.o.below H.o j7;have b5:=h7.o.below H.o k3;have i2:=U.Wu 2;have o5:=U.lt;have p1:=b5.lt;obtain⟨h6,h9,g7⟩:=Av U b5 (g6.o.below H.o);have f1:w.heap.size<=v.heap.size:=ay c7.o.size H.o.size;have p4:¬(p=v.heap.size):=oM;clear e5 U b5 l5 l6 f8 b9 d0 a4 f7;go_wp2_with (at_builtin;refine oO.DC rfl (.tmp 32) (.tmp 34) rfl ((some ⟨d8,p5,none⟩)) i3 b XG (g7.o.below (BEL)) (λk d=>by have:=c8 k d;simp;omega) (some ⟨v.heap.size,0,none⟩) 1 [(⟨0,[],none,0⟩:Iv)] XG (oO.single (⟨0,[],none,0⟩:Iv) (Wx v 222 _) rfl) sO dC sM ?_;intro g c E C Y;have I:=zH C;have a5:=zH Y;have R:=(h6.o.alloc (.cells #[uI 0,zzN] 222)).mod Y dC;obtain⟨i4,i5⟩:=R.cz 2;have a6:=zH R;have j8:=R.lt;have e6:=(h9.o.alloc (.cells #[uI 0,zzN] 222)).o Y (λh=>by have:=c8 _ h;omega);have d4:=zH e6;clear C Y R e6 i2);obtain⟨e,O⟩:=eX (b.length+1);rw[<-O];(have b3:(b++[(⟨0,[],none,0⟩:Iv)]).length=e:=by rw[O];simp);have C:=I.o;rw[b3]at C;replace I:=zH C;clear C;obtain⟨u,L⟩:=eX (E.setCell ⟨p,2,none⟩ (.slice g e c));rw[<-L];obtain⟨a2,c2⟩:=eX (v.alloc (.cells #[uI 0,zzN] 222));rw[<-c2]at a5 I;(have W:bW v a2:=by rw[c2];exact BEL);(have T:Blk u p 218 #[.slice a7 f4.length a9,jI d5,.slice g e c]:=by rw[L];exact a6.o.bF 2 _);have j5:∀d8,g=some ⟨d8,0,none⟩->True:=λ_ _=>trivial;(have b4:Blk u a8 222 #[uI j,.slice y s.length z]:=by rw[L];exact d4.o.far (Ne.symm k8) _);(have Z:Mod (λk=>k=p) [some 218] E u:=by rw[L];exact(aV (λk=>k=p) [some 218] E).setCell a6.o (λ_=>rfl) sM 2 _);have Q:gW u (grow S a2 E) 222 2 g e c ((b++[(⟨0,[],none,0⟩:Iv)]).flatMap itV):=I.o.keep (Z.aM (ts:=[some 222]) dC) sM;have e1:Mod S lyT w u:=(((aH ((c7.o.trans (H.o.mono c7.o.size)).trans (W.mono f1))).trans (a5.o.mono (λ_ _ h=>h) (by simp[lyT]))).then (Z.mono (λ_ _ h=>h) (by simp[lyT])) (λk _ h=>by subst h;exact f9));have c0:∀k,grow S a2 E k->grow S w u k:=λk d=>d.imp id (λh=>⟨ay (ay f1 W.size) h.1,aC h.2 Z.size⟩);obtain⟨A,N⟩:=eX (grow S a2 E);(have e4:∀k,S k->A k:=λk d=>by rw[N];exact .inl d);have e7:¬A a8:=by
     rw[N];rintro(h|h)
     .have:=c8 _ h;omega
     .have F:=h.1;have G:=W.size;omega
    rw[<-N]at Q c0;obtain⟨h4,h8,h2,h1,d1,m9⟩:=Fy T b4 Q e1 c0 e4;obtain⟨o3,o9,k9,n9⟩:=Ju T.lt b4.lt (T.Wu 2) Q.cap_;obtain⟨p2,c1,k4,c3,k5⟩:=info_parts (show(prog.info? 222).map (λM=>(M.zero,M.size,M.bytes))=some (some (.agg #[uI 0,zzN]),2,32) by kernel_rfl);have e8:∀w,(Instr.slice 216 (.slice g e c) (some (jI ((a:Int)+1+1))) none none).run prog w=.ok (.slice (fE g c (a+1+1) 2) (e -(a+1+1)) (c -(a+1+1))) w:=λw=>by
     have h:=gI (P:=prog) oO.ht c1 g e c (a+1+1) oM w;rw[c3]at h;simpa using h
    have e9:∀w,(Instr.slice 216 (.slice g e c) (some (jI ((a:Int)+1))) none none).run prog w=.ok (.slice (fE g c (a+1) 2) (e -(a+1)) (c -(a+1))) w:=λw=>by
     have h:=gI (P:=prog) oO.ht c1 g e c (a+1) oM w;rw[c3]at h;simpa using h
    obtain⟨n1,b6⟩:=eX (fE g c (a+1+1) 2);obtain⟨n2,b7⟩:=eX (fE g c (a+1) 2);rw[<-b6]at e8;rw[<-b7]at e9;obtain⟨B,g9,i0,i1⟩:=Bq b3 O b6 b7;have i8:a+1<e:=oM;clear L c2 W T j5 b4 Z Q e1 c0 N e4 c1 k4 c3 k5 b3 O b6 b7 I a5 a6 d4 i4 i5 j8;refine bP 13 kR kR ?_;refine mB ?_;rintro _ ⟨c4,rfl⟩;refine dA rfl rfl ?_;refine oO.LH (.tmp 44) (.tmp 50) rfl g c (b++[(⟨0,[],none,0⟩:Iv)]) (a+1) (by rw[B.o];exact i8) (by rw[B.o,<-i0.o];simp[Act.eval]) (by rw[B.o,<-i1.o];simp[Act.eval]) (by rw[B.o];exact h2.o.below (BEL)) ?_;intro n a1 a0;rw[B.o]at a1;refine aK ?_;obtain⟨d3,d2⟩:=yx a1 a0;have J:=(h4.o.drewN c4).mod a0 dC;have K:=(h8.o.drewN c4).o a0 e7;obtain⟨h5,n0⟩:=yx J K;have e0:(a+1)*2+1<((((b++[(⟨0,[],none,0⟩:Iv)]).take (a+1+1)++((b++[(⟨0,[],none,0⟩:Iv)]).drop (a+1)).take (e -(a+1+1))).flatMap itV)).length:=by
     rw[a1.len];omega
    obtain⟨l,m,d6,hA4,b2,o,b8,f0⟩:=d3.o.bF (i:=(a+1)*2) oM;have q0:=J.Wu 2;obtain⟨p8,p9⟩:=K.e2 0 1;obtain⟨u0,o6⟩:∃c5,n.cell? ⟨l,m+(a+1)*2,none⟩=some c5:=⟨_,(cell_of_row n l _ d6 222 _ o).trans (b8 ((a+1)*2) _ (aL oM))⟩;obtain⟨u1,o7⟩:∃c5,n.cell? ⟨l,m+(a+1)*2+1,none⟩=some c5:=⟨_,(cell_of_row n l _ d6 222 _ o).trans (b8 ((a+1)*2+1) _ (aL oM))⟩;have n3:=o.frozen (m+(a+1)*2);have n4:=o.frozen (m+(a+1)*2+1);have f3:¬(p=l):=J.ne_ o dC;have p3:¬(a8=l):=λh=>e7 (h▸b2);have n7:((a:Int)+1)<(e:Int):=oM;have n8:(0:Int)<=((a:Int)+1):=oM;subst hA4;obtain⟨m8,h0,c9⟩:=Av f0 e0 o;obtain⟨o4,p0,o0⟩:=Hl J.lt K.lt o.lt;clear J K b8 f0 e0 o a1 a0 k9 e8 e9;go_wp2;refine bP 7 kR kR ?_;refine mB ?_;rintro _ ⟨D,rfl⟩;refine dA rfl rfl ?_;go_simp;refine aK ?_;refine mE ?_;obtain⟨t,V⟩:=eX (((n.drewN D).setCell ⟨l,m+(a+1)*2,none⟩ (uI j)).setCell ⟨l,m+(a+1)*2+1,none⟩ (.slice y s.length z));rw[<-V];have i9:gW t A 222 2 (some ⟨l,m,none⟩) e c ((b.take (a+1)++(⟨j,s,y,z⟩:Iv)::b.drop (a+1)).flatMap itV):=by
     rw[V,<-Mc b ⟨j,s,y,z⟩ (⟨0,[],none,0⟩:Iv) (a+1) g4,B.o];have i6:=d3.o.below (aA (aj n.heap.size n) D);have j4:=h0.o;obtain⟨n5,p6,_,hA5,_,_,_,k0⟩:=i6.bF (i:=(a+1)*2) oM;injection hA5 with hA5;injection hA5 with b0 b1;subst b0 b1;obtain⟨n6,p7,_,hA6,_,_,_,k2⟩:=(k0 (uI j)).bF (i:=(a+1)*2+1) (by rw[List.length_set];exact j4);injection hA6 with hA6;injection hA6 with b0 b1;subst b0 b1;exact k2 _
    (have e2:Mod A [some 222] n t:=by rw[V];exact(((aV A [some 222] n).drewN D).setCell (c9.o.drewN D) (λ_=>b2) sM _ _).setCell ((c9.o.drewN D).bF _ _) (λ_=>b2) sM _ _);have e3:Mod S lyT w t:=(h1.o.drewN c4).then ((d2.o.trans e2).mono (λ_ _ h=>h) (by simp[lyT])) (λk d h=>(d1.o k h).elim id (λh=>by have:=h.1;omega));(have j0:Blk t p 218 #[.slice a7 f4.length a9,jI d5,.slice (some ⟨l,m,none⟩) e c]:=by rw[V];exact((h5.o.drewN D).far f3 _).far f3 _);have k1:u.heap.size<=t.heap.size:=ay d2.o.size e2.size;have i7:∀k,A k->grow S w t k:=λk d=>(d1.o k d).imp id (λh=>⟨h.1,aC h.2 k1⟩);(have d9:(b.take (a+1)++(⟨j,s,y,z⟩:Iv)::b.drop (a+1)).length=e:=by rw[g9.o,aU,aY,aT,bI];omega);have X:bQ S [some 187,some 5] w t:=e3.aM (ts:=[some 187,some 5]) dC;refine⟨rfl,⟨⟨a7,a9,some ⟨l,m,none⟩,c,b.take (a+1)++(⟨j,s,y,z⟩:Iv)::b.drop (a+1),?_,?_,?_,?_,?_⟩,.inl f9⟩,e3⟩
    .rw[d9];exact j0
    .exact(l2.o.keep X sM).mono (λk d=>.inl d)
    .rw[d9];exact i9.mono i7
    .intro x r
     rcases WB.1 r with r|r
     .exact(aG (f6.o x (bf r)) X sM).mono (λk d=>.inl d)
     .rcases bT.1 r with rfl|r
      .exact(aG l1.o X sM).mono (λk d=>.inl d)
      .exact(aG (f6.o x (dW r)) X sM).mono (λk d=>.inl d)
    .show uD m3 _=_
     rw[l3.o,List.map_append,List.map_cons,List.map_take,List.map_drop];exact g8.o
theorem AU (x:Fa):(faV x).length=4:=rfl
theorem Sm:Elem prog 100 187 4 16 faV:=
 ⟨by kernel_rfl,by
  obtain⟨a,c,d,e,f⟩:=info_parts (show(prog.info? 187).map (λa=>(a.zero,a.size,a.bytes))=some (some (.agg #[bV false,bV false,bV false,uI 0]),4,16) by kernel_rfl);exact⟨a,_,c,d,e,f,rfl⟩,dC,λ_=>rfl,λi g b=>by simp[faV]at b;rcases b with rfl|rfl|rfl|rfl<;>rfl⟩
theorem Em (p:X4) (a:X5) (c:Nat) (b:List Fa) (w:World) (h:Row w p 187 4 a b.length (b.flatMap faV)) (y:b.length<=1000000000):
  Yk 80 #[.slice a b.length c] w λr e=>∃k,r=.returned ((pT k))/\rH e (λd=>w.heap.size<=d/\d<e.heap.size) k ⟨b,0,[]⟩/\bW w e:=by
 have m:=zH h;clear h;go_enter Tryz.func80,Tryz.ntmps80;go_wp2_with (at_builtin;refine Sm.wpList rfl _ (.tmp 3) rfl w.heap.size none 0 [] (by rfl) (iq _ _ _ _) a c b (by rfl) m.o sO dC (av _) ?_;intro l q x j g;have f:bW w x:=(aj w.heap.size w).grown g (av _) XI;have o:=zH j;have n:=zH f;clear j g f);refine mV ?_;have i:=o.o;rw[List.nil_append]at i;have t:=OwnAt.fresh i;have s:=n.o;have z:=s.size;refine⟨_,rfl,⟨⟨l,q,none,0,[],Wx _ _ _,?_,gW.WH,(λA v=>by cases v),rfl⟩,?_⟩,?_⟩
 .refine(aD t.row ?_).mono (λd u=>⟨u.1,by simp;omega⟩)
  exact BEL
 .simp;omega
 .exact BEL
theorem My:Elem prog 95 47 1 24 bvV:=
 ⟨by kernel_rfl,by
  obtain⟨a,c,d,e,f⟩:=info_parts (show(prog.info? 47).map (λa=>(a.zero,a.size,a.bytes))=some (some (zzN),1,24) by kernel_rfl);exact⟨a,_,c,d,e,f,rfl⟩,dC,λ_=>rfl,λi g b=>by simp[bvV]at b;rcases b with rfl;rfl⟩
def slLen:Value->Nat| .slice _ n _=>n|_=>0
structure CmAt (w wr:World) (S:X4) (p:Nat) (qF:List Fa) (count:Nat) (items:List It) (now:Int) (n:Nat) (A:X5) (c:Nat) (bv:List Bv) (af:X5) (cf:Nat) (ai:X5) (ci:Nat) (iv:List Iv):Prop where
 o:OwnAt wr (λk=>w.heap.size<=k) 47 1 A bv.length c (bv.flatMap bvV)
 by_:∀x∈bv,Bys wr (λk=>w.heap.size<=k) x.a x.b/\x.b.length<=x.c
 blk:Blk wr p 218 #[.slice af qF.length cf,jI count,.slice ai iv.length ci]
 off:gW wr S 222 2 ai iv.length ci (iv.flatMap itV)
 bys:∀x∈iv,Bys wr S x.a x.b
 come:bv.map (·.b)++iy now (iv.map Iv.it)=iy now items
 rest:iH now (iv.map Iv.it)=iH now items
 len:bv.length+iv.length=n
 md:Mod S [some 218] w wr
 ok:∀x∈iv,x.b.length<=100000
theorem BQ (k:Nat) (i:k<=1000000000) (S:X4) (p:Nat) (q:Pp) (now:Int) (w:World) (h:rH w S p q) (a0:q.items.length<=2*k+1) (c5:∀l∈q.items,Word l.iat/\l.b.length<=100000) (f4:Word now) (e8:Bd S w):
  Yk 84 #[pT p,uI now] w λd7 M=>∃b3 m,∃d:List Bv,
   d7=.returned (.slice b3 d.length m)/\d.map (·.b)=iy now q.items/\OwnAt M (λk=>w.heap.size<=k) 47 1 b3 d.length m (d.flatMap bvV)/\(∀c∈d,Bys M (λk=>w.heap.size<=k) c.a c.b/\c.b.length<=c.c)/\rH M S p {q with items:=iH now q.items}/\Mod S [some 218] w M:=by
 obtain⟨C,D,v,b,z,V,b5,b8,b4,G⟩:=h.ex;have U:=h.mem;have f5:=V.lt;obtain⟨a6,T,c8⟩:=q;simp only at*
 (have f2:z.length<=2*k+1:=by rw[G,bR]at a0;exact a0);have b1:=zH b5;have a8:CmAt w w S p a6 T c8 now z.length none 0 [] C D v b z:=
  ⟨OwnAt.WH,(λc e=>by cases e),V,b8,b4,by rw[G];rfl,by rw[G],sM,aV _ _ _,λc e=>(c5 (Iv.it c) (by rw[G];exact List.mem_map_of_mem e)).2⟩
 have a9:=zH a8;clear V b5 b8 b4 G h a0 c5 a8;go_enter Tryz.func84,Tryz.ntmps84;go_wp2;go_loopw [5] (λn wr=>∃s m,∃d:List Bv,∃v b,∃a5:List Iv,n=.slice s d.length m/\X3 (CmAt w wr S p a6 T c8 now z.length s m d C D v b a5)) (λn _=>z.length -slLen n);(case atStart=>exact⟨none,0,[],v,b,z,rfl,a9⟩);case round=>
  obtain⟨s,m,d,v,b,a5,rfl,g⟩:=hrel;have f3:=g.o.len;have W:=g.o.blk;obtain⟨e4,e7⟩:=W.cz 2;have e1:=W.lt;have c6:w.heap.size<=wr.heap.size:=g.o.md.size;clear W a9;cases a5 with
  |nil=>
   simp only[List.length_nil]at*
   go_wp2_with fail;refine mV ?_;have a:=g.o;refine⟨s,m,d,rfl,?_,a.o,a.by_,⟨⟨C,D,v,b,[],a.blk,?_,a.off,a.bys,?_⟩,U⟩,a.md⟩
   .have:=a.come;simpa[iy]using this
   .exact b1.o.keep (a.md.aM (ts:=[some 187]) dC) sM
   .have:=a.rest;simpa[iH]using this.symm
  |cons l t=>
   obtain⟨H,n,rfl,e9,f1,c9,d0⟩:=Ivs.at_ g.o.off (j:=0) sM;simp only[Nat.zero_mul,Nat.add_zero,List.getElem_cons_zero,aY]at*
   have c7:=g.o.ok l sM;have O:=zH (g.o.bys l sM);by_cases F:l.iat<=now
   .have K:=bM F
    obtain⟨o,f,A,B⟩:=l;simp only at c9 d0 c7 O F K;obtain⟨f8,b7,e2,L,e3⟩:=info_parts (show(prog.info? 222).map (λa4=>(a4.zero,a4.size,a4.bytes))=some (some (.agg #[uI 0,zzN]),2,32) by kernel_rfl);have hcut:∀w,(Instr.slice 216 (.slice (some ⟨H,n,none⟩) (t.length+1) b) (some (jI 1)) none none).run prog w=.ok (.slice (fE (some ⟨H,n,none⟩) b 1 2) t.length (b -1)) w:=λw=>by
     have h:=gI (P:=prog) oO.ht b7 (some ⟨H,n,none⟩) (t.length+1) b 1 oM w;rw[L]at h;simpa using h
    obtain⟨R,X⟩:=eX (fE (some (⟨H,n,none⟩:Addr)) b 1 2);rw[<-X]at hcut;have d3:=zH X;clear b7 e2 L e3 X F;have b0:X3 (o<=now):=zH (by simpa using K);go_wp2_with (at_builtin;first|(refine fe.wpList rfl _ (.tmp 32) rfl wr.heap.size none 0 [] (by rfl) (iq _ _ _ _) A B f XG O.o sO dC (av _) ?_;intro u y r c3 b6;have J:bW wr r:=(aj wr.heap.size wr).grown b6 (av _) XI;have d4:=zH c3;have N:=zH J;have f7:=J.size;clear c3 b6 J)|(refine My.jO (S:=λk=>w.heap.size<=k) rfl (.tmp 25) (.tmp 34) rfl s m d XG (g.o.o.below (show bW wr _ from(by have f0:=N.o;exact BEL))) (some ⟨r.heap.size,0,none⟩) 1 [⟨f,u,y⟩] XG (My.single ⟨f,u,y⟩ (Wx r 47 _) rfl) sO dC ?_;intro d2 d6 a7 c2 a1 e0;have I:=((g.o.blk.below N.o e1).alloc (.cells #[.slice u f.length y] 47)).mod a1 dC;obtain⟨e5,e6⟩:=I.cz 2;have b2:=zH I;have d5:=zH c2;have Q:=zH a1;have f6:=I.lt;clear c2 a1 e0 I));go_roundw;case rel=>
     refine⟨d2,d6,d++[⟨f,u,y⟩],R,b -1,t,sM,?_⟩;have a:=g.o;have J:=N.o;have E:bW wr (r.alloc (.cells #[.slice u f.length y] 47)):=BEL;have b9:=Q.o.aM (S':=λk=>w.heap.size<=k) (ts:=[some 5]) dC;have c1:=Q.o.aM (S':=S) (ts:=[some 5,some 222]) dC;obtain⟨d1,a3⟩:=eX (a7.setCell ⟨p,2,none⟩ (.slice R t.length (b -1)));rw[<-a3];(have a2:Mod (λk=>k=p) [some 218] a7 d1:=by rw[a3];exact(aV (λk=>k=p) [some 218] a7).setCell b2.o (λ_=>rfl) sM 2 _);(have d8:Blk d1 p 218 #[.slice C a6.length D,jI T,.slice R t.length (b -1)]:=by rw[a3];exact b2.o.bF 2 _);have Y:=OwnAt.fresh d4.o;rw[List.nil_append]at Y;have d9:bW r (r.alloc (.cells #[.slice u f.length y] 47)):=BEL;have Z:=a2.aM (S':=λk=>w.heap.size<=k) (ts:=[some 5,some 47]) dC;have c0:=a2.aM (S':=S) (ts:=[some 5,some 222]) dC;have L:=E.size;refine⟨?_,?_,d8,?_,?_,?_,?_,?_,?_,?_⟩
     .refine(d5.o.mono (λk i=>?_)).keep Z sM
      rcases i with i|i
      .exact i
      .exact ay (ay c6 L) i.1
     .intro c e
      rcases WB.1 e with e|e
      .have:=a.by_ c e
       exact⟨aG (aG (aD this.1 E) b9 sM) Z sM,this.2⟩
      .obtain rfl:c=_:=dZ.1 e
       refine⟨aG (aG ((aD Y.row d9).mono (λk i=>ay c6 i.1)) b9 sM) Z sM,Y.cap_⟩
     .have c4:=a.off.tail (k:=1) sM
      rw[<-d3.o]at c4;exact((c4.below E).keep c1 sM).keep c0 sM
     .intro c e
      exact aG (aG (aD (a.bys c (by simp[e])) E) c1 sM) c0 sM
     .have:=a.come
      rw[List.map_cons,Ou (x:=(⟨o,f,A,B⟩:Iv).it) b0.o]at this;rw[List.map_append,List.append_assoc];exact this
     .have:=a.rest
      rw[List.map_cons,Nj (x:=(⟨o,f,A,B⟩:Iv).it) b0.o]at this;exact this
     .simp;omega
     .exact(((a.md.trans (aH E)).nA Q.o (λk i=>i))).then (a2.mono (λ_ _ h=>h) sM) (λk _ h=>by subst h;exact U)
     .exact λc e=>a.ok c (by simp[e])
    case measure=>simp[intOf,slLen];omega
   .have K:=bJ F
    obtain⟨o,f,A,B⟩:=l;simp only at c9 d0 c7 O F K;go_wp2_with fail;refine mV ?_;have a:=g.o;refine⟨s,m,d,rfl,?_,a.o,a.by_,⟨⟨C,D,_,b,_,a.blk,?_,a.off,a.bys,?_⟩,U⟩,a.md⟩
    .have:=a.come;rw[List.map_cons,QW (x:=(⟨o,f,A,B⟩:Iv).it) (show¬o<=now by omega),List.append_nil]at this;exact this
    .exact b1.o.keep (a.md.aM (ts:=[some 187]) dC) sM
    .have:=a.rest;rw[List.map_cons,PE (x:=(⟨o,f,A,B⟩:Iv).it) (show¬o<=now by omega)]at this;exact this.symm
end Go.Proofs.YtiflndepmgnojaaGreat
