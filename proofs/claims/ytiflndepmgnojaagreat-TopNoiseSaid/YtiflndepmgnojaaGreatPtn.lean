import Derived.Great.BuildSlice
import Derived.Test.YtiflndepmgnojaaGreatOff
import Derived.Test.YtiflndepmgnojaaGreatInv
namespace Go.Proofs.YtiflndepmgnojaaGreat
open Go.RowKit Tryz
set_option linter.unusedSimpArgs false
set_option linter.unusedVariables false
set_option maxHeartbeats 4000000
set_option maxRecDepth 100000
variable {b p c n:Nat} {e t:TypeId} {w w' W:World} {l:List Int} {C:Array Value} {K:Act->World->Prop} {O:List Oper}
attribute[local go_sem] BW.cell BW.frozen
def spV (s:Sp):List Value:=[uI s.lo,uI s.hi]
def spVs (l:List Sp):List Value:=l.flatMap spV
structure SpW (s:Sp):Prop where
 lo:Word s.lo
 hi:Word s.hi
def Sps (w:World) (S:X4) (a:X5) (l:List Sp):Prop:=Row w S 272 2 a l.length (spVs l)
theorem Sps.at_ {S:X4} {a:X5} {l:List Sp} {j:Nat} (h:Sps w S a l) (hb:bW w w') (r:j<l.length):
  ∃b d,a=some ⟨b,d,none⟩/\b<w.heap.size/\w'.cell? ⟨b,d+j*2,none⟩=some (uI l[j].lo)/\w'.cell? ⟨b,d+j*2+1,none⟩=some (uI l[j].hi):=by
 obtain⟨b,d,n,t,k,e⟩:=Row.at_ h oM;have q:=λc e=>mr (f:=spV) (m:=2) (λ_=>rfl) l j c r e;have i:∀c g,c<2->(spV l[j])[c]?=some g->w'.cell? ⟨b,d+j*2+c,none⟩=some g:=λc g o s=>by
  rw[Nat.add_assoc];exact(hb.cell (p:=⟨b,d+(j*2+c),none⟩) k).trans (e _ _ ((q c o).trans s))
 exact⟨b,d,n,k,i 0 _ oM rfl,i 1 _ oM rfl⟩
theorem zG (s:Sp) (w:World):
  Yk 212 #[.agg #[uI s.lo,uI s.hi]] w λe f=>e=.returned (bV (jf s))/\bW w f:=by
 obtain⟨b,a⟩:=s;by_cases c:b<=a
 .go_enter Tryz.func212,Tryz.ntmps212
  go_wp2;go_ret;exact⟨eF (by unfold jf;simp[c]),BEL⟩
 .have d:decide (b<=a)=false:=sO
  go_enter Tryz.func212,Tryz.ntmps212;go_wp2;go_ret;exact⟨eF (by unfold jf;simp[d]),BEL⟩
theorem Ar (p:Option Int) (s:Sp) (t:List Sp):oh p (s::t)=(jf s&&(match p with|none=>true|some h=> !decide (s.lo<=h+1))&&oh (some s.hi) t):=rfl
def uj (l:List Sp) (j:Nat):Option Int:=if j=0 then none else(l[j -1]?).map (·.hi)
theorem IA {l:List Sp} {j:Nat} (h:j<l.length):uj l (j+1)=some l[j].hi:=by unfold uj;simp[h]
theorem qw (S:X4) (a:X5) (c:Nat) (l:List Sp) (w:World) (h:Sps w S a l) (a9:l.length<=9223372036854775807) (P:∀e∈l,SpW e):
  Yk 211 #[.slice a l.length c] w λQ X=>Q=.returned (bV (iR l))/\bW w X:=by
 obtain⟨F,G⟩:=yx h P;clear h P;go_enter Tryz.func211,Tryz.ntmps211;go_wp2;go_loopw [7] (λz wr=>∃(b:Nat),b<=l.length/\z=jI b/\X3 (oh (uj l b) (l.drop b)=iR l)/\(0<b->(l[b -1]?.map (·.hi)).getD 0<=4611686018427387903)/\X3 (bW w wr)) (λz _=>l.length -(intOf z).toNat);(case atStart=>exact⟨0,oM,rfl,rfl,λh=>by omega,aj _ _⟩);case round=>
  obtain⟨b,a8,rfl,E,m,f⟩:=hrel;have r:=f.o.size;by_cases o:b<l.length
  .obtain⟨H,b3,rfl,a5,b1,b2⟩:=F.o.at_ f.o o
   have d:=E.o;rw[aR o,Ar]at d;have M:=IA o;have q:=G.o _ (aN o);obtain⟨b9,c0,c1,c2⟩:=Hl q.lo.1 q.lo.2 q.hi.1 q.hi.2;have k:=zH (zG l[b]);have D:X3 (uj l (b+1)=some l[b].hi):=zH M;have C:X3 ((l[b+1 -1]?.map (·.hi)).getD 0=l[b].hi):=zH (by simp[o]);clear M q;by_cases i:jf l[b]=true
   .rw[i]at d k
    (have L:l[b].hi<=4611686018427387903:=by unfold jf at i;simp at i;exact i.2);clear i;by_cases s:b=0
    .have U:decide (0<(b:Int))=false:=sO
     have V:decide (0<b)=false:=sO;(have p:uj l b=none:=by unfold uj;rw[aB s]);rw[p]at d;simp only[Bool.true_and]at d;rw[<-D.o]at d;have u:=zH d;clear d p s m;generalize l[b]=e at*
     obtain⟨A,x⟩:=e;simp only at*
     go_wp2;refine fq kR kR ?_;(repeat (go_big_quiet_step ((go_at_call 212;exact bU _ (k.o _)))));refine aK ?_;refine bwI ?_;intro B g;go_wp2;go_roundw;(case rel=>exact⟨b+1,oM,by go_num,u,λ_=>by rw[C.o];exact L,(f.o.alloc r _).trans (g.mono sO)⟩);case measure=>exact Yl
    .have U:decide (0<(b:Int))=true:=sO
     have V:decide (0<b)=true:=sO;have W:0<b:=oM;have m:=m W;obtain⟨Z,b4,v,_,b7,b8⟩:=F.o.at_ f.o (j:=b -1) oM;injection v with v;injection v with R T;subst R T;(have p:uj l b=some l[b -1].hi:=by unfold uj;rw[Ww s];simp[show b -1<l.length by omega]);(have N:(l[b -1]?.map (·.hi)).getD 0=l[b -1].hi:=by simp[show b -1<l.length by omega]);rw[N]at m;rw[p]at d;have b5:=(G.o _ (aN (show b -1<l.length by omega))).hi.1;generalize l[b -1].hi=t at*
     generalize l[b -1].lo=b6 at*
     have I:(b:Int) -1=((b -1:Nat):Int):=oM;have a0:(0:Int)<=(b:Int) -1:=oM;have a1:(b:Int) -1<(l.length:Int):=oM;have a2:((b:Int) -1).toNat=b -1:=oM;have a3:IntKind.i64.wrap ((b:Int) -1)=(b:Int) -1:=eP _ oM;have a4:IntKind.u64.wrap (t+1)=t+1:=Wz _ oM;have Y:=zH I;have a6:H<wr.heap.size:=oM;have a7:H<wr.heap.size+1:=oM;clear p s N I;by_cases y:l[b].lo<=t+1
     .have K:iR l=false:=by rw[<-d];simp[y]
      have n:=zH K;clear d K;generalize l[b]=e at*
      obtain⟨A,x⟩:=e;simp only at*
      go_wp2;refine fq kR kR ?_;(repeat (go_big_quiet_step ((go_at_call 212;exact bU _ (k.o _)))));refine aK ?_;refine bwI ?_;intro B g;go_wp2;go_ret;exact⟨eF n.o.symm,(f.o.alloc r _).trans (g.mono sO)⟩
     .have J:oh (uj l (b+1)) (l.drop (b+1))=iR l:=by rw[D.o,<-d];simp[y]
      have b0:decide (l[b].lo<=t+1)=false:=sO;have u:=zH J;clear d J y;generalize l[b]=e at*
      obtain⟨A,x⟩:=e;simp only at*
      go_wp2;refine fq kR kR ?_;(repeat (go_big_quiet_step ((go_at_call 212;exact bU _ (k.o _)))));refine aK ?_;refine bwI ?_;intro B g;go_wp2;go_roundw;(case rel=>exact⟨b+1,oM,by go_num,u,λ_=>by rw[C.o];exact L,(f.o.alloc r _).trans (g.mono sO)⟩);case measure=>exact Yl
   .have O:jf l[b]=false:=by simpa using i
    rw[O]at d k;simp only[Bool.false_and]at d;have n:=zH d.symm;clear d i O m;generalize l[b]=e at*
    obtain⟨A,x⟩:=e;simp only at*
    go_wp2;refine fq kR kR ?_;(repeat (go_big_quiet_step ((go_at_call 212;exact bU _ (k.o _)))));refine aK ?_;refine bwI ?_;intro B g;go_wp2;go_ret;exact⟨eF n.o.symm,(f.o.alloc r _).trans (g.mono sO)⟩
  .obtain rfl:b=l.length:=oM
   have d:=E.o;rw[List.drop_length]at d;have n:X3 (iR l=true):=zH d.symm;clear d m;go_wp2;go_ret;exact⟨eF n.o.symm,f.o⟩
theorem iP:Elem prog 90 272 2 16 spV:=
 ⟨Tryz.underlying90,by
  obtain⟨a,c,d,e,f⟩:=info_parts (show(prog.info? 272).map (λa=>(a.zero,a.size,a.bytes))=some (some (.agg #[uI 0,uI 0]),2,16) by kernel_rfl);exact⟨a,_,c,d,e,f,rfl⟩,dC,λ_=>rfl,λi g b=>by simp[spV]at b;rcases b with rfl|rfl<;>rfl⟩
theorem CX (x:Sp) (t:List Sp) (n:Int):dI (x::t) n=(nV n x||dI t n):=rfl
theorem yZ (S:X4) (a:X5) (c:Nat) (l:List Sp) (n:Int) (w:World) (h:Sps w S a l) (D:l.length<=9223372036854775807) (z:∀s∈l,SpW s):
  Yk 156 #[.slice a l.length c,uI n] w λC G=>C=.returned (bV (oQ l n))/\bW w G:=by
 obtain⟨k,B⟩:=yx (qw S a c l w h D z) h;clear h z;by_cases g:iR l=true
 .rw[g]at k
  (have i:oQ l n=dI l n:=by unfold oQ;rw[g];rfl);rw[i];clear g i;go_enter Tryz.func156,Tryz.ntmps156;go_wp2_with fail;refine Yd k.o ?_;intro H f;have j:=zH f;clear f;go_wp2;go_loopw [12] (λr wr=>∃(d:Nat),d<=l.length/\r=jI d/\X3 (dI (l.drop d) n=dI l n)/\X3 (bW w wr)) (λr _=>l.length -(intOf r).toNat);(case atStart=>exact⟨0,oM,rfl,rfl,j⟩);case round=>
   obtain⟨d,M,rfl,t,e⟩:=hrel;have q:=e.o.size;clear j;by_cases y:d<l.length
   .obtain⟨I,N,rfl,L,E,F⟩:=B.o.at_ e.o y
    have b:=t.o;rw[aR y,CX]at b;generalize l[d]=s at*
    obtain⟨A,x⟩:=s;simp only at E F;by_cases u:A<=n
    .by_cases v:n<=x
     .have o:X3 (dI l n=true):=zH (by rw[<-b];simp[nV,u,v])
      clear b;go_wp2;go_ret;exact⟨eF o.o.symm,e.o.alloc q _⟩
     .have K:decide (n<=x)=false:=sO
      have m:X3 (dI (l.drop (d+1)) n=dI l n):=zH (by rw[<-b];simp[nV,v]);clear b;go_wp2;go_roundw;(case rel=>exact⟨d+1,oM,by go_num,m,e.o.alloc q _⟩);case measure=>exact Yl
    .have J:decide (A<=n)=false:=sO
     have m:X3 (dI (l.drop (d+1)) n=dI l n):=zH (by rw[<-b];simp[nV,u]);clear b;go_wp2;go_roundw;(case rel=>exact⟨d+1,oM,by go_num,m,e.o.alloc q _⟩);case measure=>exact Yl
   .obtain rfl:d=l.length:=oM
    have b:=t.o;rw[List.drop_length]at b;have o:X3 (dI l n=false):=zH b.symm;clear b;go_wp2;go_ret;exact⟨eF o.o.symm,e.o⟩
 .have p:iR l=false:=by simpa using g
  rw[p]at k;(have i:oQ l n=false:=by unfold oQ;rw[p];rfl);rw[i];clear g p i;go_enter Tryz.func156,Tryz.ntmps156;go_wp2_with fail;refine Yd k.o ?_;intro H f;have j:=zH f;clear f;go_wp2;go_ret;exact⟨rfl,j.o⟩
theorem kQ {g:Nat} {lo a:Int} (h:Blk w g 272 #[uI lo,uI a]):Row w (λb=>b=g) 272 2 (some ⟨g,0,none⟩) [(⟨lo,a⟩:Sp)].length ([(⟨lo,a⟩:Sp)].flatMap spV):=iP.single _ h rfl
theorem yM {size n c m:Nat} {a:X5} {xs:List Value} (h:w.ownsRow b e size (.slice a n c) m xs):n<=c:=by
 rcases h.2 with⟨d,l⟩|⟨k,g,i,d,_,_,o,_⟩
 .injection d with _ f _;omega
 .injection d with _ f j;omega
theorem AV (S:X4) (a:X5) (c:Nat) (l:List Sp) (s:Sp) (w:World) (h:Sps w S a l) (i3:l.length<=1000000000) (a9:∀s∈l,SpW s) (f0:SpW s):
  Yk 201 #[.slice a l.length c,.agg #[uI s.lo,uI s.hi]] w λR O=>∃a5 a6,R=.returned (.tuple #[.slice a5 (jh l s).length a6,bV (iR l&&jf s)])/\(jh l s).length<=a6/\Sps O (λb1=>w.heap.size<=b1/\b1<O.heap.size) a5 (jh l s)/\bW w O:=by
 obtain⟨L,d5,X,d6⟩:=Bq (λO (e7:bW w O)=>qw S a c l O (h.below e7) oM a9) h (zG s) a9;clear h a9;obtain⟨d,b⟩:=s;obtain⟨⟨g0,g1⟩,⟨g2,g3⟩⟩:=f0;simp only at g0 g1 g2 g3;by_cases x:iR l=true
 .by_cases G:jf ⟨d,b⟩=true
  .rw[x]at L
   rw[G]at X;(have I:jh l ⟨d,b⟩=l.flatMap (ji ⟨d,b⟩):=by unfold jh;rw[x,G];rfl);rw[x,G,I];(have i4:b<=4611686018427387903:=by unfold jf at G;simp at G;exact G.2);clear x G I;go_enter Tryz.func201,Tryz.ntmps201;go_wp2_with fail;refine Yd (L.o _ BEL) ?_;intro y o;have a3:X3 (Below (w.alloc (.cells #[uI d,uI b] 272)).heap.size (w.alloc (.cells #[uI d,uI b] 272)) y):=o;have b4:=o.cell (p:=⟨w.heap.size,0,none⟩) sM;have b5:=o.cell (p:=⟨w.heap.size,1,none⟩) sM;simp[go_sem]at b4 b5;(have c7:w.heap.size<y.heap.size:=by have:=o.size;simp at this;omega);clear o;go_wp2_with fail;refine Yd (X.o _) ?_;intro c8 T;have V:X3 (Below (w.alloc (.cells #[uI d,uI b] 272)).heap.size (w.alloc (.cells #[uI d,uI b] 272)) c8):=zH (a3.o.trans (T.mono a3.o.size));clear T b4 b5 c7 a3;go_wp2_with fail;generalize Z:w.alloc (.cells #[uI d,uI b] 272)=i at*
   (have c4:bW w i:=by rw[<-Z];exact BEL);(have c2:i.heap.size=w.heap.size+1:=by rw[<-Z];simp);(have c0:Blk i w.heap.size 272 #[uI d,uI b]:=by rw[<-Z];exact Wx _ _ _);obtain⟨a4,d1,h5⟩:=Av c0 c4 c2;have a2:w.heap.size<i.heap.size:=oM;clear Z c0 c4 c2;go_loopw [6,19] (λg4 b0 wr=>∃(g:Nat) (e:List Sp) (u:X5) (v:Nat),g<=l.length/\b0=jI g/\g4=.slice u e.length v/\e.length<=2*g/\
    X3 (wr.ownsRow i.heap.size 272 2 (.slice u e.length v) e.length (e.flatMap spV))/\X3 (e++(l.drop g).flatMap (ji ⟨d,b⟩)=l.flatMap (ji ⟨d,b⟩))/\X3 (bW i wr)) (λ_ b0 _=>l.length -(intOf b0).toNat)
   (case atStart=>exact⟨0,[],none,0,oM,rfl,rfl,sM,iq _ _ _ _,rfl,V⟩);case round=>
    obtain⟨g,e,u,v,i2,rfl,rfl,i0,P,b8,A⟩:=hrel;clear V;have N:=A.o.size;have b6:X3 (Blk wr w.heap.size 272 #[uI d,uI b]):=zH (a4.o.below A.o a2);obtain⟨b4,b5⟩:=b6.o.e2 0 1;have c7:w.heap.size<wr.heap.size:=oM;have a7:=d1.o.trans (A.o.mono (fO a2));by_cases a8:g<l.length
    .obtain⟨h6,i5,rfl,M,f8,f9⟩:=d5.o.at_ a7 a8
     have K:=b8.o;rw[aR a8,List.flatMap_cons]at K;have J:=zH K;have U:=d6.o _ (aN a8);obtain⟨g7,g8,g9,h0⟩:=Hl U.lo.1 U.lo.2 U.hi.1 U.hi.2;clear K a7 U;generalize l[g]=g6 at*
     obtain⟨j,f⟩:=g6;simp only at f8 f9 g7 g8 g9 h0;have c1:∀(b2 b3:Obj),((wr.alloc b2).alloc b3).ownsRow i.heap.size 272 2 (.slice u e.length v) e.length (e.flatMap spV):=λb2 b3=>(P.o.alloc b2).alloc b3;obtain⟨t,b7⟩:=yx c1 (zI P.o);clear c1;by_cases b9:f<d
     .go_wp2_with (at_builtin;refine iP.wpList rfl (.tmp 35) (.tmp 37) rfl i.heap.size u v (e) (by rfl) (t.o _ _) (some ⟨wr.heap.size+1,0,none⟩) 1 [⟨j,f⟩] (by rfl) (kQ (Blk.qN _ _ _ _)) sO dC sO ?_;intro z D q n m)
      have k:bW i q:=((A.o.alloc N _).alloc sO _).grown m sO (jM (t.o (.cells #[] 0) (.cells #[] 0)));have C:X3 ((e++[⟨j,f⟩])++(l.drop (g+1)).flatMap (ji ⟨d,b⟩)=l.flatMap (ji ⟨d,b⟩)):=zH (by have:=J.o;simpa[ji,b9]using this);obtain⟨r,B⟩:=yx n k;clear n k m;go_wp2;go_roundw;(case rel=>exact⟨g+1,_,z,D,oM,by go_num,sM,by simp only[aU,bO];omega,r,C,B⟩);case measure=>exact Yl
     .by_cases e2:b<j
      .have e1:decide (f<d)=false:=sO
       go_wp2_with (at_builtin;refine iP.wpList rfl (.tmp 35) (.tmp 37) rfl i.heap.size u v (e) (by rfl) (t.o _ _) (some ⟨wr.heap.size+1,0,none⟩) 1 [⟨j,f⟩] (by rfl) (kQ (Blk.qN _ _ _ _)) sO dC sO ?_;intro z D q n m);have k:bW i q:=((A.o.alloc N _).alloc sO _).grown m sO (jM (t.o (.cells #[] 0) (.cells #[] 0)));have C:X3 ((e++[⟨j,f⟩])++(l.drop (g+1)).flatMap (ji ⟨d,b⟩)=l.flatMap (ji ⟨d,b⟩)):=zH (by have:=J.o;simpa[ji,b9,e2]using this);obtain⟨r,B⟩:=yx n k;clear n k m;go_wp2;go_roundw;(case rel=>exact⟨g+1,_,z,D,oM,by go_num,sM,by simp only[aU,bO];omega,r,C,B⟩);case measure=>exact Yl
      .have e1:decide (f<d)=false:=sO
       have h7:decide (b<j)=false:=sO;by_cases Y:j<d
       .by_cases Q:b<f
        .have h4:=J
         go_wp2_with (first|(at_builtin;refine iP.wpList rfl (.tmp 58) (.tmp 65) rfl i.heap.size z D (e++[⟨j,d -1⟩]) (by first|rfl|simp[Act.eval]) (r.o.alloc _) (some ⟨q.heap.size,0,none⟩) 1 [⟨(b+1),f⟩] (by rfl) (kQ (Wx _ _ _)) sO dC sO ?_;intro c9 e3 g5 c6 c5)|(at_builtin;refine iP.wpList rfl (.tmp 44) (.tmp 51) rfl i.heap.size u v (e) (by rfl) (t.o _ _) (some ⟨wr.heap.size+1,0,none⟩) 1 [⟨j,(d -1)⟩] (by rfl) (kQ (Blk.qN _ _ _ _)) sO dC sO ?_;intro z D q n m;have k:bW i q:=((A.o.alloc N _).alloc sO _).grown m sO (jM (t.o (.cells #[] 0) (.cells #[] 0)));have F:Blk q wr.heap.size 272 #[uI j,uI f]:=((Wx wr _ _).alloc _).grown m (λR=>by have:=b7.o wr.heap.size R.symm;omega);have h1:=F.Wu 0;have h2:=F.Wu 1;have h3:=F.lt;have E:=a4.o.below k a2;have d8:=E.Wu 0;have d9:=E.Wu 1;have e0:=E.lt;have r:=zH n;have B:=zH k;have f1:=k.size;clear n k m F E));have C:X3 (((e++[⟨j,d -1⟩])++[⟨b+1,f⟩])++(l.drop (g+1)).flatMap (ji ⟨d,b⟩)=l.flatMap (ji ⟨d,b⟩)):=zH (by have:=J.o;simpa[ji,(show¬(f<d\/b<j)from by omega),Y,Q]using this);have c3:bW i g5:=(B.o.alloc oM _).grown c5 sO (jM r.o);obtain⟨d4,d0⟩:=yx c6 c3;clear c6 c3 c5;go_wp2;go_roundw;(case rel=>exact⟨g+1,_,c9,e3,oM,by go_num,sM,by simp only[aU,bO];omega,d4,C,d0⟩);case measure=>exact Yl
        .have e4:decide (b<f)=false:=sO
         go_wp2_with (at_builtin;refine iP.wpList rfl (.tmp 44) (.tmp 51) rfl i.heap.size u v (e) (by rfl) (t.o _ _) (some ⟨wr.heap.size+1,0,none⟩) 1 [⟨j,(d -1)⟩] (by rfl) (kQ (Blk.qN _ _ _ _)) sO dC sO ?_;intro z D q n m;have k:bW i q:=((A.o.alloc N _).alloc sO _).grown m sO (jM (t.o (.cells #[] 0) (.cells #[] 0)));have F:Blk q wr.heap.size 272 #[uI j,uI f]:=((Wx wr _ _).alloc _).grown m (λR=>by have:=b7.o wr.heap.size R.symm;omega);have h1:=F.Wu 0;have h2:=F.Wu 1;have h3:=F.lt;have E:=a4.o.below k a2;have d8:=E.Wu 0;have d9:=E.Wu 1;have e0:=E.lt;have r:=zH n;have B:=zH k;have f1:=k.size;clear n k m F E);have C:X3 ((e++[⟨j,d -1⟩])++(l.drop (g+1)).flatMap (ji ⟨d,b⟩)=l.flatMap (ji ⟨d,b⟩)):=zH (by have:=J.o;simpa[ji,(show¬(f<d\/b<j)from by omega),Y,eq_false Q]using this);go_wp2;go_roundw;(case rel=>exact⟨g+1,_,z,D,oM,by go_num,sM,by simp only[aU,bO];omega,r,C,B⟩);case measure=>exact Yl
       .have h8:decide (j<d)=false:=sO
        by_cases Q:b<f
        .go_wp2_with (at_builtin;refine iP.wpList rfl (.tmp 58) (.tmp 65) rfl i.heap.size u v (e) (by rfl) (t.o _ _) (some ⟨wr.heap.size+1,0,none⟩) 1 [⟨(b+1),f⟩] (by rfl) (kQ (Blk.qN _ _ _ _)) sO dC sO ?_;intro z D q n m)
         have k:bW i q:=((A.o.alloc N _).alloc sO _).grown m sO (jM (t.o (.cells #[] 0) (.cells #[] 0)));have C:X3 ((e++[⟨b+1,f⟩])++(l.drop (g+1)).flatMap (ji ⟨d,b⟩)=l.flatMap (ji ⟨d,b⟩)):=zH (by have:=J.o;simpa[ji,(show¬(f<d\/b<j)from by omega),eq_false Y,Q]using this);obtain⟨r,B⟩:=yx n k;clear n k m;go_wp2;go_roundw;(case rel=>exact⟨g+1,_,z,D,oM,by go_num,sM,by simp only[aU,bO];omega,r,C,B⟩);case measure=>exact Yl
        .have e4:decide (b<f)=false:=sO
         have d2:X3 (e++(l.drop (g+1)).flatMap (ji ⟨d,b⟩)=l.flatMap (ji ⟨d,b⟩)):=zH (by have:=J.o;simpa[ji,(show¬(f<d\/b<j)from by omega),eq_false Y,eq_false Q]using this);go_wp2;go_roundw;(case rel=>exact⟨g+1,e,u,v,oM,by go_num,rfl,oM,P.o.alloc _,d2,A.o.alloc N _⟩);case measure=>exact Yl
    .obtain rfl:g=l.length:=oM
     have K:=b8.o;rw[List.drop_length,List.flatMap_nil,List.append_nil]at K;have d3:=zH K;clear K;go_wp2;go_ret2;obtain⟨a5,a6,f2,i1,e9⟩:=nT P.o;injection f2 with e5 h9 e6;subst e5 e6;rw[<-d3.o];exact⟨_,_,rfl,yM P.o,aF e9 (λb1 e8=>⟨oM,e8.2⟩),a7⟩
  .have a1:jf ⟨d,b⟩=false:=by simpa using G
   rw[x]at L;rw[a1]at X;(have I:jh l ⟨d,b⟩=[]:=by unfold jh;rw[x,a1];rfl);rw[x,a1,I];clear x G a1 I;go_enter Tryz.func201,Tryz.ntmps201;go_wp2_with fail;refine Yd (L.o _ BEL) ?_;intro y o;have M:bW w y:=by
    refine bD ?_ (o.mono ?_)
    .exact BEL
    .first|(simp;done)|(simp;omega)
   have H:Blk y (w.heap.size) 272 #[uI d,uI b]:=iK o;obtain⟨f3,f5,f4,f6⟩:=H.c2;have f7:w.heap.size<y.heap.size:=H.lt;have d7:=zH H;clear H;have W:=zH M;clear o M;go_wp2_with fail;refine Yd (X.o _) ?_;intro c8 T;have V:=zH T;clear T;go_wp2;go_ret2;exact⟨none,0,rfl,av _,Row.WH,W.o.trans (V.o.mono W.o.size)⟩
 .have a0:iR l=false:=by simpa using x
  rw[a0]at L;(have I:jh l ⟨d,b⟩=[]:=by unfold jh;rw[a0];rfl);rw[a0,I,Bool.false_and];clear x a0 I;go_enter Tryz.func201,Tryz.ntmps201;go_wp2_with fail;refine Yd (L.o _ BEL) ?_;intro y o;have M:bW w y:=by
   refine bD ?_ (o.mono ?_)
   .exact BEL
   .first|(simp;done)|(simp;omega)
  have H:Blk y (w.heap.size) 272 #[uI d,uI b]:=iK o;obtain⟨f3,f5,f4,f6⟩:=H.c2;have f7:w.heap.size<y.heap.size:=H.lt;have d7:=zH H;clear H;have W:=zH M;clear o M;go_wp2;go_ret2;exact⟨none,0,rfl,av _,Row.WH,W.o⟩
theorem Jt (lo:Int) (s:Sp) (t:List Sp):jr lo (s::t)=if lo<=s.hi then⟨max s.lo lo,s.hi⟩::jr lo t else jr lo t:=rfl
theorem zb (S:X4) (a:X5) (c:Nat) (l:List Sp) (lo:Int) (w:World) (h:Sps w S a l) (b1:l.length<=1000000000) (M:∀Y∈l,SpW Y):
  Yk 200 #[.slice a l.length c,uI lo] w λQ G=>∃A B,Q=.returned (.slice A (gV l lo).length B)/\(gV l lo).length<=B/\Sps G (λN=>w.heap.size<=N/\N<G.heap.size) A (gV l lo)/\bW w G:=by
 obtain⟨u,P⟩:=yx (qw S a c l w h oM M) h;clear h M;by_cases o:iR l=true
 .rw[o]at u
  (have r:gV l lo=jr lo l:=by unfold gV;rw[o];rfl);rw[r];clear o r;go_enter Tryz.func200,Tryz.ntmps200;go_wp2_with fail;refine Yd u.o ?_;intro a0 m;have t:=zH m;clear m;go_wp2;go_loopw [5,13] (λZ F wr=>∃(d:Nat) (b:List Sp) (j:X5) (k:Nat),d<=l.length/\F=jI d/\Z=.slice j b.length k/\b.length<=d/\
   X3 (wr.ownsRow w.heap.size 272 2 (.slice j b.length k) b.length (b.flatMap spV))/\X3 (b++jr lo (l.drop d)=jr lo l)/\X3 (bW w wr)) (λ_ F _=>l.length -(intOf F).toNat)
  (case atStart=>exact⟨0,[],none,0,oM,rfl,rfl,sM,iq _ _ _ _,rfl,t⟩);case round=>
   obtain⟨d,b,j,k,b0,rfl,rfl,a7,e,J,g⟩:=hrel;clear t;have E:=g.o.size;by_cases L:d<l.length
   .obtain⟨a2,b2,rfl,a8,W,X⟩:=P.o.at_ g.o L
    have f:=J.o;rw[aR L,Jt]at f;have I:=zH f;clear f;generalize l[d]=a1 at*
    obtain⟨v,s⟩:=a1;simp only at W X;by_cases K:lo<=s
    .have i:X3 ((b++[⟨max v lo,s⟩])++jr lo (l.drop (d+1))=jr lo l):=zH (by have:=I.o;simpa[K]using this)
     by_cases a4:v<lo
     .rw[Int.max_eq_right oM]at i
      go_wp2_with (at_builtin;refine iP.wpList rfl (.tmp 21) (.tmp 29) rfl w.heap.size j k b (by rfl) ((e.o.alloc _).alloc _) (some ⟨wr.heap.size+1,0,none⟩) 1 [⟨lo,s⟩] (by rfl) (kQ (Blk.qN _ _ _ _)) sO dC sO ?_;intro x C H q p;have n:bW w H:=((g.o.alloc E _).alloc sO _).grown p sO (jM e.o);have z:=zH q;have y:=zH n;clear q n p);go_roundw;(case rel=>exact⟨d+1,_,x,C,oM,by go_num,sM,by simp;omega,z,i,y⟩);case measure=>exact Yl
     .rw[Int.max_eq_left oM]at i
      have a5:lo<=v:=oM;go_wp2_with (at_builtin;refine iP.wpList rfl (.tmp 21) (.tmp 29) rfl w.heap.size j k b (by rfl) ((e.o.alloc _).alloc _) (some ⟨wr.heap.size+1,0,none⟩) 1 [⟨v,s⟩] (by rfl) (kQ (Blk.qN _ _ _ _)) sO dC sO ?_;intro x C H q p;have n:bW w H:=((g.o.alloc E _).alloc sO _).grown p sO (jM e.o);have z:=zH q;have y:=zH n;clear q n p);go_roundw;(case rel=>exact⟨d+1,_,x,C,oM,by go_num,sM,by simp;omega,z,i,y⟩);case measure=>exact Yl
    .have a3:decide (lo<=s)=false:=sO
     have i:X3 (b++jr lo (l.drop (d+1))=jr lo l):=zH (by have:=I.o;rwa [Ww K]at this);go_wp2;go_roundw;(case rel=>exact⟨d+1,b,j,k,oM,by go_num,rfl,oM,e.o.alloc _,i,g.o.alloc E _⟩);case measure=>exact Yl
   .obtain rfl:d=l.length:=oM
    have f:=J.o;rw[List.drop_length]at f;have O:X3 (b=jr lo l):=zH (by simpa[jr]using f);clear f;go_wp2;go_ret;obtain⟨A,B,V,a9,U⟩:=nT e.o;injection V with R a6 T;subst R T;rw[<-O.o];exact⟨_,_,rfl,yM e.o,U,g.o⟩
 .have D:iR l=false:=by simpa using o
  rw[D]at u;(have r:gV l lo=[]:=by unfold gV;rw[D];rfl);rw[r];clear o D r;go_enter Tryz.func200,Tryz.ntmps200;go_wp2_with fail;refine Yd u.o ?_;intro a0 m;have t:=zH m;clear m;go_wp2;go_ret;exact⟨none,0,rfl,av _,Row.WH,t.o⟩
theorem Ig (s x:Sp) (t:List Sp):qU s (x::t)=if x.hi<s.lo then qU s t else x::t:=rfl
theorem Dm (s:Sp) (t b:List Sp):lI (s::t) b=match qU s b with|[]=>false|x::r=>if s.lo<x.lo\/x.hi<s.hi then false else lI t (x::r):=rfl
theorem xG (S S':X4) (a:X5) (c:Nat) (l:List Sp) (a2:X5) (c2:Nat) (m:List Sp) (w:World) (h:Sps w S a l) (e0:l.length<=1000000000) (a8:∀V∈l,SpW V)
  (N:Sps w S' a2 m) (e1:m.length<=1000000000) (a9:∀V∈m,SpW V):
  Yk 183 #[.slice a l.length c,.slice a2 m.length c2] w λc1 I=>c1=.returned (bV (jA l m))/\bW w I:=by
 obtain⟨u,F,b7,b8⟩:=Bq (qw S a c l w h oM a8) (λI (i:bW w I)=>qw S' a2 c2 m I (N.below i) oM a9) h N;clear h a8 N a9;by_cases q:iR l=true
 .by_cases A:iR m=true
  .rw[q]at u
   rw[A]at F;(have r:jA l m=lI l m:=by unfold jA;rw[q,A];rfl);rw[r];clear q r A;go_enter Tryz.func183,Tryz.ntmps183;go_wp2_with fail;refine Yd u.o ?_;intro b3 i;have f:=zH i;clear i;go_wp2_with fail;refine Yd (F.o _ f.o) ?_;intro c7 z;have E:=zH (f.o.trans (z.mono f.o.size));clear z f;go_wp2;go_loopw [5,18] (λC R wr=>∃(n o:Nat),n<=l.length/\o<=m.length/\R=jI n/\C=jI o/\X3 (lI (l.drop n) (m.drop o)=lI l m)/\X3 (bW w wr)) (λ_ R _=>l.length -(intOf R).toNat);(case atStart=>exact⟨0,0,oM,oM,rfl,rfl,rfl,E⟩);case round=>
    obtain⟨n,o,d8,c4,rfl,rfl,Y,D⟩:=hrel;clear E;have c5:=D.o.size;by_cases a7:n<l.length
    .obtain⟨d2,e4,rfl,d6,b0,b1⟩:=b7.o.at_ D.o a7
     have s:=Y.o;rw[aR a7,Dm]at s;have W:=zH s;clear s;generalize l[n]=c8 at*
     obtain⟨d,e⟩:=c8;simp only at b0 b1;go_wp2_with fail;have a5:bW w (wr.alloc (.cells #[uI d,uI e] 272)):=D.o.alloc c5 _;have a4:Blk (wr.alloc (.cells #[uI d,uI e] 272)) wr.heap.size 272 #[uI d,uI e]:=Wx _ _ _;generalize c3:wr.alloc (.cells #[uI d,uI e] 272)=wx at*
     obtain⟨j,a0⟩:=yx a5 a4;clear c3 a5 a4 b0 b1;obtain⟨x,rfl⟩:∃x:World,x=wr:=⟨_,rfl⟩;go_loopw [5] (λC wr=>∃(b:Nat),b<=m.length/\C=jI b/\X3 (qU ⟨d,e⟩ (m.drop b)=qU ⟨d,e⟩ (m.drop o))/\X3 (∃H,wr=wx.drewN H)) (λC _=>m.length -(intOf C).toNat);(case atStart=>exact⟨o,c4,rfl,rfl,0,rfl⟩);case round=>
      obtain⟨b,d9,rfl,Z,b6⟩:=hrel;obtain⟨H,rfl⟩:=b6.o;obtain⟨J,K⟩:=a0.o.e2 0 1;have e5:(0:Int)<=(b:Int):=oM;by_cases G:b<m.length
      .obtain⟨a1,b2,rfl,d7,T,U⟩:=b8.o.at_ j.o G
       have O:=Z.o;rw[aR G,Ig]at O;have X:=zH O;clear O;(have c6:=bM G);have e6:((b:Int)==(m.length:Int))=false:=sO;have e7:(b:Int)<(m.length:Int):=oM;have a6:(m[b]::m.drop (b+1))=m.drop b:=(aR G).symm;have b5:=zH a6;clear a6;generalize m[b]=c9 at*
       obtain⟨L,y⟩:=c9;simp only at T U;generalize g:wx.drewN H=t at*
       (have e2:t.cell? ⟨a1,b2+b*2,none⟩=some (uI L):=by rw[<-g];exact T);(have e3:t.cell? ⟨a1,b2+b*2+1,none⟩=some (uI y):=by rw[<-g];exact U);(have d0:t.cell? ⟨x.heap.size,0,none⟩=some (uI d):=by rw[<-g];exact J);(have d1:t.cell? ⟨x.heap.size,1,none⟩=some (uI e):=by rw[<-g];exact K);have v:=zH g;clear g T U J K;by_cases a3:y<d
       .have b4:X3 (qU ⟨d,e⟩ (m.drop (b+1))=qU ⟨d,e⟩ (m.drop o)):=zH (by have:=X.o;rwa [aB a3]at this)
        go_wp2;refine mQ ?_;rintro _ ⟨nq,rfl⟩;go_wp2;go_roundw;(case rel=>exact⟨b+1,oM,by go_num,b4,by rw[<-v.o,World.drewN_drewN];exact⟨_,rfl⟩⟩);case measure=>exact Yl
       .have d3:decide (y<d)=false:=sO
        (have B:qU ⟨d,e⟩ (m.drop o)=⟨L,y⟩::m.drop (b+1):=by have:=X.o;rw[Ww a3]at this;exact this.symm);have p:=W.o;rw[B]at p;simp only at p;have M:=zH p;clear B p;by_cases b9:d<L
        .have k:X3 (lI l m=false):=zH (by have:=M.o;rw[aB (Or.inl b9)]at this;exact this.symm)
         go_wp2;refine mQ ?_;rintro _ ⟨nq,rfl⟩;go_wp2;refine mQ ?_;rintro _ ⟨nq,rfl⟩;go_wp2;go_ret;exact⟨eF k.o.symm,by rw[<-v.o];first|exact aA (aA (aA j.o _) _) _|exact aA (aA j.o _) _⟩
        .have d4:decide (d<L)=false:=sO
         by_cases c0:y<e
         .have k:X3 (lI l m=false):=zH (by have:=M.o;rw[aB (Or.inr c0)]at this;exact this.symm)
          go_wp2;refine mQ ?_;rintro _ ⟨nq,rfl⟩;go_wp2;refine mQ ?_;rintro _ ⟨nq,rfl⟩;go_wp2;go_ret;exact⟨eF k.o.symm,by rw[<-v.o];first|exact aA (aA (aA j.o _) _) _|exact aA (aA j.o _) _⟩
         .have d5:decide (y<e)=false:=sO
          have k:X3 (lI (l.drop (n+1)) (m.drop b)=lI l m):=zH (by have:=M.o;rw[Ww oM]at this;rw[<-b5.o];exact this);go_wp2;refine mQ ?_;rintro _ ⟨nq,rfl⟩;go_wp2;refine mQ ?_;rintro _ ⟨nq,rfl⟩;go_wp2;go_roundw;(case rel=>exact⟨n+1,b,oM,oM,by go_num,rfl,k,by rw[<-v.o];first|exact aA (aA (aA j.o _) _) _|exact aA (aA j.o _) _⟩);case measure=>exact Yl
      .obtain rfl:b=m.length:=oM
       have c6:decide (m.length<m.length)=false:=sM;(have B:qU ⟨d,e⟩ (m.drop o)=[]:=by have:=Z.o;rw[List.drop_length]at this;exact this.symm);have p:=W.o;rw[B]at p;have k:X3 (lI l m=false):=zH p.symm;clear B p;generalize g:wx.drewN H=t at*
       (have d0:t.cell? ⟨x.heap.size,0,none⟩=some (uI d):=by rw[<-g];exact J);(have d1:t.cell? ⟨x.heap.size,1,none⟩=some (uI e):=by rw[<-g];exact K);have v:=zH g;clear g J K;go_wp2;refine mQ ?_;rintro _ ⟨nq,rfl⟩;go_wp2;refine mQ ?_;rintro _ ⟨nq,rfl⟩;go_wp2;go_ret;exact⟨eF k.o.symm,by rw[<-v.o];first|exact aA (aA (aA j.o _) _) _|exact aA (aA j.o _) _⟩
    .obtain rfl:n=l.length:=oM
     have s:=Y.o;rw[List.drop_length]at s;have k:X3 (lI l m=true):=zH s.symm;clear s;go_wp2;go_ret;exact⟨eF k.o.symm,D.o⟩
  .have Q:iR m=false:=by simpa using A
   rw[q]at u;rw[Q]at F;(have r:jA l m=false:=by unfold jA;rw[q,Q];rfl);rw[r];clear q r A Q;go_enter Tryz.func183,Tryz.ntmps183;go_wp2_with fail;refine Yd u.o ?_;intro b3 i;have f:=zH i;clear i;go_wp2_with fail;refine Yd (F.o _ f.o) ?_;intro c7 z;have E:=zH (f.o.trans (z.mono f.o.size));clear z f;go_wp2;go_ret;exact⟨rfl,E.o⟩
 .have P:iR l=false:=by simpa using q
  rw[P]at u;(have r:jA l m=false:=by unfold jA;rw[P];rfl);rw[r];clear q r P;go_enter Tryz.func183,Tryz.ntmps183;go_wp2_with fail;refine Yd u.o ?_;intro b3 i;have f:=zH i;clear i;go_wp2;go_ret;exact⟨rfl,f.o⟩
theorem zx (s x:Sp) (t:List Sp):jb s (x::t)=if x.hi+1<s.lo then x::jb s t else[]:=rfl
theorem zw (s x:Sp) (t:List Sp):ja s (x::t)=if x.hi+1<s.lo then ja s t else x::t:=rfl
theorem Gl (s x:Sp) (t:List Sp):WJ s (x::t)=if x.lo<=s.hi+1 then WJ ⟨min s.lo x.lo,max s.hi x.hi⟩ t else s::x::t:=rfl
theorem GA {p:Option Int}:∀{l:List Sp},oh p l=true->∀b∈l,jf b=true
 |[],_,b,a=>by cases a
 |x::t,h,b,a=>by
  rw[Ar]at h;simp only[Bool.and_eq_true]at h;rcases bT.1 a with rfl|a
  .exact h.1.1
  .exact GA h.2 b a
theorem BJ {s:Sp} (h:jf s=true):s.lo<=s.hi/\s.hi<=4611686018427387903:=by unfold jf at h;simpa using h
theorem Ib {S:X4} {l:List Sp} {j:Nat} (h:Sps w S (some ⟨b,p,none⟩) l) (e:j<=l.length) (a':X5) (d:j<l.length->a'=some ⟨b,p+j*2,none⟩):Row w S 272 2 a' (l.drop j).length ((l.drop j).flatMap spV):=by
 have c:=Row.drop h e (a':=a') (λk m n a=>by injection a with a;injection a with g i;subst g i;exact d k);rw[bI];have f:(spVs l).drop (j*2)=(l.drop j).flatMap spV:=by
  unfold spVs;clear h c d
  induction l generalizing j with
  |nil=>simp
  |cons x t ih=>
   cases j with
   |zero=>simp
   |succ j=>
    rw[List.drop_succ_cons,List.flatMap_cons,show(j+1)*2=(spV x).length+j*2 by simp[spV];omega,List.drop_append];simp only[Nat.add_sub_cancel_left];rw[List.drop_of_length_le oM,List.nil_append];exact ih (by simpa using e)
 rw[<-f];exact c
theorem AQ:(prog.info? 272).map (λa=>(a.zero,a.size,a.bytes))=some (some (.agg #[uI 0,uI 0]),2,16):=by kernel_rfl
theorem sH (S:X4) (a:X5) (c:Nat) (l:List Sp) (s:Sp) (w:World) (h:Sps w S a l) (p1:l.length<=1000000000) (p0:l.length<=c) (h0:∀s∈l,SpW s) (m2:SpW s):
  Yk 158 #[.slice a l.length c,.agg #[uI s.lo,uI s.hi]] w λl1 c6=>∃d1 d2,l1=.returned (.tuple #[.slice d1 (iV l s).length d2,bV (iR l&&jf s)])/\(iV l s).length<=d2/\Sps c6 (λf=>w.heap.size<=f/\f<c6.heap.size) d1 (iV l s)/\bW w c6:=by
 obtain⟨c1,c9,f3,g1⟩:=Bq (λc6 (l8:bW w c6)=>qw S a c l c6 (h.below l8) oM h0) h (zG s) h0;clear h h0;obtain⟨b,e⟩:=s;obtain⟨⟨h6,h7⟩,⟨h8,h9⟩⟩:=m2;simp only at h6 h7 h8 h9;by_cases k:iR l=true
 .by_cases b7:jf ⟨b,e⟩=true
  .have i3:=zH (GA k)
   rw[k]at c1;rw[b7]at f3;(have j4:iV l ⟨b,e⟩=jb ⟨b,e⟩ l++WJ ⟨b,e⟩ (ja ⟨b,e⟩ l):=by unfold iV;rw[k,b7];rfl);rw[k,b7,j4];obtain⟨n7,g9⟩:=BJ b7;simp only at n7 g9;clear k b7 j4;go_enter Tryz.func158,Tryz.ntmps158;go_wp2_with fail;refine Yd (c1.o _ BEL) ?_;intro R C;have g0:X3 (Below (w.alloc (.cells #[uI b,uI e] 272)).heap.size (w.alloc (.cells #[uI b,uI e] 272)) R):=C;have b9:=C.cell (p:=⟨w.heap.size,0,none⟩) sM;have c0:=C.cell (p:=⟨w.heap.size,1,none⟩) sM;simp[go_sem]at b9 c0;(have k3:w.heap.size<R.heap.size:=by have:=C.size;simp at this;omega);clear C;go_wp2_with fail;refine Yd (f3.o _) ?_;intro F z;have y:X3 (Below (w.alloc (.cells #[uI b,uI e] 272)).heap.size (w.alloc (.cells #[uI b,uI e] 272)) F):=zH (g0.o.trans (z.mono g0.o.size));clear z b9 c0 k3 g0;go_wp2_with fail;generalize f4:w.alloc (.cells #[uI b,uI e] 272)=g at*
   (have j3:bW w g:=by rw[<-f4];exact BEL);(have j2:g.heap.size=w.heap.size+1:=by rw[<-f4];simp);(have j1:Blk g w.heap.size 272 #[uI b,uI e]:=by rw[<-f4];exact Wx _ _ _);obtain⟨k5,k4,o4⟩:=Av j1 j3 j2;have U:w.heap.size<g.heap.size:=oM;clear f4 j1 j3 j2;go_loopw [6,7] (λZ h2 wr=>∃(i:Nat) (d:List Sp) (t:X5) (u:Nat),i<=l.length/\h2=jI i/\Z=.slice t d.length u/\d.length<=i/\
    X3 (wr.ownsRow g.heap.size 272 2 (.slice t d.length u) d.length (d.flatMap spV))/\X3 (d++jb ⟨b,e⟩ (l.drop i)=jb ⟨b,e⟩ l)/\X3 (ja ⟨b,e⟩ (l.drop i)=ja ⟨b,e⟩ l)/\X3 (bW g wr)) (λ_ h2 _=>l.length -(intOf h2).toNat)
   (case atStart=>exact⟨0,[],none,0,oM,rfl,rfl,sM,iq _ _ _ _,rfl,rfl,y⟩);case round=>
    obtain⟨i,d,t,u,j7,rfl,rfl,o6,c2,i4,i5,e8⟩:=hrel;clear y;have j9:=e8.o.size;have e6:X3 (Blk wr w.heap.size 272 #[uI b,uI e]):=zH (k5.o.below e8.o U);obtain⟨b9,c0⟩:=e6.o.e2 0 1;have k3:w.heap.size<wr.heap.size:=oM;have c4:=k4.o.trans (e8.o.mono (fO U));have p2:(0:Int)<=(i:Int):=oM;by_cases d6:∃v:i<l.length,l[i].hi+1<b
    .obtain⟨v,g2⟩:=d6
     obtain⟨i7,n5,rfl,b3,h3,h4⟩:=c9.o.at_ c4 v;have b4:=i4.o;have g7:=i5.o;rw[aR v,zx,aB g2]at b4;rw[aR v,zw,aB g2]at g7;obtain⟨f0,k7⟩:=yx b4 g7;have n:=g1.o _ (aN v);have i0:=n.hi.1;(have k1:decide (i<l.length)=true:=by simpa using v);have n1:(i:Int)<(l.length:Int):=oM;clear b4 g7 n c4;generalize l[i]=e5 at*
     obtain⟨h5,f6⟩:=e5;simp only at h3 h4 g2 i0;have k9:=zH (zI c2.o);have l9:i7<wr.heap.size:=oM;have k6:X3 ((d++[⟨h5,f6⟩])++jb ⟨b,e⟩ (l.drop (i+1))=jb ⟨b,e⟩ l):=zH (by have:=f0.o;simpa using this);have p4:f6<18446744073709551616:=oM;go_wp2;refine mQ ?_;rintro _ ⟨nq,rfl⟩;have a5:(wr.drewN nq).ownsRow g.heap.size 272 2 (.slice t d.length u) d.length (d.flatMap spV):=c2.o;have z:bW g (wr.drewN nq):=aA e8.o nq;obtain⟨W,y⟩:=yx a5 z;clear a5 z;go_wp2_with (at_builtin;refine iP.wpList rfl (.tmp 33) (.tmp 38) rfl g.heap.size t u d (by rfl) (W.o.alloc _) (some ⟨wr.heap.size,0,none⟩) 1 [⟨h5,f6⟩] (by rfl) (kQ (Wx (wr.drewN nq) _ _)) sO dC sO ?_;intro a9 b1 T M A;have L:bW g T:=(y.o.alloc sO _).grown A sO (jM c2.o);have Q:=zH M;have V:=zH L;clear M L A);go_roundw;(case rel=>exact⟨i+1,_,a9,b1,oM,by go_num,sM,by simp;omega,Q,k6,k7,V⟩);case measure=>exact Yl
    .have g6:jb ⟨b,e⟩ (l.drop i)=[]/\ja ⟨b,e⟩ (l.drop i)=l.drop i:=by
      by_cases v:i<l.length
      .have f7:¬l[i].hi+1<b:=λb5=>d6 ⟨v,b5⟩
       rw[aR v,zx,zw,Ww f7,Ww f7];exact⟨rfl,rfl⟩
      .rw[List.drop_of_length_le oM];exact⟨rfl,rfl⟩
     have g5:=i4.o;have g8:=i5.o;rw[g6.1,List.append_nil]at g5;rw[g6.2]at g8;obtain⟨f9,i6⟩:=yx g5 g8;clear g5 g8 g6;obtain⟨k9,i2⟩:=yx (zI c2.o) c4;by_cases v:i<l.length
     .obtain⟨I,a8,rfl,o7,h3,h4⟩:=c9.o.at_ c4 v
      have f7:¬l[i].hi+1<b:=λb5=>d6 ⟨v,b5⟩;have n:=g1.o _ (aN v);have Y:=(BJ (i3.o _ (aN v))).2;have i0:=n.hi.1;(have k1:=bM v);have n1:(i:Int)<(l.length:Int):=oM;have m1:decide (l[i].hi+1<b)=false:=sO;clear n c4 f7 d6;generalize l[i]=e5 at*
      obtain⟨h5,f6⟩:=e5;simp only at h3 h4 i0 Y m1;have o9:I<wr.heap.size:=oM;go_wp2;refine mQ ?_;rintro _ ⟨nq,rfl⟩;have a5:(wr.drewN nq).ownsRow g.heap.size 272 2 (.slice t d.length u) d.length (d.flatMap spV):=c2.o;have z:bW w (wr.drewN nq):=aA i2.o nq;have Y:Blk (wr.drewN nq) w.heap.size 272 #[uI b,uI e]:=e6.o;obtain⟨W,y,X⟩:=Av a5 z Y;clear a5 z Y b9 c0;go_wp2_with fail;obtain⟨a0,b8⟩:∃a0:World,a0=wr.drewN nq:=⟨_,rfl⟩;rw[<-b8]at W y X|-;(have h1:g.heap.size<=a0.heap.size:=by rw[b8];exact j9);have m4:w.heap.size<a0.heap.size:=X.o.lt;clear b8;go_loopw [7] (λZ F=>∃(f:Nat) (E:Sp),f<=l.length/\i<=f/\g.heap.size<=F.heap.size/\Z=jI f/\X3 (Word E.lo/\Word E.hi/\E.hi<=4611686018427387903)/\X3 (Blk F w.heap.size 272 #[uI E.lo,uI E.hi])/\X3 (WJ E (l.drop f)=WJ ⟨b,e⟩ (ja ⟨b,e⟩ l))/\
       X3 (F.ownsRow g.heap.size 272 2 (.slice t d.length u) d.length (d.flatMap spV))/\X3 (bW w F)) (λZ _=>l.length -(intOf Z).toNat)
      (case atStart=>exact⟨i,⟨b,e⟩,j7,av _,h1,rfl,⟨⟨h6,h7⟩,⟨h8,h9⟩,g9⟩,X,zH (by rw[i6.o]),W,y⟩);case round=>
       obtain⟨f,⟨m,j⟩,b6,m0,m5,rfl,d0,o,f1,H,G⟩:=hrel;clear W y X;simp only at d0 o;obtain⟨⟨n8,n9⟩,⟨o0,o1⟩,o2⟩:=d0.o;obtain⟨b9,c0⟩:=o.o.e2 0 1;obtain⟨l4,l5,n6,m3⟩:=Hl (o.o.frozen 0) (o.o.frozen 1) o.o.lt G.o.size;have n2:(0:Int)<=(f:Int):=oM;by_cases c5:f<l.length
       .obtain⟨i7,n5,g4,b3,n3,n4⟩:=c9.o.at_ G.o c5
        injection g4 with g4;injection g4 with l6 l7;subst l6 l7;have l9:I<wr.heap.size:=oM;have o8:¬(I=w.heap.size):=oM;have b4:=f1.o;rw[aR c5,Gl]at b4;have f0:=zH b4;have n:=g1.o _ (aN c5);obtain⟨Y,u0,u1,u2,u3⟩:=Ju ((BJ (i3.o _ (aN c5))).2) n.lo.1 n.lo.2 n.hi.1 n.hi.2;(have k2:=bM c5);have p3:(f:Int)<(l.length:Int):=oM;clear b4 n;have j5:l[f]::l.drop (f+1)=l.drop f:=(aR c5).symm;have k8:=zH j5;clear j5;generalize l[f]=e5 at*
        obtain⟨x,D⟩:=e5;simp only at n3 n4 u0 u1 u2 u3 Y;have j0:IntKind.u64.wrap (j+1)=j+1:=Wz _ oM;have o3:=zH j0;clear j0;by_cases i9:x<=j+1
        .have B:=f0.o
         rw[aB i9]at B;simp only at B;have f2:=zH B;clear B;by_cases c3:x<m<;>by_cases g3:j<D
         .have q:min m x=x:=oM
          have J:max j D=D:=oM;have r:=f2.o;rw[q,J]at r;have b0:=zH r;clear r q J;go_wp2;refine mQ ?_;rintro _ ⟨nq,rfl⟩;go_wp2;refine bP 17 kR kR ?_;refine mB ?_;rintro _ ⟨O,rfl⟩;refine dA rfl rfl ?_;go_simp;refine aK ?_;go_wp2;go_roundw;(case rel=>exact⟨f+1,⟨x,D⟩,oM,oM,by simp[World.setCell];omega,by go_num,zH ⟨⟨oM,oM⟩,⟨oM,oM⟩,oM⟩,zH (by have:=((o.o.drewN (nq+O)).bF 0 (uI x)).bF 1 (uI D);simpa using this),b0,zH (ownsRow_setCell_below (ownsRow_setCell_below (show(wr.drewN (nq+O)).ownsRow _ _ _ _ _ _ from H.o) (a:=⟨w.heap.size,0,none⟩) U _) (a:=⟨w.heap.size,1,none⟩) U _),zH (((aA G.o _).setCell (av _) _).setCell (av _) _)⟩);case measure=>exact Yl
         .have q:min m x=x:=oM
          have J:max j D=j:=oM;have r:=f2.o;rw[q,J]at r;have b0:=zH r;clear r q J;have l3:D<=j:=oM;go_wp2;refine mQ ?_;rintro _ ⟨nq,rfl⟩;go_wp2;refine bP 17 kR kR ?_;refine mB ?_;rintro _ ⟨O,rfl⟩;refine dA rfl rfl ?_;go_simp;refine aK ?_;go_wp2;go_roundw;(case rel=>exact⟨f+1,⟨x,j⟩,oM,oM,by simp[World.setCell];omega,by go_num,zH ⟨⟨oM,oM⟩,⟨oM,oM⟩,oM⟩,zH (by have:=((o.o.drewN (nq+O)).bF 0 (uI x)).bF 1 (uI j);simpa using this),b0,zH (ownsRow_setCell_below (ownsRow_setCell_below (show(wr.drewN (nq+O)).ownsRow _ _ _ _ _ _ from H.o) (a:=⟨w.heap.size,0,none⟩) U _) (a:=⟨w.heap.size,1,none⟩) U _),zH (((aA G.o _).setCell (av _) _).setCell (av _) _)⟩);case measure=>exact Yl
         .have q:min m x=m:=oM
          have J:max j D=D:=oM;have r:=f2.o;rw[q,J]at r;have b0:=zH r;clear r q J;have l2:m<=x:=oM;go_wp2;refine mQ ?_;rintro _ ⟨nq,rfl⟩;go_wp2;refine bP 17 kR kR ?_;refine mB ?_;rintro _ ⟨O,rfl⟩;refine dA rfl rfl ?_;go_simp;refine aK ?_;go_wp2;go_roundw;(case rel=>exact⟨f+1,⟨m,D⟩,oM,oM,by simp[World.setCell];omega,by go_num,zH ⟨⟨oM,oM⟩,⟨oM,oM⟩,oM⟩,zH (by have:=((o.o.drewN (nq+O)).bF 0 (uI m)).bF 1 (uI D);simpa using this),b0,zH (ownsRow_setCell_below (ownsRow_setCell_below (show(wr.drewN (nq+O)).ownsRow _ _ _ _ _ _ from H.o) (a:=⟨w.heap.size,0,none⟩) U _) (a:=⟨w.heap.size,1,none⟩) U _),zH (((aA G.o _).setCell (av _) _).setCell (av _) _)⟩);case measure=>exact Yl
         .have q:min m x=m:=oM
          have J:max j D=j:=oM;have r:=f2.o;rw[q,J]at r;have b0:=zH r;clear r q J;have l2:m<=x:=oM;have l3:D<=j:=oM;go_wp2;refine mQ ?_;rintro _ ⟨nq,rfl⟩;go_wp2;refine bP 17 kR kR ?_;refine mB ?_;rintro _ ⟨O,rfl⟩;refine dA rfl rfl ?_;go_simp;refine aK ?_;go_wp2;go_roundw;(case rel=>exact⟨f+1,⟨m,j⟩,oM,oM,by simp[World.setCell];omega,by go_num,zH ⟨⟨oM,oM⟩,⟨oM,oM⟩,oM⟩,zH (by have:=((o.o.drewN (nq+O)).bF 0 (uI m)).bF 1 (uI j);simpa using this),b0,zH (ownsRow_setCell_below (ownsRow_setCell_below (show(wr.drewN (nq+O)).ownsRow _ _ _ _ _ _ from H.o) (a:=⟨w.heap.size,0,none⟩) U _) (a:=⟨w.heap.size,1,none⟩) U _),zH (((aA G.o _).setCell (av _) _).setCell (av _) _)⟩);case measure=>exact Yl
        .have o5:decide (x<=j+1)=false:=sO
         have B:=f0.o;rw[Ww i9]at B;have a1:X3 ((d++[⟨m,j⟩])++l.drop f=jb ⟨b,e⟩ l++WJ ⟨b,e⟩ (ja ⟨b,e⟩ l)):=zH (by rw[f9.o,<-B,k8.o];simp);clear B;go_wp2;refine mQ ?_;rintro _ ⟨nq,rfl⟩;have a6:(wr.drewN nq).ownsRow g.heap.size 272 2 (.slice t d.length u) d.length (d.flatMap spV):=H.o;have a3:bW w (wr.drewN nq):=aA G.o nq;obtain⟨c8,c7⟩:=yx a6 a3;clear a6 a3;obtain⟨k0,a4,e1,a7,e2⟩:=info_parts AQ;have hcut:=gI (P:=prog) Tryz.underlying90 a4 (some ⟨I,a8,none⟩) l.length c f oM;rw[a7]at hcut;(have a2:f<l.length->fE (some ⟨I,a8,none⟩) c f 2=some ⟨I,a8+f*2,none⟩:=λb5=>by exact lD oM);have e7:=zH a2;generalize fE (some ⟨I,a8,none⟩) c f 2=b2 at*
         clear a4 e1 a7 e2 a2;go_wp2_with (first
          |(at_builtin;refine iP.wpList rfl (.tmp 78) (.tmp 81) rfl g.heap.size a9 b1 (d++[⟨m,j⟩]) (by first|rfl|simp[Act.eval]) Q.o b2 (c -f) (l.drop f) (by first|rfl|simp[Act.eval]) (Ib (c9.o.below V.o) oM b2 e7.o) sO dC oM ?_;intro i1 i8 e4 N d5)
          |(at_builtin;refine iP.wpList rfl (.tmp 74) (.tmp 76) rfl g.heap.size t u d (by rfl) (c8.o.alloc _) (some ⟨wr.heap.size,0,none⟩) 1 [⟨m,j⟩] (by rfl) (kQ (Wx (wr.drewN nq) _ _)) sO dC sO ?_;intro a9 b1 T M A;have L:bW w T:=(c7.o.alloc sO _).grown A sO (λK k=>by have:=jM H.o K k;omega);have d9:=A.size;simp at d9;have j8:g.heap.size<=T.heap.size:=oM;have Q:=zH M;have V:=zH L;clear M L A))
         go_ret2;rw[a1.o]at N;have d3:bW w e4:=V.o.grown d5 oM (λK k=>by have:=jM Q.o K k;omega);obtain⟨d1,d2,e0,j6,d8⟩:=nT N;injection e0 with c3 g3 q;subst c3 q;exact⟨_,_,(by have d7:=lY List.length a1.o;simp only[aU,bO,bI]at d7;refine lY (λe3=>Ending.returned (Value.tuple #[Value.slice _ e3 _,bV true])) ?_;simp only[aU];omega),yM N,aF d8 (λf b6=>⟨oM,b6.2⟩),d3⟩
       .obtain rfl:f=l.length:=oM
        have k2:decide (l.length<l.length)=false:=sM;have a1:X3 ((d++[⟨m,j⟩])++l.drop l.length=jb ⟨b,e⟩ l++WJ ⟨b,e⟩ (ja ⟨b,e⟩ l)):=zH (by have B:=f1.o;rw[List.drop_length]at B|-;rw[f9.o,<-B];simp[WJ]);go_wp2;refine mQ ?_;rintro _ ⟨nq,rfl⟩;have a6:(wr.drewN nq).ownsRow g.heap.size 272 2 (.slice t d.length u) d.length (d.flatMap spV):=H.o;have a3:bW w (wr.drewN nq):=aA G.o nq;obtain⟨c8,c7⟩:=yx a6 a3;clear a6 a3;obtain⟨k0,a4,e1,a7,e2⟩:=info_parts AQ;have hcut:=gI (P:=prog) Tryz.underlying90 a4 (some ⟨I,a8,none⟩) l.length c l.length oM;rw[a7]at hcut;(have a2:l.length<l.length->fE (some ⟨I,a8,none⟩) c l.length 2=some ⟨I,a8+l.length*2,none⟩:=λb5=>by exact lD oM);have e7:=zH a2;generalize fE (some ⟨I,a8,none⟩) c l.length 2=b2 at*
        clear a4 e1 a7 e2 a2;go_wp2_with (first
         |(at_builtin;refine iP.wpList rfl (.tmp 78) (.tmp 81) rfl g.heap.size a9 b1 (d++[⟨m,j⟩]) (by first|rfl|simp[Act.eval]) Q.o b2 (c -l.length) (l.drop l.length) (by first|rfl|simp[Act.eval]) (Ib (c9.o.below V.o) oM b2 e7.o) sO dC oM ?_;intro i1 i8 e4 N d5)
         |(at_builtin;refine iP.wpList rfl (.tmp 74) (.tmp 76) rfl g.heap.size t u d (by rfl) (c8.o.alloc _) (some ⟨wr.heap.size,0,none⟩) 1 [⟨m,j⟩] (by rfl) (kQ (Wx (wr.drewN nq) _ _)) sO dC sO ?_;intro a9 b1 T M A;have L:bW w T:=(c7.o.alloc sO _).grown A sO (λK k=>by have:=jM H.o K k;omega);have d9:=A.size;simp at d9;have j8:g.heap.size<=T.heap.size:=oM;have Q:=zH M;have V:=zH L;clear M L A))
        go_ret2;rw[a1.o]at N;have d3:bW w e4:=V.o.grown d5 oM (λK k=>by have:=jM Q.o K k;omega);obtain⟨d1,d2,e0,j6,d8⟩:=nT N;injection e0 with c3 g3 q;subst c3 q;exact⟨_,_,(by have d7:=lY List.length a1.o;simp only[aU,bO,bI]at d7;refine lY (λe3=>Ending.returned (Value.tuple #[Value.slice _ e3 _,bV true])) ?_;simp only[aU];omega),yM N,aF d8 (λf b6=>⟨oM,b6.2⟩),d3⟩
     .have k1:decide (i<l.length)=false:=sO
      clear d6 c4;go_wp2;refine mQ ?_;rintro _ ⟨nq,rfl⟩;have a5:(wr.drewN nq).ownsRow g.heap.size 272 2 (.slice t d.length u) d.length (d.flatMap spV):=c2.o;have z:bW w (wr.drewN nq):=aA i2.o nq;have Y:Blk (wr.drewN nq) w.heap.size 272 #[uI b,uI e]:=e6.o;obtain⟨W,y,X⟩:=Av a5 z Y;clear a5 z Y b9 c0;go_wp2_with fail;obtain⟨a0,b8⟩:∃a0:World,a0=wr.drewN nq:=⟨_,rfl⟩;rw[<-b8]at W y X|-;(have h1:g.heap.size<=a0.heap.size:=by rw[b8];exact j9);have m4:w.heap.size<a0.heap.size:=X.o.lt;clear b8;go_loopw [7] (λZ F=>∃(f:Nat) (E:Sp),f<=l.length/\i<=f/\g.heap.size<=F.heap.size/\Z=jI f/\X3 (Word E.lo/\Word E.hi/\E.hi<=4611686018427387903)/\X3 (Blk F w.heap.size 272 #[uI E.lo,uI E.hi])/\X3 (WJ E (l.drop f)=WJ ⟨b,e⟩ (ja ⟨b,e⟩ l))/\
       X3 (F.ownsRow g.heap.size 272 2 (.slice t d.length u) d.length (d.flatMap spV))/\X3 (bW w F)) (λZ _=>l.length -(intOf Z).toNat)
      (case atStart=>exact⟨i,⟨b,e⟩,j7,av _,h1,rfl,⟨⟨h6,h7⟩,⟨h8,h9⟩,g9⟩,X,zH (by rw[i6.o]),W,y⟩);case round=>
       obtain⟨f,⟨m,j⟩,b6,m0,m5,rfl,d0,o,f1,H,G⟩:=hrel;clear W y X;simp only at d0 o;obtain⟨⟨n8,n9⟩,⟨o0,o1⟩,o2⟩:=d0.o;obtain⟨b9,c0⟩:=o.o.e2 0 1;obtain⟨l4,l5,n6,m3⟩:=Hl (o.o.frozen 0) (o.o.frozen 1) o.o.lt G.o.size;have n2:(0:Int)<=(f:Int):=oM;obtain rfl:f=l.length:=oM;have k2:decide (l.length<l.length)=false:=sM;have a1:X3 ((d++[⟨m,j⟩])++l.drop l.length=jb ⟨b,e⟩ l++WJ ⟨b,e⟩ (ja ⟨b,e⟩ l)):=zH (by have B:=f1.o;rw[List.drop_length]at B|-;rw[f9.o,<-B];simp[WJ]);go_wp2;refine mQ ?_;rintro _ ⟨nq,rfl⟩;have a6:(wr.drewN nq).ownsRow g.heap.size 272 2 (.slice t d.length u) d.length (d.flatMap spV):=H.o;have a3:bW w (wr.drewN nq):=aA G.o nq;obtain⟨c8,c7⟩:=yx a6 a3;clear a6 a3;obtain⟨k0,a4,e1,a7,e2⟩:=info_parts AQ;have hcut:=gI (P:=prog) Tryz.underlying90 a4 a l.length c l.length oM;rw[a7]at hcut;(have a2:l.length<l.length->fE a c l.length 2=some ⟨0,0+l.length*2,none⟩:=λb5=>by exact Wy b5 oM);have e7:=zH a2;generalize fE a c l.length 2=b2 at*
       clear a4 e1 a7 e2 a2;go_wp2_with (first
        |(at_builtin;refine iP.wpList rfl (.tmp 78) (.tmp 81) rfl g.heap.size a9 b1 (d++[⟨m,j⟩]) (by first|rfl|simp[Act.eval]) Q.o b2 (c -l.length) (l.drop l.length) (by first|rfl|simp[Act.eval]) (S:=S) (ts:=272) (by rw[List.drop_length];exact Row.WH) sO dC oM ?_;intro i1 i8 e4 N d5)
        |(at_builtin;refine iP.wpList rfl (.tmp 74) (.tmp 76) rfl g.heap.size t u d (by rfl) (c8.o.alloc _) (some ⟨wr.heap.size,0,none⟩) 1 [⟨m,j⟩] (by rfl) (kQ (Wx (wr.drewN nq) _ _)) sO dC sO ?_;intro a9 b1 T M A;have L:bW w T:=(c7.o.alloc sO _).grown A sO (λK k=>by have:=jM H.o K k;omega);have d9:=A.size;simp at d9;have j8:g.heap.size<=T.heap.size:=oM;have Q:=zH M;have V:=zH L;clear M L A))
       go_ret2;rw[a1.o]at N;have d3:bW w e4:=V.o.grown d5 oM (λK k=>by have:=jM Q.o K k;omega);obtain⟨d1,d2,e0,j6,d8⟩:=nT N;injection e0 with c3 g3 q;subst c3 q;exact⟨_,_,(by have d7:=lY List.length a1.o;simp only[aU,bO,bI]at d7;refine lY (λe3=>Ending.returned (Value.tuple #[Value.slice _ e3 _,bV true])) ?_;simp only[aU];omega),yM N,aF d8 (λf b6=>⟨oM,b6.2⟩),d3⟩
  .have f8:jf ⟨b,e⟩=false:=by simpa using b7
   rw[k]at c1;rw[f8]at f3;(have d4:iV l ⟨b,e⟩=[]:=by unfold iV;rw[k,f8];rfl);rw[k,f8,d4];clear k b7 f8 d4;go_enter Tryz.func158,Tryz.ntmps158;go_wp2_with fail;refine Yd (c1.o _ BEL) ?_;intro R C;have b3:bW w R:=by
    refine bD ?_ (C.mono ?_)
    .exact BEL
    .first|(simp;done)|(simp;omega)
   have n:Blk R (w.heap.size) 272 #[uI b,uI e]:=iK C;obtain⟨m6,m8,m7,m9⟩:=n.c2;have n0:w.heap.size<R.heap.size:=n.lt;have l0:=zH n;clear n;have e9:=zH b3;clear C b3;go_wp2_with fail;refine Yd (f3.o _) ?_;intro F z;have y:=zH z;clear z;go_wp2;go_ret2;exact⟨none,0,rfl,av _,Row.WH,e9.o.trans (y.o.mono e9.o.size)⟩
 .have f5:iR l=false:=by simpa using k
  rw[f5]at c1;(have d4:iV l ⟨b,e⟩=[]:=by unfold iV;rw[f5];rfl);rw[f5,d4,Bool.false_and];clear k f5 d4;go_enter Tryz.func158,Tryz.ntmps158;go_wp2_with fail;refine Yd (c1.o _ BEL) ?_;intro R C;have b3:bW w R:=by
   refine bD ?_ (C.mono ?_)
   .exact BEL
   .first|(simp;done)|(simp;omega)
  have n:Blk R (w.heap.size) 272 #[uI b,uI e]:=iK C;obtain⟨m6,m8,m7,m9⟩:=n.c2;have n0:w.heap.size<R.heap.size:=n.lt;have l0:=zH n;clear n;have e9:=zH b3;clear C b3;go_wp2;go_ret2;exact⟨none,0,rfl,av _,Row.WH,e9.o⟩
theorem JX {S:X4} {a:X5} (h:Bys w S a l) (b:n<=l.length) (f:l.length<=c):Row w S 5 1 (fE a c 0 1) n ((l.take n).flatMap byV):=by
 have:=wT h (k:=0) (m:=n) (jV _) b (fE a c 0 1) (λg e i d=>by subst d;rw[lD oM]);unfold Bys at this;rw[List.drop_zero,aT,fJ b]at this;exact this
theorem vS {S:X4} {a:X5} (h:Bys w S a l) (d:n<=l.length) (f:l.length<=c):Bys w S (fE a c n 1) (l.drop n):=by
 have:=wT h (k:=n) (m:=l.length) d (av _) (fE a c n 1) (λg e i b=>by subst b;rw[lD oM,Nat.mul_one])
 rwa [dM]at this
theorem SC {S T:X4} {a:X5} (h:Bys w S a l) (b:Mod T [some 309] w w'):Bys w' S a l:=
 aG h (ts:=[some 5]) (b.aM dC) sM
theorem yB (S:X4) (p:Nat) (l:List Int) (n:Nat) (w:World) (h:pu w S p l) (a7:l.length<=140737488355328) (b0:n<=100000):
  Yk 95 #[pT p,jI n] w λc m=>∃b a,c=.returned (.tuple #[.slice b (fQ n l).val.length a,jI (fQ n l).err])/\Bys m (λd=>w.heap.size<=d/\d<m.heap.size) b (fQ n l).val/\
   pu m S p (fQ n l).left/\Mod (λd=>d=p) [some 309] w m/\(fQ n l).val.length<=a:=by
 obtain⟨b,a,g,y,z⟩:=h.ex;have U:=zH h;obtain⟨L,R⟩:=g.cz 0;have k:=g.lt;obtain⟨H,v⟩:=yx g y;clear h g y;have b4:decide ((n:Int)<0)=false:=sM;by_cases j:l.length<n
 .have c:fQ n l=⟨[],2,l⟩:=by unfold fQ;rw[aB j]
  rw[c];clear c;go_enter Tryz.func95,Tryz.ntmps95;go_wp2;go_ret2;exact⟨none,0,rfl,Bys.WH,U.o,aV _ _ _,av _⟩
 .have c:fQ n l=⟨l.take n,0,l.drop n⟩:=by unfold fQ;rw[Ww j]
  rw[c];clear c;(have a8:=bJ j);have a9:decide ((l.length:Int)<(n:Int))=false:=sO;have t:n<=l.length:=oM;obtain⟨b2,s,a0,F,a1⟩:=info_parts lF;have hcut:=tY (P:=prog) Tryz.underlying47 s b l.length a n oM;have W:=gI (P:=prog) Tryz.underlying47 s b l.length a n t;rw[F]at hcut W;obtain⟨K,I⟩:=yx (JX v.o t z) (vS v.o t z);(have C:(l.take n).length=n:=by rw[aT];omega);(have D:(l.drop n).length=l.length -n:=by rw[bI]);obtain⟨f,x⟩:=yx C D;generalize fE b a 0 1=N at*
  generalize fE b a n 1=r at*
  clear s a0 F a1 j C D;go_enter Tryz.func95,Tryz.ntmps95;go_wp2_with (at_builtin;refine fe.wpList rfl _ (.tmp 25) rfl w.heap.size none 0 [] (by rfl) (iq _ _ _ _) N a (l.take n) (by simp[Act.eval,f.o]) (by rw[f.o];exact K.o) (by rw[f.o];simp;omega) dC (av _) ?_;intro G M o E A;have e:bW w o:=(aj w.heap.size w).grown A (av _) XI;have b3:=(e.cell (p:=⟨p,0,none⟩) k).trans L;have a5:=(e.frozen (p:=⟨p,0,none⟩) k).trans R;have b1:p<o.heap.size:=aC k e.size;have J:=zH E;have q:=zH e;clear E A e);go_ret2;have u:=J.o;rw[List.nil_append]at u;have V:=(OwnAt.fresh u).cap_;obtain⟨a2,a3,Z,a6,Y⟩:=nT u;injection Z with O a4 Q;subst O Q;have i:=H.o.below q.o k;(have X:(o.setCell ⟨p,0,none⟩ (.slice r (l.length -n) (a -n))).heap.size=o.heap.size:=by simp[World.setCell]);refine⟨G,M,by simp[f.o],?_,⟨r,a -n,?_,?_,?_⟩,?_,V⟩
  .exact aF (aG Y (ts:=[some 5]) (bQ.setCell i dC 0 _) sM) (λd B=>⟨B.1,by rw[X];exact B.2⟩)
  .rw[x.o];simpa using i.bF 0 (.slice r (l.length -n) (a -n))
  .exact aG (aD I.o q.o) (ts:=[some 5]) (bQ.setCell i dC 0 _) sM
  .rw[x.o];omega
  .exact Mod.setCell (S:=λd=>d=p) (T:=[some 309]) (aH q.o) i (λ_=>rfl) (List.Mem.head _) 0 _
theorem nR (S:X4) (p:Nat) (l:List Int) (n:Nat) (w:World) (h:pu w S p l) (k:l.length<=140737488355328) (m:n<=100000):
  Yk 95 #[pT p,jI n] w λe a=>∃b d,e=.returned (.tuple #[.slice b (fQ n l).val.length d,jI (fQ n l).err])/\Bys a (λc=>w.heap.size<=c/\c<a.heap.size) b (fQ n l).val/\
   pu a S p (fQ n l).left/\Mod (λc=>c=p) [some 309] w a:=
 (yB S p l n w h k m).mono λe a ⟨b,d,f,g,i,j,_⟩=>⟨b,d,f,g,i,j⟩
def Rdm (p:Nat) (w w':World):Prop:=Mod (λa=>a=p) [some 309] w w'
theorem Rdm.bys {S:X4} {a:X5} (h:Rdm p w w') (hb:Bys w S a l):Bys w' S a l:=SC hb h
theorem Rdm.trans (h:Rdm p w w') (a:Rdm p w' W):Rdm p w W:=Mod.trans h a
theorem ru (n:Int) (l:List Int) (x:Int):eD n (l++[x])=eD n l*256+x:=by unfold eD;rw[iA];rfl
theorem vK {n:Int} (a:dP l) (k:Nat) (b:0<=n) (c:n<256^k):0<=eD n l/\eD n l<256^(k+l.length):=by
 induction l generalizing n k with
 |nil=>exact⟨b,by simpa[eD]using c⟩
 |cons x t ih=>
  have g:=a x sM;(have d:n*256+x<256^(k+1):=by rw[Int.pow_succ];omega);have:=ih (λf e=>a f (by simp[e])) (k+1) (n:=n*256+x) oM d;rw[show k+(x::t).length=k+1+t.length by simp;omega];exact this
theorem yN {m c:Int} (d:0<=m) (e:m<72057594037927936) (c0:0<=c) (c1:c<256):bits BinOp.or IntKind.u64 (m*256) c=m*256+c:=by
 obtain⟨m,rfl⟩:=bH d;obtain⟨c,rfl⟩:=bH c0;have a:((m:Int)*256)=((m*256:Nat):Int):=oM;rw[a,bits_or_u64_nat (m*256) c oM oM];have:=Nat.two_pow_add_eq_or_of_lt (i:=8) (b:=c) oM m;rw[show 2^8*m=m*256 by omega]at this;omega
theorem Ba (S:X4) (p:Nat) (l:List Int) (w:World) (h:pu w S p l) (L:l.length<=140737488355328) (x:dP l):
  Yk 98 #[pT p] w λc C=>c=.returned (.tuple #[uI (jU l).val,jI (jU l).err])/\pu C S p (jU l).left/\Mod (λM=>M=p) [some 309] w C:=by
 have j:=zH (nR S p l 8 w h L dC);clear h;by_cases d:l.length<8
 .have c:fQ 8 l=⟨[],2,l⟩:=by unfold fQ;rw[aB d]
  (have f:jU l=⟨0,2,l⟩:=by unfold jU;rw[aB d]);rw[c]at j;rw[f];clear c f;go_enter Tryz.func98,Tryz.ntmps98;go_wp2_with fail;refine j.o.mono ?_;rintro c O ⟨G,H,rfl,k,i,g⟩;obtain⟨q,o⟩:=yx i g;clear k i g;go_wp2;go_ret2;exact⟨rfl,q.o,o.o⟩
 .have c:fQ 8 l=⟨l.take 8,0,l.drop 8⟩:=by unfold fQ;rw[Ww d]
  (have f:jU l=⟨eD 0 (l.take 8),0,l.drop 8⟩:=by unfold jU;rw[Ww d]);rw[c]at j;rw[f];(have z:(l.take 8).length=8:=by rw[aT];omega);have v:dP (l.take 8):=λm e=>x m (bf e);clear c f d x;generalize l.take 8=b at*
  obtain⟨P,s⟩:=yx z v;have X:b.length<=8:=oM;clear z v;go_enter Tryz.func98,Tryz.ntmps98;go_wp2_with fail;refine j.o.mono ?_;rintro c O ⟨G,H,rfl,k,i,g⟩;obtain⟨D,q,o⟩:=Av k i g;clear k i g;go_wp2;go_loop [6,19] (λN r=>∃(a:Nat),a<=b.length/\r=jI a/\N=uI (eD 0 (b.take a))) (λ_ r=>b.length -(intOf r).toNat);(case atStart=>exact⟨0,oM,rfl,rfl⟩);case round=>
   obtain⟨a,T,rfl,rfl⟩:=hrel;by_cases d:a<b.length
   .obtain⟨Q,W,rfl,R,U⟩:=D.o.at_ (aj _ _) d
    obtain⟨I,t⟩:=vK (n:=0) (l:=b.take a) (λm e=>s.o m (bf e)) 0 dC dC;(have y:(b.take a).length=a:=by rw[aT];omega);rw[y,Nat.zero_add]at t;have J:eD 0 (b.take a)<72057594037927936:=by
     have:(256:Int)^a<=256^7:=by
      have K:256^a<=256^7:=Nat.pow_le_pow_right dC oM;have u:=Int.ofNat_le.2 K;rw[Int.natCast_pow,Int.natCast_pow]at u;exact u
     have c:(256:Int)^7=72057594037927936:=dC;omega
    have e:=s.o _ (aN d);(have B:eD 0 (b.take (a+1))=eD 0 (b.take a)*256+b[a]:=by rw[bB d,ru]);have A:=yN I J e.1 e.2;obtain⟨F,E⟩:=yx B A;have Y:=e.1;have Z:=e.2;clear t y e B A;generalize eD 0 (b.take a)=V at*
    generalize b[a]=m at*
    go_wp2;go_round;(case rel=>exact⟨a+1,oM,by go_num,by rw[F.o,<-E.o]⟩);case measure=>exact Yl
   .obtain rfl:a=b.length:=oM
    have c:b.take b.length=b:=dM;rw[c];clear c;go_wp2;go_ret2;exact⟨rfl,q.o,o.o⟩
theorem Qe:eZ []=⟨0,2,[]⟩:=rfl
theorem Ex (a:Int) (t:List Int):eZ (a::t)=if(a::t).length<nM a then⟨0,2,a::t⟩else if eU (eD (a%64) (t.take (nM a -1)))≠nM a then⟨0,5,a::t⟩else⟨eD (a%64) (t.take (nM a -1)),0,(a::t).drop (nM a)⟩:=rfl
theorem wG (S:X4) (p:Nat) (l:List Int) (w:World) (h:pu w S p l) (e2:l.length<=140737488355328) (D:dP l):
  Yk 97 #[pT p] w λg v=>g=.returned (.tuple #[uI (eZ l).val,jI (eZ l).err])/\pu v S p (eZ l).left/\Mod (λu=>u=p) [some 309] w v:=by
 obtain⟨c6,f,y,N,O⟩:=h.ex;have C:=zH h;obtain⟨c9,L⟩:=y.cz 0;have e3:=y.lt;obtain⟨z,A⟩:=yx y N;clear h y N;rcases l with _|⟨b,c⟩
 .rw[Qe]
  go_enter Tryz.func97,Tryz.ntmps97;go_wp2;go_ret2;exact⟨rfl,C.o,aV _ _ _⟩
 .have R:=D b sM
  have U:dP c:=λr i=>D r (by simp[i]);obtain⟨o,q,rfl,d8,c4⟩:=A.o.at_ (aj _ _) (j:=0) sM;rw[Nat.add_zero,show(b::c)[0]=b from rfl]at c4;have f3:=R.1;have f4:=R.2;have a0:(b::c).length=c.length+1:=rfl;rw[Ex];obtain⟨a,g,d2,d6,d7⟩:∃a:Nat,nM b=a/\wrap64 (2^(b/64).toNat)=(a:Int)/\1<=a/\a<=8:=by
   have c0:(b/64).toNat=0\/(b/64).toNat=1\/(b/64).toNat=2\/(b/64).toNat=3:=oM;refine⟨_,rfl,?_⟩;unfold nM;rcases c0 with h|h|h|h<;>rw[h]<;>decide+kernel
  rw[g];have d1:c.length+1<=f:=O;by_cases B:c.length+1<a
  .have d4:decide ((c.length:Int)+1<(a:Int))=true:=sO
   rw[aB (show(b::c).length<a from B)];go_enter Tryz.func97,Tryz.ntmps97;go_wp2;go_ret2;exact⟨rfl,C.o,aV _ _ _⟩
  .rw[Ww (show¬(b::c).length<a from B)]
   have d5:a<=c.length+1:=oM;have d3:decide ((c.length:Int)+1<(a:Int))=false:=sO;obtain⟨e8,Y,e6,a7,e7⟩:=info_parts lF;(have a6:(c.take (a -1)).length=a -1:=by rw[aT];omega);have hcut:∀w,(Instr.slice 47 (.slice (some ⟨o,q,none⟩) (c.length+1) f) (some (jI 1)) (some (jI a)) none).run prog w=.ok (.slice (fE (some ⟨o,q,none⟩) f 1 1) (c.take (a -1)).length (f -1)) w:=λw=>by
    have h:=qL (P:=prog) Tryz.underlying47 Y (some ⟨o,q,none⟩) (c.length+1) f 1 a oM oM w;rw[a7]at h;rw[a6];exact h
   have e0:∀w,(Instr.slice 47 (.slice (some ⟨o,q,none⟩) (c.length+1) f) (some (jI a)) none none).run prog w=.ok (.slice (fE (some ⟨o,q,none⟩) f a 1) (c.length+1 -a) (f -a)) w:=λw=>by
    have h:=gI (P:=prog) Tryz.underlying47 Y (some ⟨o,q,none⟩) (c.length+1) f a oM w;rw[a7]at h;exact h
   have a3:Bys w S (fE (some ⟨o,q,none⟩) f 1 1) (c.take (a -1)):=by
    have:=wT A.o (k:=1) (m:=a) oM (by rw[a0];omega) (fE (some ⟨o,q,none⟩) f 1 1) (λt c7 f0 g=>by injection g with g;injection g with b7 b8;subst b7 b8;rw[lD oM]);rw[List.drop_take]at this;exact this
   obtain⟨b4,a9⟩:=yx a3 (vS A.o (n:=a) (by rw[a0];omega) O);have a5:dP (c.take (a -1)):=λr i=>U r (bf i);(have V:((b::c).drop a).length=c.length+1 -a:=by rw[bI];rfl);obtain⟨a8,I,H⟩:=Av (show c.length+1 -a<=f -a by omega) a5 V;generalize(b::c).drop a=K at*
   generalize c.take (a -1)=d at*
   generalize fE (some ⟨o,q,none⟩) f 1 1=d0 at*
   generalize fE (some ⟨o,q,none⟩) f a 1=J at*
   generalize c.length+1 -a=b6 at*
   generalize f -a=G at*
   have b5:=zH (oF (eD (b%64) d));have X:∀x:Rd->Prop,(eU (eD (b%64) d)=a->x ⟨eD (b%64) d,0,K⟩)->(eU (eD (b%64) d)≠a->x ⟨0,5,b::c⟩)->x (if eU (eD (b%64) d)≠a then⟨0,5,b::c⟩else⟨eD (b%64) d,0,K⟩):=by
    intro x c2 c3;by_cases s:eU (eD (b%64) d)=a
    .rw[Ww oM];exact c2 s
    .rw[aB s];exact c3 s
   generalize W:eD (b%64) d=F at*
   refine X (λr=>Yk 97 _ w λg v=>g=.returned (.tuple #[uI r.val,jI r.err])/\pu v S p r.left/\Mod (λu=>u=p) [some 309] w v) ?_ ?_;(all_goals intro s);(all_goals have b0:=zH W);(all_goals have f2:d.length<=7:=oM);(all_goals have b2:=zH s);(all_goals clear X a3 a5 V B g U D s W a6);all_goals
    go_enter Tryz.func97,Tryz.ntmps97;go_wp2;go_loop [5,46] (λc5 E=>∃(e:Nat),e<=d.length/\E=jI e/\c5=uI (eD (b%64) (d.take e))) (λ_ E=>d.length -(intOf E).toNat);(case atStart=>exact⟨0,oM,rfl,rfl⟩);case round=>
     obtain⟨e,e1,rfl,rfl⟩:=hrel;by_cases t:e<d.length
     .obtain⟨c8,f1,rfl,d9,e9⟩:=b4.o.at_ (aj _ _) t
      obtain⟨L,M⟩:=vK (n:=b%64) (l:=d.take e) (λr i=>I.o r (bf i)) 1 oM sO;(have Z:(d.take e).length=e:=by rw[aT];omega);rw[Z]at M;have b9:eD (b%64) (d.take e)<72057594037927936:=by
       have:(256:Int)^(1+e)<=256^7:=by
        have c1:256^(1+e)<=256^7:=Nat.pow_le_pow_right dC oM;have Q:=Int.ofNat_le.2 c1;rw[Int.natCast_pow,Int.natCast_pow]at Q;exact Q
       have g:(256:Int)^7=72057594037927936:=dC;omega
      have i:=I.o _ (aN t);(have a2:eD (b%64) (d.take (e+1))=eD (b%64) (d.take e)*256+d[e]:=by rw[bB t,ru]);have a1:=yN L b9 i.1 i.2;obtain⟨b3,b1⟩:=yx a2 a1;have f5:=i.1;have f6:=i.2;clear M Z i a2 a1;generalize eD (b%64) (d.take e)=F at*
      generalize d[e]=r at*
      go_wp2;go_round;(case rel=>exact⟨e+1,oM,by go_num,by rw[b3.o,<-b1.o]⟩);case measure=>exact Yl
     .obtain rfl:e=d.length:=oM
      have g:d.take d.length=d:=dM;rw[g,b0.o];clear g t;have a4:=b5.o;have s:=b2.o;(first|(rw[s]at a4)|(have e4:((eU F:Int)!=(a:Int))=true:=sO;have e5:((eU F:Int)==(a:Int))=false:=sO));clear s;go_wp2_with fail;refine Yg (a4 _) ?_;go_wp2;go_ret2;first|(exact⟨rfl,⟨J,G,by rw[H.o];simpa using z.o.bF 0 (.slice J b6 G),aG a9.o (ts:=[some 5]) (bQ.setCell z.o dC 0 _) sM,by rw[H.o];exact a8.o⟩,Mod.setCell (S:=λu=>u=p) (T:=[some 309]) (aV _ _ _) z.o (λ_=>rfl) (List.Mem.head _) 0 _⟩)|(exact⟨rfl,C.o,aV _ _ _⟩)
theorem aP:(∀(a:Act) (d:Value),a.put none d=a)/\(∀(e:Array Value) (b:List Deferred) (f:Tmp) (d:Value),Act.put ⟨e,b⟩ (some f) d=⟨e.setIfInBounds f d,b⟩)/\(∀(c:List Value) (i:Nat) (d:Value),c.toArray.setIfInBounds i d=(c.set i d).toArray)/\(∀(c:List Value) (a b:Value),(a::c).set 0 b=b::c)/\(∀(c:List Value) (i:Nat) (a b:Value),(a::c).set (i+1) b=a::c.set i b):=
 ⟨λ_ _=>rfl,λ_ _ _ _=>rfl,λ_ _ _=>List.setIfInBounds_toArray ..,λ_ _ _=>rfl,λ_ _ _ _=>rfl⟩
theorem Below.bZ {B b:Nat} {a:World} (hb:B<=b):∀(d:List Value) (c:Nat) (w:World),Below B a w->Below B a (w.setCells b c d)
 |[],_,_,h=>h
 |v::r,c,w,h=>Below.bZ hb r (c+1) _ (bG h hb v)
theorem Blk.gy {g b:Nat} {t:TypeId} {d:Array Value} (hb:g≠b):∀(e:List Value) (c:Nat) (w:World),Blk w g t d->Blk (w.setCells b c e) g t d
 |[],_,_,h=>h
 |v::r,c,w,h=>Blk.gy hb r (c+1) _ (h.far hb v)
theorem Blk.there {g:Nat} (h:Blk w g t C) (n:Nat) (d:n<=C.size):w.there g 0 n:=λb c=>by
 refine⟨?_,h.frozen (0+b)⟩;rw[Nat.zero_add,cell_of_row w g b C t (0,0) h,Array.getElem?_eq_getElem oM];rfl
theorem Blk.Px {g:Nat} {t:TypeId}:∀(d:List Value) (b:Nat) (w:World) (c:Array Value),Blk w g t c->b+d.length<=c.size->Blk (w.setCells g b d) g t (c.toList.take b++d++c.toList.drop (b+d.length)).toArray
 |[],b,w,c,h,_=>by simpa[World.setCells]using h
 |v::r,b,w,c,h,hl=>by
  have e:=Blk.Px r (b+1) _ _ (h.bF b v) (by simp at hl|-;omega);have f:=list_seg_step c.toList b v r (by simp at hl|-;omega);rw[Array.toList_setIfInBounds,f]at e;exact e
theorem Blk.gF {g:Nat} (h:Blk w g t C) (b:List Value) (c:b.length=C.size):Blk (w.setCells g 0 b) g t b.toArray:=by
 have:=Blk.Px b 0 w C h oM;rw[List.take_zero,List.nil_append,Nat.zero_add,List.drop_eq_nil_of_le sO,List.append_nil]at this;exact this
section
variable {P:Program} {md:Region.Mode} {ops:Array Oper} {Q:X7} {S:World->Prop} {i:Nat} {op:Oper} {fuel:Nat} {listed:Array Bool} {a:Act} {w:World}
theorem oC (ty:TypeId) (x y:Operand) (b o:Nat) (c:Array Value) (k:ops[i]?=some op) (m:Region.ready md ops listed=[i]) (l:op.op=.store ty x y) (j:op.guard=none) (g:op.dst=none)
  (p:a.eval x=.pointer (some ⟨b,o,none⟩)) (hy:a.eval y=.agg c) (n:w.there b o c.size) (q:(P.info? ty).map (·.size)=some c.size) (d:c.all (·.oneCell')=true)
  (f:S (w.setCells b o c.toList)) (h:wpAnyH P md ops Q S fuel (listed.setIfInBounds i true) a (w.setCells b o c.toList)):wpAnyH P md ops Q S (fuel+1) listed a w:=by
 refine wpAnyH_ready m sM (AllReadyH.cons k (λr e=>?_) AllReadyH.nil);rw[aB (by simp[Region.wanted,j])];refine wp_store_mid ty x y l b o c p hy n q d ?_;rw[g];exact e.out _ _ f (λ_=>h)
theorem aI (i:Nat) (d:Region.ready md ops listed=[i]) (h:wpOp P ops Q i (λa' e=>S e/\wpAnyH P md ops Q S fuel (listed.setIfInBounds i true) a' e) a w):wpAnyH P md ops Q S (fuel+1) listed a w:=by
 refine⟨λb=>?_,λf c=>?_⟩
 .rw[d]at b;cases b
 .rw[d]at c
  (obtain rfl:f=i:=by simpa using c);exact h
theorem fo (i j:Nat) (e:Region.ready md ops listed=[i,j]) (h:wpOp P ops Q i (λa' c=>S c/\wpAnyH P md ops Q S fuel (listed.setIfInBounds i true) a' c) a w)
  (f:wpOp P ops Q j (λa' c=>S c/\wpAnyH P md ops Q S fuel (listed.setIfInBounds j true) a' c) a w):wpAnyH P md ops Q S (fuel+1) listed a w:=by
 refine⟨λd=>?_,λg b=>?_⟩
 .rw[e]at d;cases d
 .rw[e]at b
  rcases bT.1 b with b|b
  .subst b;exact h
  .obtain rfl:g=j:=by simpa using b
   exact f
theorem KJ (e:ops[i]?=some op) (c:op.guard=none) (d:Option Tmp) (b:op.dst=d) (v:Value) (w':World) (f:(execOp a.eval op).run P w=.ok (.value v) w') (h:K (a.put d v) w'):wpOp P ops Q i K a w:=by
 subst b;unfold wpOp;simp only[e,Region.wanted,c,if_true];refine .inl ?_;unfold Oper.wp;rw[f];exact h
theorem WE (k:ops[i]?=some op) (g:op.guard=none) (d:Option Tmp) (e:op.dst=d) (f:FuncId) (args:Array Value) (m:(execOp a.eval op).run P w=.ok (.enter f args) w)
  (h:Calls P f args w λc n=>∃b,c=.returned b/\K (a.put d b) n):wpOp P ops Q i K a w:=by
 subst e;unfold wpOp;simp only[k,Region.wanted,g,if_true];refine .inl ?_;unfold Oper.wp;rw[m,Oper.upon_enter];refine h.mono λc o j=>?_;obtain⟨b,rfl,l⟩:=j;exact l
theorem P8 (g:ops[i]?=some op) (f:op.guard=none) (d:Option Tmp) (e:op.dst=d) (t:TypeId) (j:op.op=.alloc t) (c:Array Value) (b:((P.info? t).bind (·.zero)).map (·.cells)=some c)
  (h:K (a.put d (.pointer (some ⟨w.heap.size,0,none⟩))) (w.alloc (.cells c t))):wpOp P ops Q i K a w:=by
 refine KJ g f d e _ _ ?_ h;cases hq:P.info? t with
 |none=>rw[hq]at b;cases b
 |some inf=>
  cases hzz:inf.zero with
  |none=>rw[hq]at b;simp[hzz]at b
  |some z=>
   rw[hq]at b;simp[hzz]at b;subst b;simp[execOp,j,Instr.alloc,zeroValue,typeInfo,hq,hzz,newVar,newRow]
theorem fA (j:ops[i]?=some op) (g:op.guard=none) (d:Option Tmp) (f:op.dst=d) (t:TypeId) (k:op.op=.alloc t) (c:Array Value) (l:((P.info? t).bind (·.zero)).map (·.cells)=some c)
  (h:∀(b:Nat) (e:World),bW w e->w.heap.size<=b->Blk e b t c->K (a.put d (.pointer (some ⟨b,0,none⟩))) e):wpOp P ops Q i K a w:=
 P8 j g d f t k c l (h _ _ ((aj _ _).alloc (av _) _) (av _) (Wx _ _ _))
theorem opC (d f:Nat) (args:Array Value) (h:Calls P f args w λc l=>∃b,c=.returned b/\K (a.put (some d) b) l) (j:ops[i]?=some op:=by exact rfl) (g:op.guard=none:=by kernel_rfl) (e:op.dst=some d:=by kernel_rfl) (k:(execOp a.eval op).run P w=.ok (.enter f args) w:=by kernel_rfl):wpOp P ops Q i K a w:=WE j g (some d) e f args k h
theorem opA (d t:Nat) (c:Array Value) (h:∀(b:Nat) (e:World),Below w.heap.size w e->w.heap.size<=b->Blk e b t c->K (a.put (some d) (.pointer (some ⟨b,0,none⟩))) e) (j:ops[i]?=some op:=by exact rfl) (g:op.guard=none:=by kernel_rfl) (f:op.dst=some d:=by kernel_rfl) (k:op.op=.alloc t:=by kernel_rfl) (l:((P.info? t).bind (·.zero)).map (·.cells)=some c:=by kernel_rfl):wpOp P ops Q i K a w:=fA j g (some d) f t k c l h
theorem jl (c:ops[i]?=some op) (b:op.guard=none) (h:op.wp P a w K Q):wpOp P ops Q i K a w:=by
 unfold wpOp;simp only[c,Region.wanted,b,if_true];exact .inl h
theorem jX (o:ops[i]?=some op) (n:op.guard=none) (d:Option Tmp) (l:op.dst=d) (t e:TypeId) (c:Nat) (j:Array (Nat×Operand)) (q:op.op=.buildSlice t c j)
  (g:Array Value) {b:TypeInfo} {z:Value} (u:P.underlying t=some (.slice e)) (p:P.info? e=some b) (v:b.zero=some z) (s:¬c*b.size>2^24) (r:¬c*b.size=0)
  (m:Instr.fill (λi=>some (i*b.size,b.size)) ((Array.range (c*b.size)).map (z.cells[·%z.cells.size]!)) (j.map λ(i,x)=>(i,a.eval x)).toList=some g)
  (h:∀(f:Nat) (k:World),bW w k->w.heap.size<=f->Blk k f e g->K (a.put d (.slice (some ⟨f,0,none⟩) c c)) k):wpOp P ops Q i K a w:=by
 subst l;exact jl o n (wp_buildSlice t e c j q g b z u p v s r m (h _ _ ((aj _ _).alloc (av _) _) (av _) (Wx _ _ _)))
theorem fF (n:ops[i]?=some op) (m:op.guard=none) (k:op.dst=none) (ty:TypeId) (x y:Operand) (q:op.op=.store ty x y) (g o:Nat) (v:Value) (u:a.eval x=.pointer (some ⟨g,o,none⟩)) (hy:a.eval y=v) (c:v.oneCell'=true)
  (b:(P.info? ty).map (·.size)=some 1) (hb:Blk w g t C) (p:o<C.size) (h:∀d,d=w.setCell ⟨g,o,none⟩ v->K a d):wpOp P ops Q i K a w:=by
 refine jl n m ?_;have f:v.cells= #[v]:=by cases v<;>first|rfl|cases c
 (have j:w.cell? ⟨g,o,none⟩=some C[o]:=by rw[cell_of_row w g o C t (0,0) hb,Array.getElem?_eq_getElem p]);have l:=hb.frozen o;cases hq:P.info? ty with
 |none=>rw[hq]at b;cases b
 |some inf=>
  (have s:inf.size=1:=by simpa[hq]using b);(have r:(store (⟨g,o,none⟩:Addr) v).run P w=.ok () (w.setCell ⟨g,o,none⟩ v):=by rw[run_store P w _ v _ c,j];simp[l]);(have e:(⟨g,o,none⟩:Addr).add 0=⟨g,o,none⟩:=by rw[Go.WideShapes.add_plain];rfl);unfold Oper.wp execOp;simp[q,u,hy,Instr.storeAt,Instr.sureAddr,storeVar,sizeOf,typeInfo,hq,s,f,storeCells,e,r];simp[Oper.upon,k,Act.put];exact h _ rfl
theorem Ke (k:op.dst=none) (ty:TypeId) (x y:Operand) (n:op.op=.store ty x y) (g o:Nat) (v:Value) (r:a.eval x=.pointer (some ⟨g,o,none⟩)) (hy:a.eval y=v) (c:v.oneCell'=true)
  (b:(P.info? ty).map (·.size)=some 1) (hb:Blk w g t C) (m:o<C.size) (h:∀d,d=w.setCell ⟨g,o,none⟩ v->K a d):op.wp P a w K Q:=by
 have f:v.cells= #[v]:=by cases v<;>first|rfl|cases c
 (have j:w.cell? ⟨g,o,none⟩=some C[o]:=by rw[cell_of_row w g o C t (0,0) hb,Array.getElem?_eq_getElem m]);have l:=hb.frozen o;cases hq:P.info? ty with
 |none=>rw[hq]at b;cases b
 |some inf=>
  (have q:inf.size=1:=by simpa[hq]using b);(have p:(store (⟨g,o,none⟩:Addr) v).run P w=.ok () (w.setCell ⟨g,o,none⟩ v):=by rw[run_store P w _ v _ c,j];simp[l]);(have e:(⟨g,o,none⟩:Addr).add 0=⟨g,o,none⟩:=by rw[Go.WideShapes.add_plain];rfl);unfold Oper.wp execOp;simp[n,r,hy,Instr.storeAt,Instr.sureAddr,storeVar,sizeOf,typeInfo,hq,q,f,storeCells,e,p];simp[Oper.upon,k,Act.put];exact h _ rfl
theorem qR (ty:TypeId) (x y:Operand) (l:op.op=.store ty x y) (j:op.guard=none) (f:op.dst=none) (g o:Nat) (v:Value) (m:a.eval x=.pointer (some ⟨g,o,none⟩)) (hy:a.eval y=v) (d:v.oneCell'=true)
  (n:(P.info? ty).map (·.size)=some 1) (hb:Blk w g t C) (k:o<C.size) (h:∀b,b=w.setCell ⟨g,o,none⟩ v->wpList P ops Q O a b):wpList P ops Q (op::O) a w:=
 wpList_plain j λp e=>Ke f ty x y l g o v m hy d n hb k (λb c=>e _ _ (h b c))
theorem dJ (ty:TypeId) (x y:Operand) (b o:Nat) (c:Array Value) (k:ops[i]?=some op) (m:Region.ready md ops listed=[i]) (l:op.op=.store ty x y) (j:op.guard=none) (g:op.dst=none)
  (p:a.eval x=.pointer (some ⟨b,o,none⟩)) (hy:a.eval y=.agg c) (n:w.there b o c.size) (q:(P.info? ty).map (·.size)=some c.size) (e:c.all (·.oneCell')=true)
  (f:S (w.setCells b o c.toList)) (h:∀d,d=w.setCells b o c.toList->wpAnyH P md ops Q S fuel (listed.setIfInBounds i true) a d):wpAnyH P md ops Q S (fuel+1) listed a w:=
 oC ty x y b o c k m l j g p hy n q e f (h _ rfl)
theorem iG (ty:TypeId) (x y:Operand) (k:op.op=.store ty x y) (j:op.guard=none) (g:op.dst=none) (b o:Nat) (c:Array Value)
  (m:a.eval x=.pointer (some ⟨b,o,none⟩)) (hy:a.eval y=.agg c) (l:w.there b o c.size) (n:(P.info? ty).map (·.size)=some c.size) (e:c.all (·.oneCell')=true)
  (h:∀d,d=w.setCells b o c.toList->wpList P ops Q O a d):wpList P ops Q (op::O) a w:=
 wpList_plain j λp f=>wp_store_mid ty x y k b o c m hy l n e (by rw[g];exact f _ _ (h _ rfl))
theorem iL {v:Value} (i:Nat) (d:Option Tmp) (j:ops[i]?=some op) (f:op.dst=d) (l:Region.noSelect ops=true) (g:Region.free md ops listed i=true) (k:(Region.ready md ops listed).contains i=true)
  (c:∀b a w,Q (.panic b) (a.put d v) w->Q (.panic b) a w) (hy:YieldsIf P ops S op v a) (e:S w)
  (h:wpAnyH P md ops Q S fuel (listed.setIfInBounds i true) (a.put d v) w):wpAnyH P md ops Q S (fuel+1) listed a w:=by
 subst f;exact wpAnyH_take j l g k c hy e h
theorem Ip {l:List Oper} (F:Nat->Act) (C:Nat->World->Prop) (d:∀b c,C b c->Q .normal (F b) c) (h:(∀b c,C b c->Q .normal (F b) c)->(Code.region p l.toArray true).wp P Q a w):(Code.region p l.toArray true).wp P Q a w:=h d
theorem Blk.range {g:Nat} (h:Blk w g t C):w.rangeAt g 0 C.toList:=λc d b=>by
 rw[Nat.zero_add,cell_of_row w g c C t (0,0) h];simpa using b
theorem kP (ty:TypeId) (x:Operand) (j:op.op=.load ty x) (g:op.guard=none) (d:Option Tmp) (f:op.dst=d) (b:Nat) (m:a.eval x=.pointer (some ⟨b,0,none⟩)) (c:Array Value) (hb:Blk w b t c)
  (e:TypeDesc) (l:P.underlying ty=some e) (k:e.isRow=true) (n:(P.info? ty).map (·.size)=some c.size) (h:wpList P ops Q O (a.put d (.agg c)) w):wpList P ops Q (op::O) a w:=by
 subst f;exact wpList_load_mid g ty x j b 0 m c.toList e hb.range l k (by simpa using n) (by simpa using h)
theorem iZ {f:Func} {R:Ending->World->Prop} (e:Tmp) (ty:TypeId) (b:Nat) (c:Array Value) (o:f.results= #[.cell e ty]) (j:a.tmps.getD e undef=.pointer (some ⟨b,0,none⟩)) (hb:Blk w b t c)
  (d:TypeDesc) (p:P.underlying ty=some d) (n:d.isRow=true) (q:(P.info? ty).map (·.size)=some c.size) (l:a.defers=[]) (g:R (.returned (.agg c)) w):bodyPost P f R .ret a w:=by
 refine eG (v:=.agg c) ?_ l g;have m:=run_loadVar_mid (P:=P) w b 0 ty c.toList d hb.range p n (by simpa using q);(have k:a.tmps[e]?.getD undef=.pointer (some ⟨b,0,none⟩):=by rw[<-j,Array.getD_eq_getD_getElem?]);simp[results,o,k,asAddr];simpa using m
end
def XH (n m:Nat):Array Bool:=((List.range n).map m.testBit).toArray
section
variable {P:Program} {md:Region.Mode} {ops:Array Oper} {Q:X7} {S:World->Prop} {op:Oper} {fuel:Nat} {listed:Array Bool} {a a':Act} {w:World}
theorem nrm (n m:Nat) (h:wpAnyH P md ops Q S fuel (XH n m) a w) (b:listed=XH n m:=by kernel_rfl):wpAnyH P md ops Q S fuel listed a w:=b▸h
theorem tk {v:Value} (i:Nat) (d:Option Tmp) (e:S w) (k:ops[i]?=some op:=by exact rfl) (g:op.dst=d:=by kernel_rfl) (m:Region.noSelect ops=true:=by kernel_rfl) (j:Region.free md ops listed i=true:=by kernel_rfl) (l:(Region.ready md ops listed).contains i=true:=by kernel_rfl)
  (c:∀b a w,Q (.panic b) (a.put d v) w->Q (.panic b) a w:=by exact λ_ _ _ h=>h) (n:Region.wanted op (yielded ops a.tmps)=true:=by rfl) (hy:∀w,S w->(execOp a.eval op).run P w=.ok (.value v) w:=by intro w o;exact gS)
  (f:a.put d v=a':=by first|(simp only[Act.put,List.setIfInBounds_toArray,List.set_cons_zero,List.set_cons_succ];exact rfl)|exact rfl) (h:wpAnyH P md ops Q S fuel (listed.setIfInBounds i true) a' w):wpAnyH P md ops Q S (fuel+1) listed a w:=by
 subst f;exact iL i d k g m j l c (.inl ⟨n,hy⟩) e h
theorem tK {v:Value} (i d:Nat) (e:S w) (h:wpAnyH P md ops Q S fuel (listed.setIfInBounds i true) a' w) (k:ops[i]?=some op:=by exact rfl) (g:op.dst=some d:=by kernel_rfl) (m:Region.noSelect ops=true:=by kernel_rfl) (j:Region.free md ops listed i=true:=by kernel_rfl) (l:(Region.ready md ops listed).contains i=true:=by kernel_rfl)
  (c:∀b a w,Q (.panic b) (a.put (some d) v) w->Q (.panic b) a w:=by exact λ_ _ _ h=>h) (n:Region.wanted op (yielded ops a.tmps)=true:=by rfl) (hy:∀w,S w->(execOp a.eval op).run P w=.ok (.value v) w:=by intro w o;go_simp;try with_reducible rfl)
  (f:a.put (some d) v=a':=by first|(simp only[Act.put,List.setIfInBounds_toArray,List.set_cons_zero,List.set_cons_succ];exact rfl)|exact rfl):wpAnyH P md ops Q S (fuel+1) listed a w:=
 tk i (some d) e k g m j l c n hy f h
theorem X6 {v:Value} (i d:Nat) (e:S w) (h:wpAnyH P md ops Q S fuel (listed.setIfInBounds i true) a' w) (k:ops[i]?=some op:=by exact rfl) (g:op.dst=some d:=by kernel_rfl) (m:Region.noSelect ops=true:=by kernel_rfl) (j:Region.free md ops listed i=true:=by kernel_rfl) (l:(Region.ready md ops listed).contains i=true:=by kernel_rfl)
  (c:∀b a w,Q (.panic b) (a.put (some d) v) w->Q (.panic b) a w:=by exact λ_ _ _ h=>h) (n:Region.wanted op (yielded ops a.tmps)=true:=by rfl) (y:∀w,S w->(execOp a.eval op).run P w=.ok (.value v) w)
  (f:a.put (some d) v=a':=by first|(simp only[Act.put,List.setIfInBounds_toArray,List.set_cons_zero,List.set_cons_succ];exact rfl)|exact rfl):wpAnyH P md ops Q S (fuel+1) listed a w:=
 tk i (some d) e k g m j l c n y f h
theorem Yf {v:Value} {b:Prop} (i d:Nat) (g:S w) (h:wpAnyH P md ops Q S fuel (listed.setIfInBounds i true) a' w) (e:Bx (wpAnyH P md ops Q S (fuel+1) listed a w)->b:=by
 intro h;(try simp only[aP]);exact h.o) (m:ops[i]?=some op:=by exact rfl) (k:op.dst=some d:=by kernel_rfl) (o:Region.noSelect ops=true:=by kernel_rfl) (l:Region.free md ops listed i=true:=by kernel_rfl) (n:(Region.ready md ops listed).contains i=true:=by kernel_rfl)
  (f:∀c a w,Q (.panic c) (a.put (some d) v) w->Q (.panic c) a w:=by exact λ_ _ _ h=>h) (p:Region.wanted op (yielded ops a.tmps)=true:=by rfl) (hy:∀w,S w->(execOp a.eval op).run P w=.ok (.value v) w:=by intro w q;go_simp;try with_reducible rfl)
  (j:a.put (some d) v=a':=by first|(simp only[Act.put,List.setIfInBounds_toArray,List.set_cons_zero,List.set_cons_succ];exact rfl)|exact rfl):b:=
 e ⟨tk i (some d) g m k o l n f p hy j h⟩
theorem tkU (i:Nat) (d:Option Tmp) (e:S w) (k:ops[i]?=some op:=by exact rfl) (g:op.dst=d:=by kernel_rfl) (m:Region.noSelect ops=true:=by kernel_rfl) (j:Region.free md ops listed i=true:=by kernel_rfl) (l:(Region.ready md ops listed).contains i=true:=by kernel_rfl)
  (c:∀b a w,Q (.panic b) (a.put d undef) w->Q (.panic b) a w:=by exact λ_ _ _ h=>h) (n:Region.wanted op (yielded ops a.tmps)=false:=by kernel_rfl)
  (f:a.put d undef=a':=by first|(simp only[Act.put,List.setIfInBounds_toArray,List.set_cons_zero,List.set_cons_succ];exact rfl)|exact rfl) (h:wpAnyH P md ops Q S fuel (listed.setIfInBounds i true) a' w):wpAnyH P md ops Q S (fuel+1) listed a w:=by
 subst f;exact iL i d k g m j l c (.inr ⟨n,rfl⟩) e h
end
theorem mP {b c:Prop} (g:c) (h:Bx c->b:=by
 intro h;(try simp only[aP]);exact h.o):b:=h ⟨g⟩
section
variable {P:Program} {md:Region.Mode} {ops:Array Oper} {Q:X7} {S:World->Prop} {fuel:Nat} {listed:Array Bool} {a:Act} {w:World}
theorem Fu (i j l:Nat) (f:Region.ready md ops listed=[i,j,l]) (h:wpOp P ops Q i (λd c=>S c/\wpAnyH P md ops Q S fuel (listed.setIfInBounds i true) d c) a w)
  (g:wpOp P ops Q j (λd c=>S c/\wpAnyH P md ops Q S fuel (listed.setIfInBounds j true) d c) a w) (k:wpOp P ops Q l (λd c=>S c/\wpAnyH P md ops Q S fuel (listed.setIfInBounds l true) d c) a w):wpAnyH P md ops Q S (fuel+1) listed a w:=by
 refine⟨λe=>?_,λm b=>?_⟩
 .rw[f]at e;cases e
 .rw[f]at b
  simp only[bT,List.not_mem_nil,or_false]at b;rcases b with b|b|b
  .subst b;exact h
  .subst b;exact g
  .subst b;exact k
theorem uf {l:List Oper} (F:Nat->Act) (C:Nat->World->Prop) (d:∀b c,C b c->Q .normal (F b) c) (h:(∀b c,C b c->Q .normal (F b) c)->(Code.region p l.toArray true).wp P Q a w):(Code.region p l.toArray true).wp P Q a w:=h d
theorem RX {op:Oper} {i:Nat} (j:ops[i]?=some op) (g:op.guard=none) (d:Option Tmp) (f:op.dst=d) (t:TypeId) (x:Operand) (k:op.op=.box t x) (b:Array Value) (l:a.eval x=.agg b) (m:(P.info? t).map (·.size)=some b.size)
  (h:∀(c:Nat) (e:World),bW w e->w.heap.size<=c->Blk e c t b->K (a.put d ((pT c))) e):wpOp P ops Q i K a w:=by
 refine KJ j g d f ((pT w.heap.size)) (w.alloc (.cells b t)) ?_ (h _ _ ((aj _ _).alloc (av _) _) (av _) (Wx _ _ _));simp[execOp,k,l,Instr.box,newVar,newRow,Value.cells]
theorem FR {l:List Oper} (F:Nat->Nat->Option Addr->Nat->Option Addr->Nat->Act) (C:Nat->Nat->Option Addr->Nat->Option Addr->Nat->World->Prop) (j:∀d g b e c f i,C d g b e c f i->Q .normal (F d g b e c f) i) (h:(∀d g b e c f i,C d g b e c f i->Q .normal (F d g b e c f) i)->(Code.region p l.toArray true).wp P Q a w):(Code.region p l.toArray true).wp P Q a w:=h j
end
structure Iv where
 iat:Int
 b:List Int
 a:Option Addr
 c:Nat
def itV (x:Iv):List Value:=[uI x.iat,.slice x.a x.b.length x.c]
def Iv.it (x:Iv):It:=⟨x.iat,x.b⟩
def faV (f:Fa):List Value:=[bV f.drop,bV f.twice,bV f.mark,uI f.delay]
structure Bv where
 b:List Int
 a:Option Addr
 c:Nat
def bvV (x:Bv):List Value:=[.slice x.a x.b.length x.c]
structure rH (w:World) (S:X4) (p:Nat) (q:Pp):Prop where
 ex:∃af cf ai ci,∃iv:List Iv,Blk w p 218 #[.slice af q.qF.length cf,jI q.count,.slice ai iv.length ci]/\Row w S 187 4 af q.qF.length (q.qF.flatMap faV)/\gW w S 222 2 ai iv.length ci (iv.flatMap itV)/\(∀x∈iv,Bys w S x.a x.b)/\q.items=iv.map Iv.it
 mem:S p
structure vY (k:Nat) (q:Pp):Prop where
 count:q.count<=k
 items:q.items.length<=2*k
 ok:∀x∈q.items,Word x.iat/\dP x.b/\x.b.length<=100000
 qF:q.qF.length<=1000000000
 word:∀f∈q.qF,Word f.delay
section
variable {w w':World} {S S':X4} {p:Nat} {q:Pp} {ts:X8}
theorem rH.mono (h:rH w S p q) (a:∀b,S b->S' b):rH w S' p q:=by
 obtain⟨c,e,d,f,n,g,i,j,k,l⟩:=h.ex;exact⟨⟨c,e,d,f,n,g,i.mono a,j.mono a,λo m=>aF (k o m) a,l⟩,a _ h.mem⟩
theorem rH.keep (h:rH w S p q) (a:bQ S ts w w') (f:some 218∈ts) (g:some 187∈ts) (i:some 222∈ts) (j:some 5∈ts):rH w' S p q:=by
 obtain⟨b,d,c,e,l,m,n,o,r,s⟩:=h.ex;exact⟨⟨b,d,c,e,l,m.keep a h.mem f,n.keep a g,o.keep a i,λt k=>aG (r t k) a j,s⟩,h.mem⟩
theorem rH.below (h:rH w S p q) (hb:bW w w'):rH w' S p q:=h.keep (ts:=[some 218,some 187,some 222,some 5]) (bQ.below hb) sM sM sM sM
end
theorem KQ (x:It) (l:List It) (m:Nat) (a:m<l.length) (h:x.iat<l[m].iat):WY x (l.take (m+1)).reverse (l.drop (m+1))=WY x (l.take m).reverse (l.drop m):=by
 rw[bB a,List.reverse_append,List.reverse_singleton,List.singleton_append,aR a]
 conv=>lhs;unfold WY
 rw[aB h]
theorem Ck (x:It) (l:List It) (k:Nat) (c:∀b,k<=b->∀d:b<l.length,x.iat<l[b].iat):∀a,k+a<=l.length->WY x (l.take (k+a)).reverse (l.drop (k+a))=WY x (l.take k).reverse (l.drop k)
 |0,_=>rfl
 |a+1,hm=>by
  rw[<-Nat.add_assoc,KQ x l (k+a) oM (c _ oM oM)];exact Ck x l k c a oM
theorem Qt (x:It) (l:List It) (k:Nat) (e:k<=l.length) (c:∀a,k<=a->∀b:a<l.length,x.iat<l[a].iat) (d:∀a,a+1=k->∀b:a<l.length,¬x.iat<l[a].iat):uD l x=l.take k++x::l.drop k:=by
 have h:=Ck x l k c (l.length -k) oM;rw[Nat.add_sub_cancel' e,dM,List.drop_length]at h;unfold uD;rw[h];cases k with
 |zero=>simp[WY]
 |succ a=>
  have b:a<l.length:=oM;have:=d a rfl b;rw[bB b,List.reverse_append,List.reverse_singleton,List.singleton_append];unfold WY;rw[Ww this];simp
theorem Ou {now:Int} {x:It} {t:List It} (h:x.iat<=now):iy now (x::t)=x.b::iy now t:=by simp[iy,h]
theorem QW {now:Int} {x:It} {t:List It} (h:¬x.iat<=now):iy now (x::t)=[]:=by unfold iy;rw[Ww h]
theorem Nj {now:Int} {x:It} {t:List It} (h:x.iat<=now):iH now (x::t)=iH now t:=by simp[iH,h]
theorem PE {now:Int} {x:It} {t:List It} (h:¬x.iat<=now):iH now (x::t)=x::t:=by unfold iH;rw[Ww h]
theorem wR {now:Int} {l:List It} {b:List Int} (h:b∈iy now l):∃a∈l,a.b=b:=by
 induction l with
 |nil=>unfold iy at h;cases h
 |cons a t ih=>
  unfold iy at h;split at h
  .rcases bT.1 h with h|h
   .exact⟨a,sM,h.symm⟩
   .obtain⟨e,d,c⟩:=ih h;exact⟨e,by simp[d],c⟩
  .cases h
theorem Nk {now:Int} {l:List It} {x:It} (h:x∈iH now l):x∈l:=by
 induction l with
 |nil=>exact h
 |cons y t ih=>
  unfold iH at h;split at h
  .exact jQ _ (ih h)
  .exact h
theorem pU (now:Int) (l:List It):(iy now l).length+(iH now l).length=l.length:=by
 induction l with
 |nil=>rfl
 |cons y t ih=>
  unfold iy iH;split
  .simp only[aY];omega
  .simp
theorem EI (x:It):∀(a b:List It),(WY x a b).length=a.length+b.length+1
 |[],b=>by unfold WY;simp
 |y::a,b=>by
  unfold WY;split
  .rw[EI x a];simp;omega
  .simp;omega
theorem vE (l:List It) (x:It):(uD l x).length=l.length+1:=by unfold uD;rw[EI];simp
theorem EH (x y:It):∀(a b:List It),y∈WY x a b->y=x\/y∈a\/y∈b
 |[],b,h=>by unfold WY at h;simpa using h
 |z::a,b,h=>by
  unfold WY at h;split at h
  .rcases EH x y a _ h with h|h|h
   .exact .inl h
   .exact .inr (.inl (by simp[h]))
   .rcases bT.1 h with h|h
    .exact .inr (.inl (by simp[h]))
    .exact .inr (.inr h)
  .simp only[List.reverse_cons,List.append_assoc,WB,List.mem_reverse,bT,List.not_mem_nil,or_false]at h
   rcases h with h|h|h|h
   .exact .inr (.inl (by simp[h]))
   .exact .inr (.inl (by simp[h]))
   .exact .inl h
   .exact .inr (.inr h)
theorem vD {l:List It} {x y:It} (h:y∈uD l x):y=x\/y∈l:=by
 rcases EH x y _ _ h with h|h|h
 .exact .inl h
 .exact .inr (by simpa using h)
 .cases h
theorem AU (x:Fa):(faV x).length=4:=rfl
theorem Sm:Elem prog 100 187 4 16 faV:=
 ⟨by kernel_rfl,by
  obtain⟨a,c,d,e,f⟩:=info_parts (show(prog.info? 187).map (λa=>(a.zero,a.size,a.bytes))=some (some (.agg #[bV false,bV false,bV false,uI 0]),4,16) by kernel_rfl);exact⟨a,_,c,d,e,f,rfl⟩,dC,λ_=>rfl,λi g b=>by simp[faV]at b;rcases b with rfl|rfl|rfl|rfl<;>rfl⟩
theorem Em (p:X4) (a:X5) (c:Nat) (b:List Fa) (w:World) (h:Row w p 187 4 a b.length (b.flatMap faV)) (y:b.length<=1000000000):
  Yk 80 #[.slice a b.length c] w λr e=>∃k,r=.returned ((pT k))/\rH e (λd=>w.heap.size<=d/\d<e.heap.size) k ⟨b,0,[]⟩/\bW w e:=by
 have m:=zH h;clear h;go_enter Tryz.func80,Tryz.ntmps80;go_wp2_with (at_builtin;refine Sm.wpList rfl _ (.tmp 3) rfl w.heap.size none 0 [] (by rfl) (iq _ _ _ _) a c b (by rfl) m.o sO dC (av _) ?_;intro l q x j g;have f:bW w x:=(aj w.heap.size w).grown g (av _) XI;have o:=zH j;have n:=zH f;clear j g f);refine mV ?_;have i:=o.o;rw[List.nil_append]at i;have t:=OwnAt.fresh i;have s:=n.o;have z:=s.size;refine⟨_,rfl,⟨⟨l,q,none,0,[],Wx _ _ _,?_,gW.WH,(λA v=>by cases v),rfl⟩,?_⟩,?_⟩
 .refine(aD t.row ?_).mono (λd u=>⟨u.1,by simp;omega⟩)
  exact BEL
 .simp;omega
 .exact BEL
end Go.Proofs.YtiflndepmgnojaaGreat
