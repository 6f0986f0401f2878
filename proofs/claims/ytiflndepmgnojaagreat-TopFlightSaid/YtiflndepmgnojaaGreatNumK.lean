import Derived.Deep.Cut
import Derived.Deep.DeepCutAuto
import Derived.Test.YtiflndepmgnojaaGreatFol
namespace Go.Proofs.YtiflndepmgnojaaGreat
open Go.RowKit Tryz
set_option linter.unusedSimpArgs false
set_option linter.unusedVariables false
set_option maxHeartbeats 8000000
set_option maxRecDepth 100000
variable {y z:Int}
theorem Ol {a lo d:Int} (e:Word a) (b:Word lo) (c:Word d):Word (xX a lo d):=by
 unfold xX;split
 .exact⟨dC,dC⟩
 .obtain⟨g,i,j,f⟩:=Ju e.1 b.1 b.2 c.1
  exact⟨Int.ediv_nonneg oM oM,Int.ediv_lt_of_lt_mul oM oM⟩
theorem vO (c lo:Int):∀(a:Nat) (b:Int),a<=43->0<=b->0<=pR c lo a b/\pR c lo a b<=b+2^a
 |0,b,_,h=>by unfold pR;exact⟨h,by simp;omega⟩
 |a+1,b,hk,h=>by
  unfold pR;have f:(0:Int)<2^a:=Int.pow_pos dC;(have e:(2:Int)^(a+1)=2^a+2^a:=by rw[Int.pow_succ];omega);rw[e];by_cases d:nP (b+2^a) c lo=true
  .rw[aB d]
   have:=vO c lo a (b+2^a) oM oM;omega
  .rw[Ww d]
   have:=vO c lo a b oM oM;omega
theorem Lm (a lo:Int):Word (vN a lo):=by
 have h:=vO a lo 43 0 oM oM;unfold vN;generalize pR a lo 43 0=b at*
 exact⟨h.1,oM⟩
theorem JP (a cr b:Int):Word (sj a cr b):=by
 unfold sj;split
 .exact⟨dC,dC⟩
 .exact Lm _ _
theorem Qm (b cr a:Int) (o:Word b) (p:Word cr) (g:Word a) (w:World):
  Yk 240 #[uI b,uI cr,uI a] w λc m=>c=.returned (uI (sj b cr a))/\∃k,m=w.drewN k:=by
 obtain⟨N,O,I,J,z,M⟩:=MP o.1 o.2 p.1 p.2 g.1 g.2;by_cases n:b<=cr
 .have c:sj b cr a=0:=by unfold sj;rw[aB (Or.inl n)]
  rw[c];clear c;go_enter Tryz.func240,Tryz.ntmps240;go_wp2;go_ret;exact⟨rfl,0,rfl⟩
 .have B:decide (b<=cr)=false:=sO
  by_cases f:a=0
  .have c:sj b cr a=0:=by unfold sj;rw[aB (Or.inr f)]
   rw[c];clear c;subst f;go_enter Tryz.func240,Tryz.ntmps240;go_wp2;go_ret;exact⟨rfl,0,rfl⟩
  .have H:(a==0)=false:=by simp[f]
   have q:Word (b -cr):=⟨oM,oM⟩;have r:Word 2500000000000000000:=⟨dC,dC⟩;have s:=zH (uW (b -cr) 2500000000000000000 q r);obtain⟨d,j⟩:=zJ q r;(have c:sj b cr a=vN ((b -cr)*2500000000000000000/18446744073709551616/a) (xX ((b -cr)*2500000000000000000/18446744073709551616%a) ((b -cr)*2500000000000000000%18446744073709551616) a):=by unfold sj;rw[Ww oM]);rw[c];have v:((b -cr)*2500000000000000000/18446744073709551616).tmod a=(b -cr)*2500000000000000000/18446744073709551616%a:=Int.tmod_eq_emod_of_nonneg d.1;have x:((b -cr)*2500000000000000000/18446744073709551616).tdiv a=(b -cr)*2500000000000000000/18446744073709551616/a:=Int.tdiv_eq_ediv_of_nonneg d.1;generalize(b -cr)*2500000000000000000/18446744073709551616=e at*
   generalize(b -cr)*2500000000000000000%18446744073709551616=y at*
   have A:0<a:=oM;have i:Word (e%a):=⟨iQ _ oM,by have:=iN e A;omega⟩;have l:Word (e/a):=⟨Int.ediv_nonneg d.1 z,by have:=Int.ediv_le_self a d.1;have:=d.2;omega⟩;have K:=d.1;have L:=d.2;obtain⟨t,u⟩:=yx (GK (e%a) y a i j g) (QU (e/a) _ l (Ol i j g));obtain⟨D,E,F,G⟩:=Ju l.1 l.2 i.1 i.2;have C:cr<=b:=oM;clear c n f v x d j;go_enter Tryz.func240,Tryz.ntmps240;go_wp2_with fail;refine Yd (s.o _) ?_;intro m rfl;go_wp2_with fail;refine Yd (t.o _) ?_;rintro m ⟨k,rfl⟩;go_wp2_with fail;refine Yg (u.o _) ?_;go_wp2;go_ret;exact⟨rfl,k,rfl⟩
theorem at_any (d k t b:Int) (r:Word d) (s:Word k) (u:Word t) (v:Word b) (w:World):
  Yk 241 #[uI d,uI k,uI t,uI b] w λE a=>E=.returned (uI (JQ d k t b))/\∃F,a=w.drewN F:=by
 have e:Word 1000000:=⟨dC,dC⟩;have c:=uK u s;have z:=gK c c e;have A:=gK z c e;have y:=kN sF v;have x:Word 5000000:=⟨dC,dC⟩;have B:=gK A y x;obtain⟨l,m,n,o,p,C⟩:=Fy (JK t k u s) (lS _ _ _ c c e) (lS _ _ _ z c e) (lS _ _ _ A y x) (wH 2 b sF v) (nY d _ r B);have D:=zH (AP d _ r B);have q:cuZ k t b=jv (jv (jv (ou t k) (ou t k) 1000000) (ou t k) 1000000) (wW 2 b) 5000000:=rfl;unfold JQ;rw[q];clear q;generalize jv (jv (jv (ou t k) (ou t k) 1000000) (ou t k) 1000000) (wW 2 b) 5000000=L at*
 generalize jv (jv (ou t k) (ou t k) 1000000) (ou t k) 1000000=K at*
 generalize jv (ou t k) (ou t k) 1000000=J at*
 generalize ou t k=H at*
 generalize wW 2 b=I at*
 by_cases f:k<=t
 .rw[aB f]
  go_enter Tryz.func241,Tryz.ntmps241;go_wp2_with fail;refine Yd (l.o _) ?_;intro a rfl;go_wp2_with fail;refine Yd (m.o _) ?_;rintro a ⟨g,rfl⟩;go_wp2_with fail;refine Yd (n.o _) ?_;rintro a ⟨i,rfl⟩;go_wp2_with fail;refine Yd (p.o _) ?_;intro a rfl;go_wp2_with fail;refine Yd (o.o _) ?_;rintro a ⟨j,rfl⟩;go_wp2_with fail;refine Yd (C.o _) ?_;intro a rfl;go_wp2;go_ret;exact⟨rfl,g+i+j,rfl⟩
 .rw[Ww f]
  have G:decide (k<=t)=false:=sO;clear f;go_enter Tryz.func241,Tryz.ntmps241;go_wp2_with fail;refine Yd (l.o _) ?_;intro a rfl;go_wp2_with fail;refine Yd (m.o _) ?_;rintro a ⟨g,rfl⟩;go_wp2_with fail;refine Yd (n.o _) ?_;rintro a ⟨i,rfl⟩;go_wp2_with fail;refine Yd (p.o _) ?_;intro a rfl;go_wp2_with fail;refine Yd (o.o _) ?_;rintro a ⟨j,rfl⟩;go_wp2_with fail;refine Yg (D.o _) ?_;go_wp2;go_ret;exact⟨rfl,g+i+j,rfl⟩
theorem Oo (x:Wi) (b a:Int) (t:oz x) (r:Word b) (s:Word a) (w:World):
  Yk 202 #[.agg #[uI x.cr,uI x.dL,uI x.acc,uI x.jF,uI x.gX,uI x.k,uI x.fair],uI b,uI a] w λk d=>k=.returned (.agg #[uI (rD x b a).cr,uI (rD x b a).dL,uI (rD x b a).acc,uI (rD x b a).jF,uI (rD x b a).gX,uI (rD x b a).k,uI (rD x b a).fair])/\bW w d:=by
 obtain⟨c,z,v,i,B,C,A⟩:=x;obtain⟨f,l,m,n,o,p,q⟩:=t;simp only at f l m n o p q;obtain⟨g,j⟩:=yx (lS c b a f r s) (lS c 17 20 f ⟨dC,dC⟩ ⟨dC,dC⟩);unfold rD;by_cases e:c<i
 .simp only[aB e]
  go_enter Tryz.func202,Tryz.ntmps202;go_wp2_with fail;refine Yd (j.o _) ?_;rintro d ⟨D,rfl⟩;go_wp2_with fail;refine Yd (g.o _) ?_;rintro d ⟨u,rfl⟩;go_wp2;refine mZ ?_;exact⟨rfl,BEL⟩
 .simp only[Ww e]
  have y:decide (c<i)=false:=sO;clear e;go_enter Tryz.func202,Tryz.ntmps202;go_wp2_with fail;refine Yd (g.o _) ?_;rintro d ⟨u,rfl⟩;go_wp2;refine mZ ?_;exact⟨rfl,BEL⟩
theorem Fg {f k t b:Int} (c:Word f) (g:Word k) (i:Word t) (j:Word b):Word (JQ f k t b):=by
 have d:Word 1000000:=⟨dC,dC⟩;have a:=uK i g;have e:Word (cuZ k t b):=gK (gK (gK a a d) a d) (kN sF j) ⟨dC,dC⟩;unfold JQ;split
 .exact fB c e
 .exact nC c e
theorem CR {x:Wi} {a now bK:Int} (h:oz x) (b:Word a) (c:Word now) (d:Word bK):Word (Fh x a now bK)/\x.cr<=Fh x a now bK:=by
 unfold Fh;refine⟨kX (qo (Fg h.jF h.k (fB (nC c h.gX) d) b) (gK h.cr ⟨dC,dC⟩ ⟨dC,dC⟩)) h.cr,oM⟩
theorem AF {x:Wi} (h:oz x) (b:Word z) (a:Word y):Word (vP x y z):=by
 have:=gK b a h.cr;unfold vP;split
 .exact gK this ⟨dC,dC⟩ ⟨dC,dC⟩
 .exact this
theorem CQ {x:Wi} {b now:Int} (h:oz x) (a:Word now):oz (uL x b now):=by
 unfold uL;split
 .exact⟨h.cr,h.dL,h.acc,kX h.jF h.cr,a,JP _ _ _,h.cr⟩
 .exact h
theorem Lj (x:Wi) (e c now bK:Int) (T:oz x) (v:Word e) (s:Word c) (J:Word now) (S:Word bK) (w:World):
  Yk 193 #[.agg #[uI x.cr,uI x.dL,uI x.acc,uI x.jF,uI x.gX,uI x.k,uI x.fair],uI e,uI c,uI now,uI bK] w λH o=>H=.returned (.agg #[uI (mM x e c now bK).cr,uI (mM x e c now bK).dL,uI (mM x e c now bK).acc,uI (mM x e c now bK).jF,uI (mM x e c now bK).gX,uI (mM x e c now bK).k,uI (mM x e c now bK).fair])/\bW w o:=by
 by_cases G:x.cr<x.dL
 .have c6:=zH (Ic x e c T v s)
  (have m:mM x e c now bK=qz x e c:=by unfold mM;rw[aB G]);rw[m];obtain⟨a,k,l,K,A,b8,b2⟩:=x;simp only at G;clear m;go_enter Tryz.func193,Tryz.ntmps193;go_wp2_with fail;refine Yd (c6.o _) ?_;intro f1 Q;have u:=(Wx (w.alloc _) _ _).below Q sM;have B:bW w f1:=((aj w.heap.size w).alloc (av _) _|>.alloc sM _).trans (Q.mono sO);rw[CY]at u;obtain⟨d9,i6,e0,i7,e1,i8,e2,i9,e3,j0,e4,j1,e5,j2⟩:=u.c7;have c4:=zH B;clear Q u B;go_wp2;refine mZ ?_;have B:=c4.o;exact⟨rfl,BEL⟩
 .have m:mM x e c now bK=xZ (uL x c now) e c now bK:=by unfold mM;rw[Ww G]
  rw[m];clear m;obtain⟨a,k,l,K,A,b8,b2⟩:=x;simp only at G;(obtain⟨f,g,j,i,n⟩:∃f g j i,uL ⟨a,k,l,K,A,b8,b2⟩ c now=⟨a,k,l,f,g,j,i⟩:=by unfold uL;split<;>exact⟨_,_,_,_,rfl⟩);(have t:oz ⟨a,k,l,f,g,j,i⟩:=by rw[<-n];exact CQ T J);rw[n];obtain⟨a6,u⟩:=eX (xZ ⟨a,k,l,f,g,j,i⟩ e c now bK);rw[<-u];have a3:=zH u;clear u;obtain⟨O,b3,b4,P,b5,b6,b7⟩:=T;simp only at O b3 b4 P b5 b6 b7;have h8:decide (a<k)=false:=sO;obtain⟨a5,a4,c7,f2⟩:=Bq (Qm K a c P O s) n t (And.intro O P);clear n t b3 b4 b5 b6 b7;go_enter Tryz.func193,Tryz.ntmps193;go_upto_if 25 with fail;go_cut [] (λwx=>X3 (Blk wx w.heap.size 128 #[uI a,uI k,uI l,uI f,uI g,uI j,uI i])/\X3 (Blk wx (w.heap.size+1) 128 #[uI 0,uI 0,uI 0,uI 0,uI 0,uI 0,uI 0])/\X3 (bW w wx));case first=>
   have n:=a4.o;unfold uL at n;by_cases y:A=18446744073709551615
   .rw[aB y]at n
    injection n with X Y Z C D E F;clear X Y Z;(try clear n);(have d6:(A==18446744073709551615)=true:=by simp[y]);have q:=zH (And.intro C (And.intro D (And.intro E F)));clear C D E F y;go_wp2_with fail;go_region_held3 (λo=>o.cell? ⟨w.heap.size,0,none⟩=some (uI a)/\o.cell? ⟨w.heap.size,3,none⟩=some (uI K)) (first|simp[go_sem, *]) (first|(go_at_call 240;refine(a5.o _).mono ?_;rintro H o ⟨rfl,i5,rfl⟩));go_wp2;go_meet;rw[<-q.o.1,<-q.o.2.1,<-q.o.2.2.1,<-q.o.2.2.2];exact⟨BLKA rfl,BLKA rfl,BEL⟩
   .rw[Ww y]at n
    injection n with X Y Z C D E F;clear X Y Z;(try clear n);(have d6:(A==18446744073709551615)=false:=by simp[y]);have q:=zH (And.intro C (And.intro D (And.intro E F)));clear C D E F y;go_wp2;go_meet;rw[<-q.o.1,<-q.o.2.1,<-q.o.2.2.1,<-q.o.2.2.2];exact⟨BLKA rfl,BLKA rfl,BEL⟩
  case rest=>
   obtain⟨a8,a9,b0⟩:=hcut;obtain⟨a0,a1,a2⟩:=Hl a8 a9 b0;clear a8 a9 b0 a5 a4;obtain⟨f5,g3,f6,g4,f7,g5,f8,g6,f9,g7,g0,g8,g1,g9⟩:=a0.o.c7;obtain⟨d9,h0,e0,h1,e1,h2,e2,h3,e3,h4,e4,h5,e5,h6⟩:=a1.o.c7;obtain⟨h9,i0,t⟩:=Hl a0.o.lt a1.o.lt c7.o;obtain⟨r,e9,f0,U,V,W,c3⟩:=id t;simp only at r e9 f0 U V W c3;by_cases z:a=0
   .have m:a6=⟨a,k,l,f,g,j,i⟩:=by rw[a3.o];unfold xZ;simp only;rw[aB z]
    have L:=zH m;(have d8:(a==0)=true:=by simp[z]);clear m z t;go_wp2;refine mZ ?_;have B:=a2.o;rw[L.o];exact⟨rfl,BEL⟩
   .have d8:(a==0)=false:=by simp[z]
    obtain⟨M,a7⟩:=CR t s J S;have R:=AF t s v;simp only at a7;have c0:=nC J V;have c1:=fB c0 S;have e6:=Fg U W c1 s;have e7:=gK s v r;have e8:=gK r (b:=3) (d:=2) ⟨dC,dC⟩ ⟨dC,dC⟩;(have m:a6=⟨max (WI a (jv (Fh ⟨a,k,l,f,g,j,i⟩ c now bK -a) e a)) (WI i (vP ⟨a,k,l,f,g,j,i⟩ e c)),k,l,f,g,j,WI i (vP ⟨a,k,l,f,g,j,i⟩ e c)⟩:=by rw[a3.o];unfold xZ;simp only;rw[Ww z]);obtain⟨b9,p⟩:∃b9,vP ⟨a,k,l,f,g,j,i⟩ e c=b9:=⟨_,rfl⟩;have b1:Fh ⟨a,k,l,f,g,j,i⟩ c now bK=max (min (JQ f j (WI (WU now g) bK) c) (jv a 3 2)) a:=rfl;rw[p]at R m;rw[b1]at M a7 m;have c5:=zH p;clear p b1;have f4:=M.2;have g2:=r.1;have N:Word (max (min (JQ f j (WI (WU now g) bK) c) (jv a 3 2)) a -a):=⟨oM,oM⟩;have c2:=gK N v r;obtain⟨d5,d0,d1,d2,d3,c8⟩:=Fy (sI now g J V) (lT _ bK c0 S) (at_any f j _ c U W c1 s) (lS a 3 2 r ⟨dC,dC⟩ ⟨dC,dC⟩) (lS _ e a N v r) (nY a _ r c2);obtain⟨d4,c9⟩:=yx (lS c e a s v r) (nY i _ c3 R);clear e6 e8 c2 N M R;generalize JQ f j (WI (WU now g) bK) c=f3 at*
    generalize WI (WU now g) bK=j4 at*
    generalize WU now g=j3 at*
    generalize jv a 3 2=h7 at*
    have L:=zH m;clear z m;clear t;go_wp2;refine bN kR kR ?_;(repeat (quiet_step ((first|(go_at_call 122;exact aJ ((d5.o _).mono λH o h=>⟨h.1,h.2.symm⟩))|(go_at_call 83;exact aJ ((d0.o _).mono λH o h=>⟨h.1,h.2.symm⟩))|(go_at_call 241;exact dn (d1.o _))))));refine aK ?_;rintro _ ⟨nq,rfl⟩;go_wp2_with fail;refine Yd (d2.o _) ?_;rintro o ⟨i1,rfl⟩;go_wp2_with fail;refine Yd (d3.o _) ?_;rintro o ⟨i2,rfl⟩;go_wp2_with fail;refine Yd (c8.o _) ?_;intro o rfl;go_wp2_with fail;refine Yd (d4.o _) ?_;rintro o ⟨i3,rfl⟩;have p:=c5.o;unfold vP at p;simp only at p;by_cases I:i<f
    case' pos=>
     have d7:decide (i<f)=true:=sO;rw[aB I]at p;subst p;clear I;go_wp2_with fail;refine Yd (lS _ 9 17 e7 ⟨dC,dC⟩ ⟨dC,dC⟩ _) ?_;rintro o ⟨i4,rfl⟩
    case' neg=>
     have d7:decide (i<f)=false:=sO;rw[Ww I]at p;subst p;clear I
    all_goals
     go_wp2_with fail;refine Yg (c9.o _) ?_;go_wp2;refine mZ ?_;have B:=a2.o;rw[L.o];exact⟨rfl,BEL⟩
structure lV (c:Cf):Prop where
 bits0:1<=c.bits
 bits1:c.bits<=64
 one:Word c.one
 one1:(c.one==1)=false
 wZ:4<=c.ring
 lW:c.ring<=256
 limit0:0<=c.dO
 mh:c.dO<=4611686018427387903
 Af:1<=c.room
 qC:c.room<=65536
 Gj:1<=c.mss
 Ca:c.mss<=1500
 zM:2*c.mss<=c.bn
 Mg:c.bn<=c.jD
 Mf:c.jD<=c.most
 most:c.most<=1073741824
 pX:c.pX=1\/c.pX=2
 KY:1<=c.first
 Xv:c.first<=1099511627776
 KW:1<=c.jc
 QG:c.jc<=1099511627776
 cap0:c.jc<=c.cap
 cap1:c.cap<=1099511627776
 Rh:c.mss<=c.gD
 Rf:c.gD<=1073741824
 Ie:1<=c.WL
 BA:c.WL<=4294967296
 chal0:0<=c.bE
 chal1:c.bE<=64
 QM:1<=c.every
 XB:c.every<=1099511627776
theorem GZ (c:Cf) (h:lV c) (w:World):
  Yk 177 #[.agg (cfV c)] w λI M=>I=.returned (jI 0)/\bW w M:=by
 obtain⟨N,P,R,O,S,m,l,a,d,Q,first,b,i,k,e,f,j⟩:=c;obtain⟨_,_,_,_,_,_,_,_,_,_,n,o,p,q,r,s,g,t,A,B,C,D,E,F,G,H,u,v,x,y,z⟩:=h;simp only at n o p q r s g t A B C D E F G H u v x y z;have J:((decide (l<a))=false/\decide (d<l)=false/\decide (a<2*m)=false/\decide (d<a)=false/\decide (1073741824<d)=false/\decide (first<1)=false/\decide (1099511627776<first)=false):=sO;have K:((decide (b<1))=false/\decide (1099511627776<b)=false/\decide (i<b)=false/\decide (1099511627776<i)=false/\decide (k<m)=false/\decide (1073741824<k)=false):=sO;have L:((decide (e<1))=false/\decide (4294967296<e)=false/\decide (f<0)=false/\decide (64<f)=false/\decide (j<1)=false/\decide (1099511627776<j)=false):=sO;obtain⟨T,U,V,W,X,Y,Z⟩:=J;obtain⟨a0,a1,a2,a3,a4,a5⟩:=K;obtain⟨a6,a7,a8,a9,b0,b1⟩:=L;rcases g with rfl|rfl
 .go_enter Tryz.func177,Tryz.ntmps177
  go_wp2;go_ret;exact⟨rfl,BEL⟩
 .go_enter Tryz.func177,Tryz.ntmps177
  go_wp2;go_ret;exact⟨rfl,BEL⟩
theorem OA (c:Cf) (h:lV c) (w:World):
  Yk 105 #[.agg (cfV c)] w λy A=>y=.returned (jI 0)/\bW w A:=by
 have j:=zH (GZ c h);obtain⟨b,L,f,x,g,e,I,E,K,M,first,J,F,H,C,D,G⟩:=c;obtain⟨k,o,p,q,r,s,t,u,v,l,m,n,_⟩:=h;simp only at k o p q r s t u v l m n;have z:((decide (b<1))=false/\decide (64<b)=false/\decide (f<4)=false/\decide (256<f)=false/\decide (4611686018427387903<x)=false/\decide (g<1)=false/\decide (65536<g)=false/\decide (e<1)=false/\decide (1500<e)=false):=sO;obtain⟨N,O,P,Q,R,S,T,U,V⟩:=z;go_enter Tryz.func105,Tryz.ntmps105;go_wp2_with fail;refine Yd (j.o _) ?_;intro B d;have a:bW w B:=by
  refine bD ?_ (d.mono ?_)
  .exact BEL
  .first|(simp;done)|(simp;omega)
 have i:=zH a;clear d a;go_wp2;go_ret;have a:=i.o;exact⟨rfl,BEL⟩
theorem yO (c:Cf) (h:lV c) (w:World):
  Yk 42 #[.agg (cfV c)] w λe f=>e=.returned (bV true)/\bW w f:=by
 have d:=zH (OA c h);go_enter Tryz.func42,Tryz.ntmps42;go_wp2_with fail;refine Yd (d.o _) ?_;intro g a;have b:=zH a;clear a;go_wp2;go_ret;exact⟨rfl,JZ b.o⟩
structure Xf (s:Cc):Prop where
 win:oz s.win
 qx:Word s.round.iO
 mX:Word s.round.mX
theorem JW (c:Cf) (h:lV c) (w:World):
  Yk 47 #[.agg (cfV c)] w λp S=>p=.returned (.agg (AX (mF c)))/\bW w S:=by
 have i:=zH (yO c h);obtain⟨l,O,Q,o,R,N,K,m,M,P,first,L,n,r,j,k,q⟩:=c;clear h;go_enter Tryz.func47,Tryz.ntmps47;go_wp2_with fail;refine Yd (i.o _) ?_;intro a b;have f:bW w a:=by
  refine bD ?_ (b.mono ?_)
  .exact BEL
  .first|(simp;done)|(simp;omega)
 have d:Blk a (w.heap.size) 32 (cfV ((⟨l,O,Q,o,R,N,K,m,M,P,first,L,n,r,j,k,q⟩:Cf))):=iK b;have e:Blk a (w.heap.size+1) 132 Yh:=iK b;obtain⟨s,V,t,W,C,a4,D,a5,E,a6,F,a7,G,a8,H,a9,I,b0,J,b1,u,X,v,Y,x,Z,y,a0,z,a1,A,a2,B,a3⟩:=d.c17;have b2:w.heap.size<a.heap.size:=d.lt;have T:=zH d;clear d;obtain⟨b3,c2,b4,c3,b5,c4,b6,c5,b7,c6,b8,c7,b9,c8,c0,c9,c1,d0⟩:=e.c9;have d1:w.heap.size+1<a.heap.size:=e.lt;have U:=zH e;clear e;have g:=zH f;clear b f;simp only at s t C D E F G H I J u v x y z A B;go_wp2;refine mZ ?_;have f:=g.o;exact⟨rfl,BEL⟩
end Go.Proofs.YtiflndepmgnojaaGreat
