import Derived.Deep.Cut
import Derived.Deep.DeepCutAuto
import Derived.Test.YtiflndepmgnojaaGreatNumU
import Derived.Test.YtiflndepmgnojaaGreatNumP
namespace Go.Proofs.YtiflndepmgnojaaGreat
open Go.RowKit
set_option linter.unusedSimpArgs false
set_option linter.unusedVariables false
set_option maxHeartbeats 8000000
set_option maxRecDepth 100000
theorem Ol {a lo d:Int} (e:Word a) (b:Word lo) (c:Word d):Word (xX a lo d):=by
 unfold xX;split
 ·exact⟨dC,dC⟩
 ·have g:=e.1;have i:=b.1;have j:=b.2;have f:=c.1
  exact⟨Int.ediv_nonneg oM oM,Int.ediv_lt_of_lt_mul oM oM⟩
theorem vO (c lo:Int):∀(a:Nat) (b:Int),a<=43->0<=b->0<=pR c lo a b/\pR c lo a b<=b+2^a
 |0,b,_,h=>by unfold pR;exact⟨h,by simp;omega⟩
 |a+1,b,hk,h=>by
  unfold pR;have f:(0:Int)<2^a:=Int.pow_pos dC;(have e:(2:Int)^(a+1)=2^a+2^a:=by rw[Int.pow_succ];omega);rw[e];by_cases d:nP (b+2^a) c lo=true
  ·rw[aB d]
   have:=vO c lo a (b+2^a) oM oM;omega
  ·rw[Ww d]
   have:=vO c lo a b oM oM;omega
theorem Lm (a lo:Int):Word (vN a lo):=by
 have h:=vO a lo 43 0 oM oM;unfold vN;generalize pR a lo 43 0=b at*
 exact⟨h.1,oM⟩
theorem JP (a cr b:Int):Word (sj a cr b):=by
 unfold sj;split
 ·exact⟨dC,dC⟩
 ·exact Lm _ _
theorem Qm (b cr a:Int) (o:Word b) (p:Word cr) (g:Word a) (w:World):
  Calls Tryz.prog 240 #[uI b,uI cr,uI a] w λc j=>c=.returned (uI (sj b cr a))/\∃l,j=w.drewN l:=by
 have N:=o.1;have O:=o.2;have I:=p.1;have J:=p.2;have z:=g.1;have M:=g.2;by_cases n:b<=cr
 ·have c:sj b cr a=0:=by unfold sj;rw[aB (Or.inl n)]
  rw[c];clear c;go_enter Tryz.func240,Tryz.ntmps240;go_wp2_with fail;go_ret;exact⟨rfl,0,rfl⟩
 ·have B:decide (b<=cr)=false:=by simp;omega
  by_cases f:a=0
  ·have c:sj b cr a=0:=by unfold sj;rw[aB (Or.inr f)]
   rw[c];clear c;subst f;go_enter Tryz.func240,Tryz.ntmps240;go_wp2_with fail;go_ret;exact⟨rfl,0,rfl⟩
  ·have H:(a==0)=false:=by simp[f]
   have q:Word (b -cr):=⟨oM,oM⟩;have r:Word 2500000000000000000:=⟨dC,dC⟩;have s:=zH (uW (b -cr) 2500000000000000000 q r);obtain⟨d,k⟩:=zJ q r;(have c:sj b cr a=vN ((b -cr)*2500000000000000000/18446744073709551616/a) (xX ((b -cr)*2500000000000000000/18446744073709551616%a) ((b -cr)*2500000000000000000%18446744073709551616) a):=by unfold sj;rw[Ww oM]);rw[c];have v:((b -cr)*2500000000000000000/18446744073709551616).tmod a=(b -cr)*2500000000000000000/18446744073709551616%a:=Int.tmod_eq_emod_of_nonneg d.1;have x:((b -cr)*2500000000000000000/18446744073709551616).tdiv a=(b -cr)*2500000000000000000/18446744073709551616/a:=Int.tdiv_eq_ediv_of_nonneg d.1;generalize(b -cr)*2500000000000000000/18446744073709551616=e at*
   generalize(b -cr)*2500000000000000000%18446744073709551616=y at*
   have A:0<a:=oM;have i:Word (e%a):=⟨iQ _ oM,by have:=iN e A;omega⟩;have m:Word (e/a):=⟨Int.ediv_nonneg d.1 z,by have:=Int.ediv_le_self a d.1;have:=d.2;omega⟩;have K:=d.1;have L:=d.2;have t:=zH (GK (e%a) y a i k g);have u:=zH (QU (e/a) _ m (Ol i k g));have D:=m.1;have E:=m.2;have F:=i.1;have G:=i.2;have C:cr<=b:=oM;clear c n f v x d k;go_enter Tryz.func240,Tryz.ntmps240;go_wp2_with fail;refine(s.out _).mono ?_;rintro c j ⟨rfl,rfl⟩;go_wp2_with fail;refine(t.out _).mono ?_;rintro c j ⟨rfl,l,rfl⟩;go_wp2_with fail;refine(u.out _).mono ?_;rintro c j ⟨rfl,rfl⟩;go_wp2_with fail;go_ret;exact⟨rfl,l,rfl⟩
theorem at_any (e k t c:Int) (s:Word e) (u:Word k) (v:Word t) (x:Word c) (w:World):
  Calls Tryz.prog 241 #[uI e,uI k,uI t,uI c] w λa b=>a=.returned (uI (JQ e k t c))/\∃F,b=w.drewN F:=by
 have f:Word 1000000:=⟨dC,dC⟩;have d:=uK v u;have A:=gK d d f;have B:=gK A d f;have z:=kN sF x;have y:Word 5000000:=⟨dC,dC⟩;have C:=gK B z y;have m:=zH (JK t k v u);have n:=zH (lS _ _ _ d d f);have o:=zH (lS _ _ _ A d f);have p:=zH (lS _ _ _ B z y);have q:=zH (wH 2 c sF x);have D:=zH (nY e _ s C);have E:=zH (AP e _ s C);have r:cuZ k t c=jv (jv (jv (ou t k) (ou t k) 1000000) (ou t k) 1000000) (wW 2 c) 5000000:=rfl;unfold JQ;rw[r];clear r;generalize jv (jv (jv (ou t k) (ou t k) 1000000) (ou t k) 1000000) (wW 2 c) 5000000=L at*
 generalize jv (jv (ou t k) (ou t k) 1000000) (ou t k) 1000000=K at*
 generalize jv (ou t k) (ou t k) 1000000=J at*
 generalize ou t k=H at*
 generalize wW 2 c=I at*
 by_cases g:k<=t
 ·rw[aB g]
  go_enter Tryz.func241,Tryz.ntmps241;go_wp2_with fail;refine(m.out _).mono ?_;rintro a b ⟨rfl,rfl⟩;go_wp2_with fail;refine(n.out _).mono ?_;rintro a b ⟨rfl,i,rfl⟩;go_wp2_with fail;refine(o.out _).mono ?_;rintro a b ⟨rfl,j,rfl⟩;go_wp2_with fail;refine(q.out _).mono ?_;rintro a b ⟨rfl,rfl⟩;go_wp2_with fail;refine(p.out _).mono ?_;rintro a b ⟨rfl,l,rfl⟩;go_wp2_with fail;refine(D.out _).mono ?_;rintro a b ⟨rfl,rfl⟩;go_wp2_with fail;go_ret;exact⟨rfl,i+j+l,rfl⟩
 ·rw[Ww g]
  (have G:decide (k<=t)=false:=by simp;omega);clear g;go_enter Tryz.func241,Tryz.ntmps241;go_wp2_with fail;refine(m.out _).mono ?_;rintro a b ⟨rfl,rfl⟩;go_wp2_with fail;refine(n.out _).mono ?_;rintro a b ⟨rfl,i,rfl⟩;go_wp2_with fail;refine(o.out _).mono ?_;rintro a b ⟨rfl,j,rfl⟩;go_wp2_with fail;refine(q.out _).mono ?_;rintro a b ⟨rfl,rfl⟩;go_wp2_with fail;refine(p.out _).mono ?_;rintro a b ⟨rfl,l,rfl⟩;go_wp2_with fail;refine(E.out _).mono ?_;rintro a b ⟨rfl,rfl⟩;go_wp2_with fail;go_ret;exact⟨rfl,i+j+l,rfl⟩
theorem Oo (x:Wi) (b a:Int) (t:oz x) (r:Word b) (s:Word a) (w:World):
  Calls Tryz.prog 202 #[.agg #[uI x.cr,uI x.dL,uI x.acc,uI x.jF,uI x.gX,uI x.k,uI x.fair],uI b,uI a] w λd e=>d=.returned (.agg #[uI (rD x b a).cr,uI (rD x b a).dL,uI (rD x b a).acc,uI (rD x b a).jF,uI (rD x b a).gX,uI (rD x b a).k,uI (rD x b a).fair])/\bW w e:=by
 obtain⟨c,z,v,j,B,C,A⟩:=x;obtain⟨g,l,m,n,o,p,q⟩:=t;simp only at g l m n o p q;have i:=zH (lS c b a g r s);have k:=zH (lS c 17 20 g ⟨dC,dC⟩ ⟨dC,dC⟩);unfold rD;by_cases f:c<j
 ·simp only[aB f]
  go_enter Tryz.func202,Tryz.ntmps202;go_wp2_with fail;refine(k.out _).mono ?_;rintro d e ⟨rfl,D,rfl⟩;go_wp2_with fail;refine(i.out _).mono ?_;rintro d e ⟨rfl,u,rfl⟩;go_wp2_with fail;refine mZ ?_;exact⟨rfl,BEL⟩
 ·simp only[Ww f]
  (have y:decide (c<j)=false:=by simp;omega);clear f;go_enter Tryz.func202,Tryz.ntmps202;go_wp2_with fail;refine(i.out _).mono ?_;rintro d e ⟨rfl,u,rfl⟩;go_wp2_with fail;refine mZ ?_;exact⟨rfl,BEL⟩
theorem Fg {f k t b:Int} (c:Word f) (g:Word k) (i:Word t) (j:Word b):Word (JQ f k t b):=by
 have d:Word 1000000:=⟨dC,dC⟩;have a:=uK i g;have e:Word (cuZ k t b):=gK (gK (gK a a d) a d) (kN sF j) ⟨dC,dC⟩;unfold JQ;split
 ·exact fB c e
 ·exact nC c e
theorem CR {x:Wi} {a now bK:Int} (h:oz x) (b:Word a) (c:Word now) (d:Word bK):Word (Fh x a now bK)/\x.cr<=Fh x a now bK:=by
 unfold Fh;refine⟨kX (qo (Fg h.jF h.k (fB (nC c h.gX) d) b) (gK h.cr ⟨dC,dC⟩ ⟨dC,dC⟩)) h.cr,oM⟩
theorem AF {x:Wi} {a b:Int} (h:oz x) (d:Word b) (c:Word a):Word (vP x a b):=by
 have:=gK d c h.cr;unfold vP;split
 ·exact gK this ⟨dC,dC⟩ ⟨dC,dC⟩
 ·exact this
theorem CQ {x:Wi} {b now:Int} (h:oz x) (a:Word now):oz (uL x b now):=by
 unfold uL;split
 ·exact⟨h.cr,h.dL,h.acc,kX h.jF h.cr,a,JP _ _ _,h.cr⟩
 ·exact h
theorem Lj (x:Wi) (e c now bK:Int) (T:oz x) (y:Word e) (t:Word c) (J:Word now) (S:Word bK) (w:World):
  Calls Tryz.prog 193 #[.agg #[uI x.cr,uI x.dL,uI x.acc,uI x.jF,uI x.gX,uI x.k,uI x.fair],uI e,uI c,uI now,uI bK] w λp n=>p=.returned (.agg #[uI (mM x e c now bK).cr,uI (mM x e c now bK).dL,uI (mM x e c now bK).acc,uI (mM x e c now bK).jF,uI (mM x e c now bK).gX,uI (mM x e c now bK).k,uI (mM x e c now bK).fair])/\bW w n:=by
 by_cases H:x.cr<x.dL
 ·have c6:=zH (Ic x e c T y t)
  (have m:mM x e c now bK=qz x e c:=by unfold mM;rw[aB H]);rw[m];obtain⟨a,k,l,K,B,b8,b2⟩:=x;simp only at H;clear m;go_enter Tryz.func193,Tryz.ntmps193;go_wp2_with fail;refine(c6.out _).mono ?_;rintro p f1 ⟨rfl,Q⟩;have v:=(Wx (w.alloc _) _ _).below Q sM;have C:bW w f1:=((aj w.heap.size w).alloc (av _) _|>.alloc sM _).trans (Q.mono sO);rw[CY]at v;obtain⟨d9,i6,e0,i7,e1,i8,e2,i9,e3,j0,e4,j1,e5,j2⟩:=v.c7;have c4:=zH C;clear Q v C;go_wp2_with fail;refine mZ ?_;have C:=c4.out;exact⟨rfl,BEL⟩
 ·have m:mM x e c now bK=xZ (uL x c now) e c now bK:=by unfold mM;rw[Ww H]
  rw[m];clear m;obtain⟨a,k,l,K,B,b8,b2⟩:=x;simp only at H;(obtain⟨f,g,j,i,o⟩:∃f g j i,uL ⟨a,k,l,K,B,b8,b2⟩ c now=⟨a,k,l,f,g,j,i⟩:=by unfold uL;split<;>exact⟨_,_,_,_,rfl⟩);(have u:oz ⟨a,k,l,f,g,j,i⟩:=by rw[<-o];exact CQ T J);rw[o];obtain⟨a6,v⟩:=eX (xZ ⟨a,k,l,f,g,j,i⟩ e c now bK);rw[<-v];have a3:=zH v;clear v;obtain⟨O,b3,b4,P,b5,b6,b7⟩:=T;simp only at O b3 b4 P b5 b6 b7;(have h8:decide (a<k)=false:=by simp;omega);have a5:=zH (Qm K a c P O t);have a4:=zH o;have c7:=zH u;have f2:=zH (And.intro O P);clear o u b3 b4 b5 b6 b7;go_enter Tryz.func193,Tryz.ntmps193;go_upto_if 25 with fail;go_cut [] (λwx=>Hid (Blk wx w.heap.size 128 #[uI a,uI k,uI l,uI f,uI g,uI j,uI i])/\Hid (Blk wx (w.heap.size+1) 128 #[uI 0,uI 0,uI 0,uI 0,uI 0,uI 0,uI 0])/\Hid (bW w wx));case first=>
   have o:=a4.out;unfold uL at o;by_cases z:B=18446744073709551615
   ·rw[aB z]at o
    injection o with X Y Z D E F G;clear X Y Z;(try clear o);(have d6:(B==18446744073709551615)=true:=by simp[z]);have r:=zH (And.intro D (And.intro E (And.intro F G)));clear D E F G z;go_wp2_with fail;go_region_held3 (λn=>n.cell? ⟨w.heap.size,0,none⟩=some (uI a)/\n.cell? ⟨w.heap.size,3,none⟩=some (uI K)) (first|simp[go_sem, *]) (first|(go_at_call 240;refine(a5.out _).mono ?_;rintro p n ⟨rfl,i5,rfl⟩));go_wp2_with fail;go_meet;rw[<-r.out.1,<-r.out.2.1,<-r.out.2.2.1,<-r.out.2.2.2];exact⟨BLKA rfl,BLKA rfl,BEL⟩
   ·rw[Ww z]at o
    injection o with X Y Z D E F G;clear X Y Z;(try clear o);(have d6:(B==18446744073709551615)=false:=by simp[z]);have r:=zH (And.intro D (And.intro E (And.intro F G)));clear D E F G z;go_wp2_with fail;go_meet;rw[<-r.out.1,<-r.out.2.1,<-r.out.2.2.1,<-r.out.2.2.2];exact⟨BLKA rfl,BLKA rfl,BEL⟩
  case rest=>
   obtain⟨a8,a9,b0⟩:=hcut;have a0:=a8;have a1:=a9;have a2:=b0;clear a8 a9 b0 a5 a4;obtain⟨f5,g3,f6,g4,f7,g5,f8,g6,f9,g7,g0,g8,g1,g9⟩:=a0.out.c7;obtain⟨d9,h0,e0,h1,e1,h2,e2,h3,e3,h4,e4,h5,e5,h6⟩:=a1.out.c7;have h9:=a0.out.lt;have i0:=a1.out.lt;have u:=c7.out;obtain⟨s,e9,f0,U,V,W,c3⟩:=id u;simp only at s e9 f0 U V W c3;by_cases A:a=0
   ·have m:a6=⟨a,k,l,f,g,j,i⟩:=by rw[a3.out];unfold xZ;simp only;rw[aB A]
    have L:=zH m;(have d8:(a==0)=true:=by simp[A]);clear m A u;go_wp2_with fail;refine mZ ?_;have C:=a2.out;rw[L.out];exact⟨rfl,BEL⟩
   ·have d8:(a==0)=false:=by simp[A]
    obtain⟨M,a7⟩:=CR u t J S;have R:=AF u t y;simp only at a7;have c0:=nC J V;have c1:=fB c0 S;have e6:=Fg U W c1 t;have e7:=gK t y s;have e8:=gK s (b:=3) (d:=2) ⟨dC,dC⟩ ⟨dC,dC⟩;(have m:a6=⟨max (WI a (jv (Fh ⟨a,k,l,f,g,j,i⟩ c now bK -a) e a)) (WI i (vP ⟨a,k,l,f,g,j,i⟩ e c)),k,l,f,g,j,WI i (vP ⟨a,k,l,f,g,j,i⟩ e c)⟩:=by rw[a3.out];unfold xZ;simp only;rw[Ww A]);obtain⟨b9,q⟩:∃b9,vP ⟨a,k,l,f,g,j,i⟩ e c=b9:=⟨_,rfl⟩;have b1:Fh ⟨a,k,l,f,g,j,i⟩ c now bK=max (min (JQ f j (WI (WU now g) bK) c) (jv a 3 2)) a:=rfl;rw[q]at R m;rw[b1]at M a7 m;have c5:=zH q;clear q b1;have f4:=M.2;have g2:=s.1;have N:Word (max (min (JQ f j (WI (WU now g) bK) c) (jv a 3 2)) a -a):=⟨oM,oM⟩;have c2:=gK N y s;have d5:=zH (sI now g J V);have d0:=zH (lT _ bK c0 S);have d1:=zH (at_any f j _ c U W c1 t);have d2:=zH (lS a 3 2 s ⟨dC,dC⟩ ⟨dC,dC⟩);have d3:=zH (lS _ e a N y s);have c8:=zH (nY a _ s c2);have d4:=zH (lS c e a t y s);have c9:=zH (nY i _ c3 R);clear e6 e8 c2 N M R;generalize JQ f j (WI (WU now g) bK) c=f3 at*
    generalize WI (WU now g) bK=j4 at*
    generalize WU now g=j3 at*
    generalize jv a 3 2=h7 at*
    have L:=zH m;clear A m;clear u;go_wp2_with fail;refine bN kR kR ?_;(repeat (quiet_step ((first|(go_at_call 122;exact aJ ((d5.out _).mono λp n h=>⟨h.1,h.2.symm⟩))|(go_at_call 83;exact aJ ((d0.out _).mono λp n h=>⟨h.1,h.2.symm⟩))|(go_at_call 241;exact dn (d1.out _))))));refine aK ?_;rintro _ ⟨nq,rfl⟩;go_wp2_with fail;refine(d2.out _).mono ?_;rintro p n ⟨rfl,i1,rfl⟩;go_wp2_with fail;refine(d3.out _).mono ?_;rintro p n ⟨rfl,i2,rfl⟩;go_wp2_with fail;refine(c8.out _).mono ?_;rintro p n ⟨rfl,rfl⟩;go_wp2_with fail;refine(d4.out _).mono ?_;rintro p n ⟨rfl,i3,rfl⟩;have q:=c5.out;unfold vP at q;simp only at q;by_cases I:i<f
    case' pos=>
     (have d7:decide (i<f)=true:=by simp;omega);rw[aB I]at q;subst q;clear I;go_wp2_with fail;refine(lS _ 9 17 e7 ⟨dC,dC⟩ ⟨dC,dC⟩ _).mono ?_;rintro p n ⟨rfl,i4,rfl⟩
    case' neg=>
     (have d7:decide (i<f)=false:=by simp;omega);rw[Ww I]at q;subst q;clear I
    all_goals
     go_wp2_with fail;refine(c9.out _).mono ?_;rintro p n ⟨rfl,rfl⟩;go_wp2_with fail;refine mZ ?_;have C:=a2.out;rw[L.out];exact⟨rfl,BEL⟩
structure lV (c:Cf):Prop where
 bits0:1<=c.bits
 bits1:c.bits<=64
 one:Word c.one
 one1:(c.one==1)=false
 wZ:4<=c.ring
 lW:c.ring<=256
 limit0:0<=c.dO
 mh:c.dO<=4611686018427387903
 Af:1<=c.room
 qC:c.room<=65536
 Gj:1<=c.mss
 Ca:c.mss<=1500
 zM:2*c.mss<=c.bn
 Mg:c.bn<=c.jD
 Mf:c.jD<=c.most
 most:c.most<=1073741824
 pX:c.pX=1\/c.pX=2
 KY:1<=c.first
 Xv:c.first<=1099511627776
 KW:1<=c.jc
 QG:c.jc<=1099511627776
 cap0:c.jc<=c.cap
 cap1:c.cap<=1099511627776
 Rh:c.mss<=c.gD
 Rf:c.gD<=1073741824
 Ie:1<=c.WL
 BA:c.WL<=4294967296
 chal0:0<=c.bE
 chal1:c.bE<=64
 QM:1<=c.every
 XB:c.every<=1099511627776
theorem GZ (c:Cf) (h:lV c) (w:World):
  Calls Tryz.prog 177 #[.agg (cfV c)] w λI M=>I=.returned (jI 0)/\bW w M:=by
 obtain⟨N,P,R,O,S,m,l,a,d,Q,first,b,i,k,e,f,j⟩:=c;obtain⟨_,_,_,_,_,_,_,_,_,_,n,o,p,q,r,s,g,t,A,B,C,D,E,F,G,H,u,v,x,y,z⟩:=h;simp only at n o p q r s g t A B C D E F G H u v x y z;(have J:((decide (l<a))=false/\decide (d<l)=false/\decide (a<2*m)=false/\decide (d<a)=false/\decide (1073741824<d)=false/\decide (first<1)=false/\decide (1099511627776<first)=false):=by simp;omega);(have K:((decide (b<1))=false/\decide (1099511627776<b)=false/\decide (i<b)=false/\decide (1099511627776<i)=false/\decide (k<m)=false/\decide (1073741824<k)=false):=by simp;omega);(have L:((decide (e<1))=false/\decide (4294967296<e)=false/\decide (f<0)=false/\decide (64<f)=false/\decide (j<1)=false/\decide (1099511627776<j)=false):=by simp;omega);obtain⟨T,U,V,W,X,Y,Z⟩:=J;obtain⟨a0,a1,a2,a3,a4,a5⟩:=K;obtain⟨a6,a7,a8,a9,b0,b1⟩:=L;rcases g with rfl|rfl
 ·go_enter Tryz.func177,Tryz.ntmps177
  go_wp2_with fail;go_ret;exact⟨rfl,BEL⟩
 ·go_enter Tryz.func177,Tryz.ntmps177
  go_wp2_with fail;go_ret;exact⟨rfl,BEL⟩
theorem OA (c:Cf) (h:lV c) (w:World):
  Calls Tryz.prog 105 #[.agg (cfV c)] w λd A=>d=.returned (jI 0)/\bW w A:=by
 have k:=zH (GZ c h);obtain⟨b,L,g,y,i,f,I,E,K,M,first,J,F,H,C,D,G⟩:=c;obtain⟨l,p,q,r,s,t,u,v,x,m,n,o,_⟩:=h;simp only at l p q r s t u v x m n o;(have z:((decide (b<1))=false/\decide (64<b)=false/\decide (g<4)=false/\decide (256<g)=false/\decide (4611686018427387903<y)=false/\decide (i<1)=false/\decide (65536<i)=false/\decide (f<1)=false/\decide (1500<f)=false):=by simp;omega);obtain⟨N,O,P,Q,R,S,T,U,V⟩:=z;go_enter Tryz.func105,Tryz.ntmps105;go_wp2_with fail;refine(k.out _).mono ?_;rintro d B ⟨rfl,e⟩;have a:bW w B:=by
  refine bD ?_ (e.mono ?_)
  ·exact BEL
  ·first|(simp;done)|(simp;omega)
 have j:=zH a;clear e a;go_wp2_with fail;go_ret;have a:=j.out;exact⟨rfl,BEL⟩
theorem yO (c:Cf) (h:lV c) (w:World):
  Calls Tryz.prog 42 #[.agg (cfV c)] w λa f=>a=.returned (bV true)/\bW w f:=by
 have e:=zH (OA c h);go_enter Tryz.func42,Tryz.ntmps42;go_wp2_with fail;refine(e.out _).mono ?_;rintro a g ⟨rfl,b⟩;have d:=zH b;clear b;go_wp2_with fail;go_ret;exact⟨rfl,JZ d.out⟩
structure Xf (s:Cc):Prop where
 win:oz s.win
 qx:Word s.round.iO
 mX:Word s.round.mX
theorem JW (c:Cf) (h:lV c) (w:World):
  Calls Tryz.prog 47 #[.agg (cfV c)] w λg S=>g=.returned (.agg (AX (mF c)))/\bW w S:=by
 have j:=zH (yO c h);obtain⟨m,O,Q,p,R,N,K,n,M,P,first,L,o,r,k,l,q⟩:=c;clear h;go_enter Tryz.func47,Tryz.ntmps47;go_wp2_with fail;refine(j.out _).mono ?_;rintro g a ⟨rfl,b⟩;have f:bW w a:=by
  refine bD ?_ (b.mono ?_)
  ·exact BEL
  ·first|(simp;done)|(simp;omega)
 have d:Blk a (w.heap.size) 32 (cfV ((⟨m,O,Q,p,R,N,K,n,M,P,first,L,o,r,k,l,q⟩:Cf))):=iK b;have e:Blk a (w.heap.size+1) 132 #[uI 0,uI 0,uI 0,uI 0,uI 0,uI 0,uI 0,uI 0,uI 0]:=iK b;obtain⟨s,V,t,W,C,a4,D,a5,E,a6,F,a7,G,a8,H,a9,I,b0,J,b1,u,X,v,Y,x,Z,y,a0,z,a1,A,a2,B,a3⟩:=d.c17;have b2:w.heap.size<a.heap.size:=d.lt;have T:=zH d;clear d;obtain⟨b3,c2,b4,c3,b5,c4,b6,c5,b7,c6,b8,c7,b9,c8,c0,c9,c1,d0⟩:=e.c9;have d1:w.heap.size+1<a.heap.size:=e.lt;have U:=zH e;clear e;have i:=zH f;clear b f;simp only at s t C D E F G H I J u v x y z A B;go_wp2_with fail;refine mZ ?_;have f:=i.out;exact⟨rfl,BEL⟩
attribute[local go_sem] BW.cell BW.frozen
theorem ND (p:Pa) (a now b:Int) (k:Word p.fC) (l:Word p.pat) (m:Word p.gP) (n:Word a) (o:Word now) (w:World):
  Calls Tryz.prog 139 #[.agg #[uI p.fC,uI p.pat,uI p.gP],uI a,uI now,uI b] w λj x=>j=.returned (.agg #[uI (xq p a now b).fC,uI (xq p a now b).pat,uI (xq p a now b).gP])/\bW w x:=by
 have i:=zH (JE p a now k l m n o);have q:xq p a now b={lM p a now with gP:=min b 4294967296}:=rfl;rw[q];clear q k l m n o;generalize lM p a now=s at*
 obtain⟨A,B,C⟩:=s;obtain⟨t,u,v⟩:=p;simp only at i|-;go_enter Tryz.func139,Tryz.ntmps139;go_wp2_with fail;refine(i.out _).mono ?_;rintro j c ⟨rfl,d⟩;have g:bW w c:=by
  refine bD ?_ (d.mono ?_)
  ·exact BEL
  ·first|(simp;done)|(simp;omega)
 have e:Blk c (w.heap.size) 134 #[uI t,uI u,uI v]:=iK d;have f:Blk c (w.heap.size+1) 134 #[uI 0,uI 0,uI 0]:=iK d;obtain⟨D,G,E,H,F,I⟩:=e.c3;have J:w.heap.size<c.heap.size:=e.lt;have y:=zH e;clear e;obtain⟨K,N,L,O,M,P⟩:=f.c3;have Q:w.heap.size+1<c.heap.size:=f.lt;have z:=zH f;clear f;have r:=zH g;clear d g;go_wp2_with fail;refine mZ ?_;have g:=r.out;exact⟨rfl,BEL⟩
theorem KH (p:Pa) (a now size:Int) (j:Word p.fC) (k:Word p.pat) (l:Word p.gP) (m:Word a) (n:Word now) (o:Word size) (w:World):
  Calls Tryz.prog 92 #[.agg #[uI p.fC,uI p.pat,uI p.gP],uI a,uI now,uI size] w λi G=>i=.returned (.tuple #[.agg #[uI (if vw p a now size then WR p a now size else lM p a now).fC,uI (if vw p a now size then WR p a now size else lM p a now).pat,uI (if vw p a now size then WR p a now size else lM p a now).gP],bV (vw p a now size)])/\bW w G:=by
 have r:=zH (JE p a now j k l m n);have v:=Cv size o;have A:Word (lM p a now).fC:=by
  have:=fB j (kN l (nC n k));have:=pO m;exact qo (by assumption) (by assumption)
 have t:WR p a now size={lM p a now with fC:=(lM p a now).fC -xu size}:=rfl;have u:vw p a now size= !decide ((lM p a now).fC<xu size):=rfl;have L:=(pO o).1;have b:=(pO o).2;rw[t,u];clear t u j k l m n;generalize xu size=g at*
 generalize lM p a now=z at*
 obtain⟨b,M,N⟩:=z;obtain⟨B,C,D⟩:=p;obtain⟨E,F⟩:=A;have y:=zH v;clear v;simp only at r E F|-;by_cases J:b<g
 case' pos=>
  have s:decide (b<g)=true:=by simp;omega
 case' neg=>
  (have s:decide (b<g)=false:=by simp;omega);have K:g<=b:=oM
 all_goals
  rw[s];go_enter Tryz.func92,Tryz.ntmps92;go_wp2_with fail;refine(r.out _).mono ?_;rintro i c ⟨rfl,d⟩;have q:bW w c:=by
   refine bD ?_ (d.mono ?_)
   ·exact BEL
   ·first|(simp;done)|(simp;omega)
  have e:Blk c (w.heap.size) 134 #[uI B,uI C,uI D]:=iK d;have f:Blk c (w.heap.size+1) 134 #[uI 0,uI 0,uI 0]:=iK d;obtain⟨O,R,P,S,Q,T⟩:=e.c3;have U:w.heap.size<c.heap.size:=e.lt;have H:=zH e;clear e;obtain⟨V,Y,W,Z,X,a0⟩:=f.c3;have a1:w.heap.size+1<c.heap.size:=f.lt;have I:=zH f;clear f;have x:=zH q;clear d q;go_wp2_with fail;refine(y.out _).mono ?_;rintro i a2 ⟨rfl,rfl⟩;go_wp2_with fail;refine mZ ?_;have q:=x.out;exact⟨rfl,BEL⟩
theorem Fe (c:Cf) (x:Wi) (g f e d:Int) (k:c.pX=1\/c.pX=2) (i:oz x) (K:Word g) (L:Word f) (M:Word e) (N:Word d) (w:World):
  Calls Tryz.prog 145 #[.agg (cfV c),.agg #[uI x.cr,uI x.dL,uI x.acc,uI x.jF,uI x.gX,uI x.k,uI x.fair],uI g,uI f,uI e,uI d] w λq g8=>q=.returned (.agg #[uI (vM c x g f e d).cr,uI (vM c x g f e d).dL,uI (vM c x g f e d).acc,uI (vM c x g f e d).jF,uI (vM c x g f e d).gX,uI (vM c x g f e d).k,uI (vM c x g f e d).fair])/\bW w g8:=by
 have v:=zH (Oo x e d i M N);have y:=zH (Nl x g f i K L);have O:vM c x g f e d={held c (if c.pX=2 then rD x e d else sJ x g f)with dL:=max (held c (if c.pX=2 then rD x e d else sJ x g f)).dL c.bn}:=rfl;rw[O];clear O i K L M N;obtain⟨F,S,T,H,U,R,P,a,o,h7,first,Q,G,J,D,E,I⟩:=c;generalize rD x e d=h0 at*
 generalize sJ x g f=h1 at*
 obtain⟨V,W,X,Y,Z,a0,a1⟩:=x;simp only at k v y|-;rcases k with rfl|rfl
 ·clear v
  obtain⟨u,j,h2,h3,h4,h5,h6⟩:=h1;simp only[held]at y|-;have p:=zH (zS u a o);obtain⟨t,r⟩:∃t,rF u a o=t:=⟨_,rfl⟩;rw[r]at p;by_cases c:j<a
  case' pos=>
   (have A:decide (j<a)=true:=by simp;omega);have s:max j a=a:=oM
  case' neg=>
   (have A:decide (j<a)=false:=by simp;omega);have s:max j a=j:=oM
  all_goals
   go_enter Tryz.func145,Tryz.ntmps145;go_wp2_with fail;refine(y.out _).mono ?_;rintro q b ⟨rfl,l⟩;have n:bW w b:=by
    refine bD ?_ (l.mono ?_)
    ·exact BEL
    ·first|(simp;done)|(simp;omega)
   have k:Blk b (w.heap.size) 32 (cfV ((⟨F,S,T,H,U,R,P,a,o,1,first,Q,G,J,D,E,I⟩:Cf))):=iK l;have i:Blk b (w.heap.size+1) 128 #[uI V,uI W,uI X,uI Y,uI Z,uI a0,uI a1]:=iK l;have m:Blk b (w.heap.size+1+1) 128 #[uI 0,uI 0,uI 0,uI 0,uI 0,uI 0,uI 0]:=iK l;obtain⟨a5,c0,a6,c1,b4,c9,b5,d0,b6,d1,b7,d2,b8,d3,B,d4,C,d5,b9,d6,a7,c2,a8,c3,a9,c4,b0,c5,b1,c6,b2,c7,b3,c8⟩:=k.c17;have d7:w.heap.size<b.heap.size:=k.lt;have a2:=zH k;clear k;obtain⟨f3,g0,f4,g1,f5,g2,f6,g3,f7,g4,f8,g5,f9,g6⟩:=i.c7;have g7:w.heap.size+1<b.heap.size:=i.lt;have a4:=zH i;clear i;obtain⟨d8,e5,d9,e6,e0,e7,e1,e8,e2,e9,e3,f0,e4,f1⟩:=m.c7;have f2:w.heap.size+1+1<b.heap.size:=m.lt;have a3:=zH m;clear m;have z:=zH n;clear l n;simp only at B C;go_wp2_with fail;refine(p.out _).mono ?_;rintro q g9 ⟨rfl,rfl⟩
   iterate 49 (first|go_values|go_skip|go_guarded|go_step|go_upon|go_back|go_simp)
   refine mZ ?_;have n:=z.out;refine⟨?_,BEL⟩;simp[r,s]
 ·clear y
  obtain⟨u,j,h2,h3,h4,h5,h6⟩:=h0;simp only[held]at v|-;have p:=zH (zS u a o);obtain⟨t,r⟩:∃t,rF u a o=t:=⟨_,rfl⟩;rw[r]at p;by_cases c:j<a
  case' pos=>
   (have A:decide (j<a)=true:=by simp;omega);have s:max j a=a:=oM
  case' neg=>
   (have A:decide (j<a)=false:=by simp;omega);have s:max j a=j:=oM
  all_goals
   go_enter Tryz.func145,Tryz.ntmps145;go_wp2_with fail;refine(v.out _).mono ?_;rintro q b ⟨rfl,l⟩;have n:bW w b:=by
    refine bD ?_ (l.mono ?_)
    ·exact BEL
    ·first|(simp;done)|(simp;omega)
   have k:Blk b (w.heap.size) 32 (cfV ((⟨F,S,T,H,U,R,P,a,o,2,first,Q,G,J,D,E,I⟩:Cf))):=iK l;have i:Blk b (w.heap.size+1) 128 #[uI V,uI W,uI X,uI Y,uI Z,uI a0,uI a1]:=iK l;have m:Blk b (w.heap.size+1+1) 128 #[uI 0,uI 0,uI 0,uI 0,uI 0,uI 0,uI 0]:=iK l;obtain⟨a5,c0,a6,c1,b4,c9,b5,d0,b6,d1,b7,d2,b8,d3,B,d4,C,d5,b9,d6,a7,c2,a8,c3,a9,c4,b0,c5,b1,c6,b2,c7,b3,c8⟩:=k.c17;have d7:w.heap.size<b.heap.size:=k.lt;have a2:=zH k;clear k;obtain⟨f3,g0,f4,g1,f5,g2,f6,g3,f7,g4,f8,g5,f9,g6⟩:=i.c7;have g7:w.heap.size+1<b.heap.size:=i.lt;have a4:=zH i;clear i;obtain⟨d8,e5,d9,e6,e0,e7,e1,e8,e2,e9,e3,f0,e4,f1⟩:=m.c7;have f2:w.heap.size+1+1<b.heap.size:=m.lt;have a3:=zH m;clear m;have z:=zH n;clear l n;simp only at B C;go_wp2_with fail;refine(p.out _).mono ?_;rintro q g9 ⟨rfl,rfl⟩
   iterate 49 (first|go_values|go_skip|go_guarded|go_step|go_upon|go_back|go_simp)
   refine mZ ?_;have n:=z.out;refine⟨?_,BEL⟩;simp[r,s]
end Go.Proofs.YtiflndepmgnojaaGreat
