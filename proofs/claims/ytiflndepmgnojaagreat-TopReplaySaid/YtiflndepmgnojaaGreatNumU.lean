import Derived.Test.YtiflndepmgnojaaGreatNumW
namespace Go.Proofs.YtiflndepmgnojaaGreat
open Go.RowKit
set_option linter.unusedSimpArgs false
set_option linter.unusedVariables false
set_option maxHeartbeats 1000000
set_option maxRecDepth 100000
structure oz (x:Wi):Prop where
 cr:Word x.cr
 dL:Word x.dL
 acc:Word x.acc
 jF:Word x.jF
 gX:Word x.gX
 k:Word x.k
 fair:Word x.fair
theorem qo {a b:Int} (c:Word a) (hb:Word b):Word (min a b):=by obtain⟨_,_⟩:=c;obtain⟨_,_⟩:=hb;exact⟨oM,oM⟩
theorem kX {a b:Int} (c:Word a) (hb:Word b):Word (max a b):=by obtain⟨_,_⟩:=c;obtain⟨_,_⟩:=hb;exact⟨oM,oM⟩
theorem CY (w:World) (o:Obj):(w.alloc o).heap.size=w.heap.size+1:=sM
theorem sF:Word 2:=⟨dC,dC⟩
theorem Ic (x:Wi) (b a:Int) (p:oz x) (o:Word b) (f:Word a) (w:World):
  Calls Tryz.prog 239 #[.agg #[uI x.cr,uI x.dL,uI x.acc,uI x.jF,uI x.gX,uI x.k,uI x.fair],uI b,uI a] w λc d=>c=.returned (.agg #[uI (qz x b a).cr,uI (qz x b a).dL,uI (qz x b a).acc,uI (qz x b a).jF,uI (qz x b a).gX,uI (qz x b a).k,uI (qz x b a).fair])/\bW w d:=by
 obtain⟨g,t,s,y,v,z,u⟩:=x;obtain⟨e,i,j,k,l,m,n⟩:=p;simp only at e i j k l m n;have q:=kN sF f;have r:=qo o q;go_enter Tryz.func239,Tryz.ntmps239;go_wp2_with fail;refine bP 8 kR kR ?_;refine mD ?_;(repeat (quiet_step ((first|(go_at_call 178;exact aJ ((wH 2 a sF f _).mono λc d h=>⟨h.1,h.2.symm⟩))|(go_at_call 146;exact aJ ((nY g _ e r _).mono λc d h=>⟨h.1,h.2.symm⟩))))));refine aK ?_;rintro _ ⟨A,rfl⟩;refine dA rfl rfl ?_;go_simp;refine aK ?_;go_wp2_with fail;go_returns;exact⟨rfl,BEL⟩
theorem Ku (x:Wi) (a b:Int) (o:oz x) (n:Word a) (z:Word b) (w:World):
  Calls Tryz.prog 194 #[.agg #[uI x.cr,uI x.dL,uI x.acc,uI x.jF,uI x.gX,uI x.k,uI x.fair],uI a,uI b] w λi p=>i=.returned (.agg #[uI (lK x a b).cr,uI (lK x a b).dL,uI (lK x a b).acc,uI (lK x a b).jF,uI (lK x a b).gX,uI (lK x a b).k,uI (lK x a b).fair])/\bW w p:=by
 by_cases f:x.cr<x.dL
 ·have B:=zH (Ic x a b o n z)
  (have e:lK x a b=qz x a b:=by unfold lK;rw[aB f]);rw[e];obtain⟨c,g,d,l,k,m,j⟩:=x;simp only at f;clear e;go_enter Tryz.func194,Tryz.ntmps194;go_wp2_with fail;refine(B.out _).mono ?_;rintro i I ⟨rfl,v⟩;have u:=(Wx (w.alloc _) _ _).below v sM;have y:bW w I:=((aj w.heap.size w).alloc (av _) _|>.alloc sM _).trans (v.mono sO);rw[CY]at u;obtain⟨N,U,O,V,P,W,Q,X,R,Y,S,Z,T,a0⟩:=u.c7;have A:=zH y;clear v u y;go_wp2_with fail;refine mZ ?_;have y:=A.out;exact⟨rfl,BEL⟩
 ·have t:=fB o.acc n
  have H:=fB o.cr z;obtain⟨c,g,d,l,k,m,j⟩:=x;obtain⟨r,C,s,D,E,F,G⟩:=o;simp only at f r C s D E F G t H;(have L:decide (c<g)=false:=by simp;omega);have J:=t.1;have K:=t.2;have a1:=r.1;by_cases q:c<=WI d a
  ·have e:lK ⟨c,g,d,l,k,m,j⟩ a b=⟨WI c b,g,WI d a -c,l,k,m,j⟩:=by unfold lK;simp only;rw[Ww f,aB q]
   rw[e];clear e f;go_enter Tryz.func194,Tryz.ntmps194;go_wp2_with fail;refine(nY d a s n _).mono ?_;rintro i p ⟨rfl,rfl⟩;go_wp2_with fail;refine(nY c b r z _).mono ?_;rintro i p ⟨rfl,rfl⟩;go_wp2_with fail;go_returns;exact⟨rfl,BEL⟩
  ·have e:lK ⟨c,g,d,l,k,m,j⟩ a b=⟨c,g,WI d a,l,k,m,j⟩:=by unfold lK;simp only;rw[Ww f,Ww q]
   rw[e];(have M:decide (c<=WI d a)=false:=by simp;omega);clear e f q;go_enter Tryz.func194,Tryz.ntmps194;go_wp2_with fail;refine(nY d a s n _).mono ?_;rintro i p ⟨rfl,rfl⟩;go_wp2_with fail;go_returns;exact⟨rfl,BEL⟩
theorem Nl (x:Wi) (b a:Int) (q:oz x) (o:Word b) (p:Word a) (w:World):
  Calls Tryz.prog 203 #[.agg #[uI x.cr,uI x.dL,uI x.acc,uI x.jF,uI x.gX,uI x.k,uI x.fair],uI b,uI a] w λc e=>c=.returned (.agg #[uI (sJ x b a).cr,uI (sJ x b a).dL,uI (sJ x b a).acc,uI (sJ x b a).jF,uI (sJ x b a).gX,uI (sJ x b a).k,uI (sJ x b a).fair])/\bW w e:=by
 obtain⟨g,s,r,v,u,y,t⟩:=x;obtain⟨d,i,j,k,l,m,n⟩:=q;simp only at d i j k l m n;have f:=zH (lS g b a d o p);go_enter Tryz.func203,Tryz.ntmps203;go_wp2_with fail;refine(f.out _).mono ?_;rintro c e ⟨rfl,z,rfl⟩;go_wp2_with fail;go_returns;exact⟨rfl,BEL⟩
end Go.Proofs.YtiflndepmgnojaaGreat
