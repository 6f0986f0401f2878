/-
 'TopLate' (Go function number 5): for every input the call returns true, and each argument reads afterwards as it read before. No condition.
-/
import Derived.Test.YtiflndepmgnojaaGreatRows
import Derived.Lib.SmallJoins
import Derived.Test.YtiflndepmgnojaaGreatRmf
namespace Go.Proofs.YtiflndepmgnojaaGreat.topLate
open Go.ChangeShapes Go.WideShapes Go.ChangeAt Go.RowKit Go.Joins
set_option linter.unusedVariables false
theorem own:ownKnob Tryz.prog.godebug=none:=by kernel_rfl
theorem laidOut:laidOutB Tryz.prog=true:=by kernel_rfl
set_option maxRecDepth 100000 in
theorem lifted (os:Os) (started:os.Started) (H:Type) (enc:TypeId×Value->H):
  ReturnsInHanded {} Tryz.checked os 5 .any (Rows.topLateSpec.pre6 enc Tryz.prog Tryz.f5 Rows.topLateRow.domain false) (Rows.topLateSpec.post enc Tryz.prog Tryz.f5 false true false false):=by
 refine returnsInHanded_of_change (C:=Tryz.checked) own started kR Tryz.func5
  (ChangeSpec.witness6 (enc:=enc) (C:=Tryz.checked) false ⟨#[],#[.slice none 0 0,.slice none 0 0,.slice none 0 0,.slice none 0 0],[]⟩ 8 kR kR kR kR) ?_
 intro W base args ds gs before hval0 hW hcnd _;have hval:∀(j:Nat) t v,Tryz.f5.params[j]?=some t->args[j]?=some v->Value.okWide Tryz.prog W .any base t v:=hval0;have hW':=hW;obtain⟨p,q,hA0,hV,rfl,hfz,hnd⟩:=hW;have hA:DataW.TrodAll enc Tryz.prog W 0 (λ_=>true) true Tryz.f5.params.toList args.toList ds p:=hA0;rw[Tryz.params5]at hA hval;obtain⟨v0,vs0,d0,ds0,p0,q0,hargs,rfl,rfl,h0,r0⟩:=trodAll_cons hA;obtain⟨v1,vs1,d1,ds1,p1,q1,rfl,rfl,rfl,h1,r1⟩:=trodAll_cons r0;obtain⟨v2,vs2,d2,ds2,p2,q2,rfl,rfl,rfl,h2,r2⟩:=trodAll_cons r1;obtain⟨v3,vs3,d3,ds3,p3,q3,rfl,rfl,rfl,h3,r3⟩:=trodAll_cons r2;obtain⟨rfl,rfl,rfl⟩:=trodAll_nil r3;(obtain rfl:args= #[v0,v1,v2,v3]:=by cases args;simp_all);obtain⟨rfl,rfl⟩:=trodVars_none hV;have k0:=h0;(have lt0:∀x∈p0,x.block<W.heap.size:=by obtain⟨m,hm⟩:=k0;exact DataW.trod_lt m _ _ _ hm);have k1:=h1;(have lt1:∀x∈p1,x.block<W.heap.size:=by obtain⟨m,hm⟩:=k1;exact DataW.trod_lt m _ _ _ hm);have k2:=h2;(have lt2:∀x∈p2,x.block<W.heap.size:=by obtain⟨m,hm⟩:=k2;exact DataW.trod_lt m _ _ _ hm);have k3:=h3;(have lt3:∀x∈p3,x.block<W.heap.size:=by obtain⟨m,hm⟩:=k3;exact DataW.trod_lt m _ _ _ hm);clear hA0 hval0;refine(Fy v0 d0 p0 v1 d1 p1 v2 d2 p2 v3 d3 p3 W (hval 0 22 v0 rfl rfl) k0 (hval 1 23 v1 rfl rfl) k1 (hval 2 60 v2 rfl rfl) k2 (hval 3 61 v3 rfl rfl) k3).mono λe W' ⟨he,bel⟩=>?_;subst he;exact⟨_,rfl,_,_,_,[],_,[],hW',trodAll_mk1 (shut_bool Tryz.underlying4 _),(trodAll_cons_mk (Below.trod laidOut kR (of_decide_eq_true kR) k0 bel lt0) (trodAll_cons_mk (Below.trod laidOut kR (of_decide_eq_true kR) k1 bel lt1) (trodAll_cons_mk (Below.trod laidOut kR (of_decide_eq_true kR) k2 bel lt2) (trodAll_cons_mk (Below.trod laidOut kR (of_decide_eq_true kR) k3 bel lt3) trodAll_mk0)))),rfl,bel.frame _,λh=>by cases h⟩
theorem f1:Tryz.prog.inPlace 5=Rows.topLateRow.inPlace:=by kernel_rfl
theorem f2:Tryz.prog.unfollowed 5=Rows.topLateRow.unfollowed:=by kernel_rfl
theorem f3:Tryz.prog.recurses 5=Rows.topLateRow.recurses:=by kernel_rfl
theorem f4:Tryz.prog.varsNamed 5=Rows.topLateRow.named:=by kernel_rfl
theorem closed:joinedFacts Tryz.prog 5 Tryz.f5 Rows.topLateSpec Rows.topLateRow=true:=by
 unfold joinedFacts;rw[f1,f2,f3,f4];kernel_rfl
theorem over:Rows.topLateRow.holds Tryz.pinned (OpenSpec.ofChange Rows.topLateSpec):=
 OpenClaim.holds_of_wide 5 Tryz.f5 rfl rfl rfl rfl rfl rfl rfl ⟨rfl,rfl,rfl,rfl,rfl⟩ rfl rfl rfl rfl rfl kR Tryz.func5 closed
  (of_decide_eq_true kR) (by unfold Func.isWrapper;rw[if_neg (of_decide_eq_false kR)];exact⟨rfl,rfl⟩)
  (λos started H enc _=>lifted os started H enc)
theorem proved:Rows.TopLateSaid:=over
#print axioms proved
end Go.Proofs.YtiflndepmgnojaaGreat.topLate
