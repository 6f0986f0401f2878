/-
  'TopFlight' (Go function number 3): FOR EVERY INPUT THE CALL RETURNS true, and each argument reads afterwards as it read before. No condition.
-/
import Derived.Test.YtiflndepmgnojaaGreatRows
import Derived.Lib.SmallJoins
import Derived.Test.YtiflndepmgnojaaGreatRmc
namespace Go.Proofs.YtiflndepmgnojaaGreat.topFlight
open Go.ChangeShapes Go.WideShapes Go.ChangeAt Go.RowKit Go.Joins
set_option linter.unusedVariables false
theorem own:ownKnob Tryz.prog.godebug=none:=by kernel_rfl
theorem laidOut:laidOutB Tryz.prog=true:=by kernel_rfl
set_option maxRecDepth 100000 in
theorem lifted (os:Os) (started:os.Started) (H:Type) (enc:TypeId×Value->H):
  ReturnsInHanded {} Tryz.checked os 3 .any (Rows.topFlightSpec.pre6 enc Tryz.prog Tryz.f3 Rows.topFlightRow.domain false) (Rows.topFlightSpec.post enc Tryz.prog Tryz.f3 false true false false):=by
 refine returnsInHanded_of_change (C:=Tryz.checked) own started kR Tryz.func3
  (ChangeSpec.witness6 (enc:=enc) (C:=Tryz.checked) false ⟨#[],#[.agg #[.slice none 0 0,.slice none 0 0,.slice none 0 0,.slice none 0 0,.int .u16 0],.slice none 0 0],[]⟩ 8 kR kR kR kR) ?_
 intro W base args ds gs before hval0 hW hcnd _;have hval:∀(j:Nat) t v,Tryz.f3.params[j]?=some t->args[j]?=some v->Value.okWide Tryz.prog W .any base t v:=hval0;have hW':=hW;obtain⟨p,q,hA0,hV,rfl,hfz,hnd⟩:=hW;have hA:DataW.TrodAll enc Tryz.prog W 0 (λ_=>true) true Tryz.f3.params.toList args.toList ds p:=hA0;rw[Tryz.params3]at hA hval;obtain⟨v0,vs0,d0,ds0,p0,q0,hargs,rfl,rfl,h0,r0⟩:=trodAll_cons hA;obtain⟨v1,vs1,d1,ds1,p1,q1,rfl,rfl,rfl,h1,r1⟩:=trodAll_cons r0;obtain⟨rfl,rfl,rfl⟩:=trodAll_nil r1;(obtain rfl:args= #[v0,v1]:=by cases args;simp_all);obtain⟨rfl,rfl⟩:=trodVars_none hV;have k0:=h0;(have lt0:∀x∈p0,x.block<W.heap.size:=by obtain⟨m,hm⟩:=k0;exact DataW.trod_lt m _ _ _ hm);have k1:=h1;(have lt1:∀x∈p1,x.block<W.heap.size:=by obtain⟨m,hm⟩:=k1;exact DataW.trod_lt m _ _ _ hm);clear hA0 hval0;refine(XK v0 d0 p0 v1 d1 p1 W (hval 0 26 v0 rfl rfl) k0 (hval 1 27 v1 rfl rfl) k1).mono λe W' ⟨he,bel⟩=>?_;subst he;exact⟨_,rfl,_,_,_,[],_,[],hW',trodAll_mk1 (shut_bool Tryz.underlying4 _),(trodAll_cons_mk (Below.trod laidOut kR (of_decide_eq_true kR) k0 bel lt0) (trodAll_cons_mk (Below.trod laidOut kR (of_decide_eq_true kR) k1 bel lt1) trodAll_mk0)),rfl,bel.frame _,λh=>by cases h⟩
theorem f1:Tryz.prog.inPlace 3=Rows.topFlightRow.inPlace:=by kernel_rfl
theorem f2:Tryz.prog.unfollowed 3=Rows.topFlightRow.unfollowed:=by kernel_rfl
theorem f3:Tryz.prog.recurses 3=Rows.topFlightRow.recurses:=by kernel_rfl
theorem f4:Tryz.prog.varsNamed 3=Rows.topFlightRow.named:=by kernel_rfl
theorem closed:joinedFacts Tryz.prog 3 Tryz.f3 Rows.topFlightSpec Rows.topFlightRow=true:=by
 unfold joinedFacts;rw[f1,f2,f3,f4];kernel_rfl
theorem over:Rows.topFlightRow.holds Tryz.pinned (OpenSpec.ofChange Rows.topFlightSpec):=
 OpenClaim.holds_of_wide 3 Tryz.f3 rfl rfl rfl rfl rfl rfl rfl ⟨rfl,rfl,rfl,rfl,rfl⟩ rfl rfl rfl rfl rfl kR Tryz.func3 closed
  (of_decide_eq_true kR) (by unfold Func.isWrapper;rw[if_neg (of_decide_eq_false kR)];exact⟨rfl,rfl⟩)
  (λos started H enc _=>lifted os started H enc)
theorem proved:Rows.TopFlightSaid:=over
#print axioms proved
end Go.Proofs.YtiflndepmgnojaaGreat.topFlight
