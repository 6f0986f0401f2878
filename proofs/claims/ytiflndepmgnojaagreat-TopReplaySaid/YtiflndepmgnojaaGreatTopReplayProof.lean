/-
 'TopReplay' (Go function number 6): for every input the call returns true, and each argument reads afterwards as it read before. No condition.
-/
import Derived.Test.YtiflndepmgnojaaGreatRows
import Derived.Lib.SmallJoins
import Derived.Test.YtiflndepmgnojaaGreatRmh
namespace Go.Proofs.YtiflndepmgnojaaGreat.topReplay
open Go.ChangeShapes Go.WideShapes Go.ChangeAt Go.RowKit Go.Joins
set_option linter.unusedVariables false
theorem own:ownKnob Tryz.prog.godebug=none:=by kernel_rfl
theorem laidOut:laidOutB Tryz.prog=true:=by kernel_rfl
set_option maxRecDepth 100000 in
theorem lifted (os:Os) (started:os.Started) (H:Type) (enc:TypeId×Value->H):
  ReturnsInHanded {} Tryz.checked os 6 .any (Rows.topReplaySpec.pre6 enc Tryz.prog Tryz.f6 Rows.topReplayRow.domain false) (Rows.topReplaySpec.post enc Tryz.prog Tryz.f6 false true false false):=by
 refine returnsInHanded_of_change (C:=Tryz.checked) own started kR Tryz.func6
  (ChangeSpec.witness6 (enc:=enc) (C:=Tryz.checked) false ⟨#[],#[.slice none 0 0,.slice none 0 0,.slice none 0 0],[]⟩ 8 kR kR kR kR) ?_
 intro W base args ds gs before hval0 hW hcnd _;have hval:∀(j:Nat) t v,Tryz.f6.params[j]?=some t->args[j]?=some v->Value.okWide Tryz.prog W .any base t v:=hval0;have hW':=hW;obtain⟨p,q,hA0,hV,rfl,hfz,hnd⟩:=hW;have hA:DataW.TrodAll enc Tryz.prog W 0 (λ_=>true) true Tryz.f6.params.toList args.toList ds p:=hA0;rw[Tryz.params6]at hA hval;obtain⟨v0,vs0,d0,ds0,p0,q0,hargs,rfl,rfl,h0,r0⟩:=trodAll_cons hA;obtain⟨v1,vs1,d1,ds1,p1,q1,rfl,rfl,rfl,h1,r1⟩:=trodAll_cons r0;obtain⟨v2,vs2,d2,ds2,p2,q2,rfl,rfl,rfl,h2,r2⟩:=trodAll_cons r1;obtain⟨rfl,rfl,rfl⟩:=trodAll_nil r2;(obtain rfl:args= #[v0,v1,v2]:=by cases args;simp_all);obtain⟨rfl,rfl⟩:=trodVars_none hV;have k0:=h0;(have lt0:∀x∈p0,x.block<W.heap.size:=by obtain⟨m,hm⟩:=k0;exact DataW.trod_lt m _ _ _ hm);have k1:=h1;(have lt1:∀x∈p1,x.block<W.heap.size:=by obtain⟨m,hm⟩:=k1;exact DataW.trod_lt m _ _ _ hm);have k2:=h2;(have lt2:∀x∈p2,x.block<W.heap.size:=by obtain⟨m,hm⟩:=k2;exact DataW.trod_lt m _ _ _ hm);clear hA0 hval0;refine(SY v0 d0 p0 v1 d1 p1 v2 d2 p2 W (hval 0 22 v0 rfl rfl) k0 (hval 1 23 v1 rfl rfl) k1 (hval 2 60 v2 rfl rfl) k2).mono λe W' ⟨he,bel⟩=>?_;subst he;exact⟨_,rfl,_,_,_,[],_,[],hW',trodAll_mk1 (shut_bool Tryz.underlying4 _),(trodAll_cons_mk (Below.trod laidOut kR (of_decide_eq_true kR) k0 bel lt0) (trodAll_cons_mk (Below.trod laidOut kR (of_decide_eq_true kR) k1 bel lt1) (trodAll_cons_mk (Below.trod laidOut kR (of_decide_eq_true kR) k2 bel lt2) trodAll_mk0))),rfl,bel.frame _,λh=>by cases h⟩
theorem f1:Tryz.prog.inPlace 6=Rows.topReplayRow.inPlace:=by kernel_rfl
theorem f2:Tryz.prog.unfollowed 6=Rows.topReplayRow.unfollowed:=by kernel_rfl
theorem f3:Tryz.prog.recurses 6=Rows.topReplayRow.recurses:=by kernel_rfl
theorem f4:Tryz.prog.varsNamed 6=Rows.topReplayRow.named:=by kernel_rfl
theorem closed:joinedFacts Tryz.prog 6 Tryz.f6 Rows.topReplaySpec Rows.topReplayRow=true:=by
 unfold joinedFacts;rw[f1,f2,f3,f4];kernel_rfl
theorem over:Rows.topReplayRow.holds Tryz.pinned (OpenSpec.ofChange Rows.topReplaySpec):=
 OpenClaim.holds_of_wide 6 Tryz.f6 rfl rfl rfl rfl rfl rfl rfl ⟨rfl,rfl,rfl,rfl,rfl⟩ rfl rfl rfl rfl rfl kR Tryz.func6 closed
  (of_decide_eq_true kR) (by unfold Func.isWrapper;rw[if_neg (of_decide_eq_false kR)];exact⟨rfl,rfl⟩)
  (λos started H enc _=>lifted os started H enc)
theorem proved:Rows.TopReplaySaid:=over
#print axioms proved
end Go.Proofs.YtiflndepmgnojaaGreat.topReplay
