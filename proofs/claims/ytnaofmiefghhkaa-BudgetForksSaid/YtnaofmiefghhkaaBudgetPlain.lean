/-
  PLAIN LAWS of chapter 15: what a budget grants. No program in sight.
-/
import Derived.Test.YtnaofmiefghhkaaSatPlain
namespace Go.Proofs.Ytnaofmiefghhkaa

/-- Does a time still count, now? -/
def alive (every now x : Int) : Bool := decide (subI now x < every)
theorem alive_mono {every a b x : Int} (h : a ≤ b) (hb : alive every b x = true) : alive every a x = true := by
  unfold alive subI at *
  simp at *
  split at hb <;> split <;> omega

/-- A budget: now, the times that still count, how many were granted. -/
structure Bu where
  now : Int
  times : List Int
  granted : Nat
def still (every : Int) (s : Bu) (t : Int) : List Int := s.times.filter (alive every (max s.now t))
def ask (most : Nat) (every : Int) (s : Bu) (t : Int) : Bu :=
  if most ≤ (still every s t).length then ⟨max s.now t, still every s t, s.granted⟩ else ⟨max s.now t, still every s t ++ [max s.now t], s.granted + 1⟩
def grants (most : Nat) (every : Int) (s : Bu) (t : Int) : Bool := !decide (most ≤ (still every s t).length)

/-- The reference's: the greatest time, the times of all that were granted. -/
structure Rf where
  last : Int
  l : List Int
def rask (most : Nat) (every : Int) (s : Rf) (t : Int) : Rf :=
  if most ≤ (s.l.filter (alive every (max s.last t))).length then ⟨max s.last t, s.l⟩ else ⟨max s.last t, s.l ++ [max s.last t]⟩
def rgrants (most : Nat) (every : Int) (s : Rf) (t : Int) : Bool := !decide (most ≤ (s.l.filter (alive every (max s.last t))).length)

/-- The two are alike: the same time, as many granted, and from now on the same times count. -/
structure Like (every : Int) (b : Bu) (r : Rf) : Prop where
  now : b.now = r.last
  count : b.granted = r.l.length
  times : ∀ t, b.now ≤ t → b.times.filter (alive every t) = r.l.filter (alive every t)
theorem like_new (every : Int) : Like every ⟨0, [], 0⟩ ⟨0, []⟩ := ⟨rfl, rfl, fun _ _ => rfl⟩
theorem filter_still {every a b : Int} (h : a ≤ b) (l : List Int) : (l.filter (alive every a)).filter (alive every b) = l.filter (alive every b) := by
  rw [List.filter_filter]
  apply List.filter_congr
  intro x _
  cases hb : alive every b x
  · rfl
  · simp [alive_mono h hb]
theorem like_still {every : Int} {b : Bu} {r : Rf} (h : Like every b r) (t : Int) : still every b t = r.l.filter (alive every (max r.last t)) := by
  unfold still
  rw [h.times _ (by omega), h.now]
theorem like_grants {most : Nat} {every : Int} {b : Bu} {r : Rf} (h : Like every b r) (t : Int) : grants most every b t = rgrants most every r t := by
  unfold grants rgrants; rw [like_still h]
theorem like_ask {most : Nat} {every : Int} {b : Bu} {r : Rf} (h : Like every b r) (t : Int) : Like every (ask most every b t) (rask most every r t) := by
  have hs := like_still h t
  unfold ask rask
  rw [hs, h.now]
  split
  · refine ⟨rfl, h.count, fun t' ht' => ?_⟩
    show (r.l.filter _).filter _ = _
    exact filter_still ht' _
  · refine ⟨rfl, by simp [h.count], fun t' ht' => ?_⟩
    show (r.l.filter _ ++ [_]).filter _ = (r.l ++ [_]).filter _
    rw [List.filter_append, List.filter_append, filter_still ht']
theorem still_len (every : Int) (s : Bu) (t : Int) : (still every s t).length ≤ s.times.length := List.length_filter_le _ _
theorem ask_len {most : Nat} {every : Int} {s : Bu} (h : s.times.length ≤ most) (t : Int) : (ask most every s t).times.length ≤ most := by
  have := still_len every s t
  unfold ask
  split
  · show (still every s t).length ≤ _; omega
  · show (still every s t ++ [_]).length ≤ _; simp; omega
end Go.Proofs.Ytnaofmiefghhkaa
