/-
  PLAIN LAWS of chapter 15, the second half: in no interval more is granted than may be; who rested is granted as many as may be. No program in sight.
-/
import Derived.Test.YtnaofmiefghhkaaBudgetPlain
namespace Go.Proofs.Ytnaofmiefghhkaa

/-- What holds of a budget and of the number n of those that were granted from 'fr' on, in an interval. -/
structure Hold (M : Nat) (every fr : Int) (s : Bu) (n : Nat) : Prop where
  le : ∀ x ∈ s.times, x ≤ s.now
  win : s.now < fr + every → n ≤ (s.times.filter (fun x => decide (fr ≤ x))).length
  most : n ≤ M
theorem hold_new (M : Nat) (every fr : Int) : Hold M every fr ⟨0, [], 0⟩ 0 := ⟨(fun x hx => by cases hx), fun _ => Nat.zero_le _, Nat.zero_le _⟩
/-- Is it counted? -/
def counts (every fr t : Int) : Bool := decide (fr ≤ t) && decide (t - fr < every)
theorem hold_step {M : Nat} {every fr : Int} {s : Bu} {n : Nat} (h : Hold M every fr s n) {t : Int} (ht : s.now ≤ t) :
    Hold M every fr (ask M every s t) (n + if grants M every s t && counts every fr t then 1 else 0) := by
  obtain ⟨hle, hwin, hn⟩ := h
  have hmax : max s.now t = t := by omega
  have hst : ∀ x ∈ still every s t, x ≤ t := by
    intro x hx
    have := hle x (List.mem_filter.1 hx).1
    omega
  -- of those from 'fr' on none is lost, as long as the interval is not over
  have hkeep : t < fr + every → (still every s t).filter (fun x => decide (fr ≤ x)) = s.times.filter (fun x => decide (fr ≤ x)) := by
    intro hlt
    unfold still
    rw [List.filter_filter]
    apply List.filter_congr
    intro x hx
    have hx1 := hle x hx
    by_cases hf : fr ≤ x
    · have : alive every (max s.now t) x = true := by
        unfold alive subI; rw [hmax]; simp; split <;> omega
      simp [this]
    · simp [hf]
  unfold ask grants
  rw [hmax]
  by_cases hfull : M ≤ (still every s t).length
  · rw [if_pos hfull]
    simp only [hfull, decide_true, Bool.not_true, Bool.false_and]
    refine ⟨hst, fun hlt => ?_, by simpa using hn⟩
    simp only [] at hlt ⊢
    rw [hkeep hlt]
    have := hwin (by omega)
    simpa using this
  · rw [if_neg hfull]
    simp only [hfull, decide_false, Bool.not_false, Bool.true_and]
    have hl : t < fr + every → n ≤ ((still every s t).filter (fun x => decide (fr ≤ x))).length := fun hlt => by rw [hkeep hlt]; exact hwin (by omega)
    have hf := List.length_filter_le (fun x => decide (fr ≤ x)) (still every s t)
    refine ⟨fun x hx => ?_, fun hlt => ?_, ?_⟩
    · rcases List.mem_append.1 hx with h | h
      · exact hst x h
      · simp at h; subst h; exact Int.le_refl _
    · have hl' := hl hlt
      show _ ≤ ((still every s t ++ [t]).filter _).length
      rw [List.filter_append, List.length_append]
      unfold counts
      by_cases hfr : fr ≤ t
      · simp [hfr]; split <;> omega
      · simp [hfr]; exact hl'
    · unfold counts
      by_cases hc : (decide (fr ≤ t) && decide (t - fr < every)) = true
      · rw [if_pos hc]
        have hlt : t < fr + every := by simp at hc; omega
        have := hl hlt
        omega
      · rw [if_neg hc]; omega
theorem ask_now {M : Nat} {every : Int} {s : Bu} (t : Int) : (ask M every s t).now = max s.now t := by unfold ask; split <;> rfl
theorem ask_le {M : Nat} {every : Int} {s : Bu} (h : ∀ x ∈ s.times, x ≤ s.now) (t : Int) : ∀ x ∈ (ask M every s t).times, x ≤ (ask M every s t).now := by
  rw [ask_now]
  have hst : ∀ x ∈ still every s t, x ≤ max s.now t := fun x hx => by have := h x (List.mem_filter.1 hx).1; omega
  intro x hx
  unfold ask at hx
  split at hx
  · exact hst x hx
  · rcases List.mem_append.1 hx with h | h
    · exact hst x h
    · simp at h; omega
theorem ask_granted {M : Nat} {every : Int} {s : Bu} (t : Int) : (ask M every s t).granted ≤ s.granted + 1 := by unfold ask; split <;> simp

/-- k were granted at t, after a rest: nothing else counts any more. -/
structure Rested (every t : Int) (k : Nat) (s : Bu) : Prop where
  now : s.now ≤ t
  still : ∀ t', t ≤ t' → s.times.filter (alive every t') = (List.replicate k t).filter (alive every t')
theorem rested_0 {every t : Int} {s : Bu} (h : ∀ x ∈ s.times, x ≤ s.now) (ht : s.now + every ≤ t) (he : 0 ≤ every) : Rested every t 0 s :=
  ⟨by omega, fun t' ht' => by
    simp
    intro x hx
    have := h x hx
    unfold alive subI
    simp
    split <;> omega⟩
theorem alive_self {every t : Int} (he : 0 < every) : alive every t t = true := by unfold alive subI; simp; omega
theorem filter_rep {p : Int → Bool} {t : Int} {k : Nat} (h : p t = true) : (List.replicate k t).filter p = List.replicate k t := by
  rw [List.filter_eq_self]; intro x hx; rw [(List.mem_replicate.1 hx).2]; exact h
theorem rested_still {every t : Int} {k : Nat} {s : Bu} (h : Rested every t k s) (he : 0 < every) : still every s t = List.replicate k t := by
  unfold still; rw [show max s.now t = t by have := h.now; omega, h.still t (by omega), filter_rep (alive_self he)]
theorem rested_yes {M : Nat} {every t : Int} {k : Nat} {s : Bu} (h : Rested every t k s) (he : 0 < every) (hk : k < M) : grants M every s t = true ∧ Rested every t (k + 1) (ask M every s t) := by
  have hs := rested_still h he
  have hmax : max s.now t = t := by have := h.now; omega
  have hn : ¬ M ≤ (still every s t).length := by rw [hs]; simp; omega
  refine ⟨by unfold grants; simp [hn], by rw [ask_now]; omega, fun t' _ => ?_⟩
  unfold ask
  rw [if_neg hn, hs, hmax, List.replicate_succ']
theorem rested_no {M : Nat} {every t : Int} {s : Bu} (h : Rested every t M s) (he : 0 < every) : grants M every s t = false ∧ Rested every t M (ask M every s t) := by
  have hs := rested_still h he
  have hmax : max s.now t = t := by have := h.now; omega
  have hn : M ≤ (still every s t).length := by rw [hs]; simp
  refine ⟨by unfold grants; simp [hn], by rw [ask_now]; omega, fun t' _ => ?_⟩
  unfold ask
  rw [if_pos hn, hs]
/-- Just ahead of the interval's end nothing is granted. -/
theorem rested_late {M : Nat} {every t : Int} {s : Bu} (h : Rested every t M s) (he : 0 < every) : grants M every s (t + (every - 1)) = false ∧ (ask M every s (t + (every - 1))).now = t + (every - 1) ∧ ∀ t', t + (every - 1) ≤ t' → (ask M every s (t + (every - 1))).times.filter (alive every t') = (List.replicate M t).filter (alive every t') := by
  have hmax : max s.now (t + (every - 1)) = t + (every - 1) := by have := h.now; omega
  have ha : alive every (t + (every - 1)) t = true := by unfold alive subI; simp; split <;> omega
  have hs : still every s (t + (every - 1)) = List.replicate M t := by
    unfold still; rw [hmax, h.still _ (by omega), filter_rep ha]
  have hn : M ≤ (still every s (t + (every - 1))).length := by rw [hs]; simp
  refine ⟨by unfold grants; simp [hn], by rw [ask_now]; exact hmax, fun t' _ => ?_⟩
  unfold ask
  rw [if_pos hn, hs]
theorem rested_again {M : Nat} {every t u : Int} {s : Bu} (hnow : s.now ≤ t + every) (h : s.times.filter (alive every (t + every)) = (List.replicate M t).filter (alive every (t + every))) (hu : u = t + every) (he : 0 < every) (hM : 0 < M) : grants M every s u = true := by
  subst hu
  have hmax : max s.now (t + every) = t + every := by omega
  have ha : alive every (t + every) t = false := by unfold alive subI; simp; split <;> omega
  have hs : still every s (t + every) = [] := by
    unfold still; rw [hmax, h, List.filter_eq_nil_iff]; intro x hx; rw [(List.mem_replicate.1 hx).2, ha]; simp
  unfold grants; rw [hs]; simp; omega
/-- An ask at the time that it is, and one at an elder time, are one. -/
theorem grants_old {M : Nat} {every t t' : Int} {s : Bu} (h : t ≤ s.now) (h' : t' ≤ s.now) : grants M every s t = grants M every s t' := by
  unfold grants still; rw [show max s.now t = s.now by omega, show max s.now t' = s.now by omega]
end Go.Proofs.Ytnaofmiefghhkaa
