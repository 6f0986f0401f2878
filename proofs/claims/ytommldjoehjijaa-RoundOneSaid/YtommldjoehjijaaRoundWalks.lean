/-
  THE WALKS of the laws over package round (chapter 20): what each call does to the world.
-/
import Derived.Test.YtommldjoehjijaaBase
namespace Go.Proofs.Ytommldjoehjijaa
open Go.RowKit

theorem fresh_any (a b pn : Int) (w : World) :
    Calls Try.prog 15 #[.agg #[.int .u64 a, .int .u64 b], .int .u64 pn] w fun e w' => e = .returned (.bool (decide (a ≤ pn))) ∧ ∃ c1, w' = w.alloc (.cells c1 24) := by
  go_enter Try.func15, Try.ntmps15
  go_wp2
  go_ret
  exact ⟨rfl, _, rfl⟩

def inc (x : Int) : Int := if x < 18446744073709551615 then x + 1 else 18446744073709551615
def endOf (pn next : Int) : Int := if next ≤ pn then inc pn else next

theorem begin_no (a b pn next : Int) (w : World) (h : pn < a) :
    Calls Try.prog 13 #[.agg #[.int .u64 a, .int .u64 b], .int .u64 pn, .int .u64 next] w fun e w' => e = .returned (.tuple #[.agg #[.int .u64 a, .int .u64 b], .bool false]) ∧ ∃ c1 c2 c3, w' = ((w.alloc (.cells c1 24)).alloc (.cells c2 24)).alloc (.cells c3 24) := by
  have hd : decide (a ≤ pn) = false := by simp; omega
  go_enter Try.func13, Try.ntmps13
  go_wp2
  refine bodyPost_ret (v := .tuple #[.agg #[.int .u64 a, .int .u64 b], .bool false]) (by simp [results, Try.results13, go_sem]) rfl ⟨rfl, _, _, _, rfl⟩
theorem begin17_no (a b pn next : Int) (w : World) (h : pn < a) :
    Calls Try.prog 14 #[.agg #[.int .u64 a, .int .u64 b], .int .u64 pn, .int .u64 next] w fun e w' => e = .returned (.tuple #[.agg #[.int .u64 a, .int .u64 b], .bool false]) ∧ ∃ c1 c2 c3, w' = ((w.alloc (.cells c1 24)).alloc (.cells c2 24)).alloc (.cells c3 24) := by
  have hd : decide (a ≤ pn) = false := by simp; omega
  go_enter Try.func14, Try.ntmps14
  go_wp2
  refine bodyPost_ret (v := .tuple #[.agg #[.int .u64 a, .int .u64 b], .bool false]) (by simp [results, Try.results14, go_sem]) rfl ⟨rfl, _, _, _, rfl⟩
theorem begin_yes (a b pn next : Int) (w : World) (h : a ≤ pn) (hpn : Word pn) (hb : Word b) :
    Calls Try.prog 13 #[.agg #[.int .u64 a, .int .u64 b], .int .u64 pn, .int .u64 next] w fun e w' => e = .returned (.tuple #[.agg #[.int .u64 (endOf pn next), .int .u64 (inc b)], .bool true]) ∧ ∃ c1 c2 c3, w' = ((w.alloc (.cells c1 24)).alloc (.cells c2 24)).alloc (.cells c3 24) := by
  obtain ⟨h1, h2⟩ := hpn; obtain ⟨h3, h4⟩ := hb
  go_enter Try.func13, Try.ntmps13
  go_wp2
  all_goals
    refine bodyPost_ret (v := .tuple #[.agg #[.int .u64 (endOf pn next), .int .u64 (inc b)], .bool true]) (by simp [results, Try.results13, go_sem]; unfold endOf inc; exact ⟨by (repeat' split) <;> omega, by split <;> omega⟩) rfl ⟨rfl, _, _, _, rfl⟩
theorem add1_any (b : Int) (w : World) (hb : Word b) :
    Calls Try.prog 31 #[.int .u64 b, .int .u64 1] w fun e w' => e = .returned (.int .u64 (inc b)) ∧ w = w' := by
  obtain ⟨h3, h4⟩ := hb
  go_enter Try.func31, Try.ntmps31
  go_wp2
  all_goals
    go_ret
    refine ⟨?_, rfl⟩
    unfold inc
    simp
    omega
theorem begin17_yes (a b pn next : Int) (w : World) (h : a ≤ pn) (hpn : Word pn) (hb : Word b) :
    Calls Try.prog 14 #[.agg #[.int .u64 a, .int .u64 b], .int .u64 pn, .int .u64 next] w fun e w' => e = .returned (.tuple #[.agg #[.int .u64 (endOf pn next), .int .u64 (inc b)], .bool true]) ∧ ∃ c1 c2 c3, w' = ((w.alloc (.cells c1 24)).alloc (.cells c2 24)).alloc (.cells c3 24) := by
  go_enter Try.func14, Try.ntmps14
  go_wp2_with (first | (go_at_call 31; refine (add1_any _ _ (by assumption)).mono ?_; rintro e w' ⟨rfl, rfl⟩) | (go_at_call 30; go_in))
  all_goals
    refine bodyPost_ret (v := .tuple #[.agg #[.int .u64 (endOf pn next), .int .u64 (inc b)], .bool true]) (by simp [results, Try.results14, go_sem]; unfold endOf; split <;> omega) rfl ⟨rfl, _, _, _, rfl⟩

theorem round_alive (w : World) : Calls Try.prog 12 #[] w fun e w' => e = .returned (.bool true) ∧ Below w.heap.size w w' := by
  go_enter Try.func12, Try.ntmps12
  go_wp2
  go_ret
  exact ⟨rfl, by go_grown⟩
set_option maxHeartbeats 1000000 in
theorem roundBegins_any (a b pn next : Int) (hb : Word b) (hpn : Word pn) (w : World) :
    Calls Try.prog 3 #[.agg #[.int .u64 a, .int .u64 b], .int .u64 pn, .int .u64 next] w fun e w' => e = .returned (.bool true) ∧ Below w.heap.size w w' := by
  by_cases h : a ≤ pn
  · go_enter Try.func3, Try.ntmps3
    go_wp2_with fail
    refine (round_alive _).mono ?_; rintro e w1 ⟨rfl, hg⟩
    have f0 := hg.cell (p := ⟨w.heap.size, 0, none⟩) (by simp)
    have f1 := hg.cell (p := ⟨w.heap.size, 1, none⟩) (by simp)
    have f2 : w.heap.size < w1.heap.size := by have := hg.size; simp at this; omega
    have hg := below_after hg
    simp at f0 f1
    obtain ⟨z0, z1, z2, z3, z4, z5, z6, z7, z8, _⟩ := past16 f2
    go_wp2_with (first
      | (go_at_call 13; refine (begin_yes _ _ _ _ _ h hpn hb).mono ?_; rintro e w' ⟨rfl, c1, c2, c3, rfl⟩)
      | (go_at_call 14; refine (begin17_yes _ _ _ _ _ h hpn hb).mono ?_; rintro e w' ⟨rfl, d1, d2, d3, rfl⟩)
      | (go_at_call 15; refine (fresh_any _ _ _ _).mono ?_; rintro e w' ⟨rfl, c4, rfl⟩))
    go_ret
    exact ⟨rfl, by go_grown⟩
  · have h : pn < a := by omega
    have hd : decide (a ≤ pn) = false := by simp; omega
    go_enter Try.func3, Try.ntmps3
    go_wp2_with fail
    refine (round_alive _).mono ?_; rintro e w1 ⟨rfl, hg⟩
    have f0 := hg.cell (p := ⟨w.heap.size, 0, none⟩) (by simp)
    have f1 := hg.cell (p := ⟨w.heap.size, 1, none⟩) (by simp)
    have f2 : w.heap.size < w1.heap.size := by have := hg.size; simp at this; omega
    have hg := below_after hg
    simp at f0 f1
    obtain ⟨z0, z1, z2, z3, z4, z5, z6, z7, z8, _⟩ := past16 f2
    go_wp2_with (first
      | (go_at_call 13; refine (begin_no _ _ _ _ _ h).mono ?_; rintro e w' ⟨rfl, c1, c2, c3, rfl⟩)
      | (go_at_call 14; refine (begin17_no _ _ _ _ _ h).mono ?_; rintro e w' ⟨rfl, d1, d2, d3, rfl⟩)
      | (go_at_call 15; refine (fresh_any _ _ _ _).mono ?_; rintro e w' ⟨rfl, c4, rfl⟩))
    go_ret
    exact ⟨rfl, by go_grown⟩

theorem endOf_gt {pn next : Int} (h : pn < 18446744073709551615) : pn < endOf pn next ∧ next ≤ endOf pn next ∧ endOf pn next ≤ max next (pn + 1) := by
  unfold endOf inc; split <;> (try split) <;> omega

set_option maxHeartbeats 1000000 in
theorem roundEnds_any (a b pn next less : Int) (hb : Word b) (hpn : Word pn) (hn : Word next) (hl : Word less) (w : World) :
    Calls Try.prog 5 #[.agg #[.int .u64 a, .int .u64 b], .int .u64 pn, .int .u64 next, .int .u64 less] w fun e w' => e = .returned (.bool true) ∧ Below w.heap.size w w' := by
  by_cases ht : pn = 18446744073709551615
  · subst ht
    go_enter Try.func5, Try.ntmps5
    go_wp2_with fail
    refine (round_alive _).mono ?_; rintro e w1 ⟨rfl, hg⟩
    have f2 : w.heap.size < w1.heap.size := by have := hg.size; simp at this; omega
    have hg := below_after hg
    go_wp2_with fail
    refine (round_alive _).mono ?_; rintro e w2 ⟨rfl, hg2⟩
    go_wp2_with fail
    go_ret
    exact ⟨rfl, hg.trans (hg2.mono (by omega))⟩
  · have htb : (pn == 18446744073709551615) = false := by simp; exact ht
    obtain ⟨p1, p2⟩ := hpn; obtain ⟨n1, n2⟩ := hn; obtain ⟨l1, l2⟩ := hl
    have hpn : Word pn := ⟨p1, p2⟩
    have p3 : pn < 18446744073709551615 := by omega
    clear ht
    by_cases h : a ≤ pn
    · obtain ⟨g1, g2, g3⟩ := endOf_gt (pn := pn) (next := next) p3
      have by1 := fun w => begin_yes a b pn next w h hpn hb
      have bn1 := fun w => begin_no (endOf pn next) (inc b) pn next w g1
      generalize endOf pn next = E at *
      generalize inc b = C at *
      have d1 : decide (E ≤ pn) = false := by simp; omega
      have d2 : decide (a < E) = true := by simp; omega
      by_cases hm : less ≤ pn <;> by_cases hx : next < pn + 1
      all_goals
        have d3 : less ≤ pn → decide (E ≤ less) = false := by intro hh; simp; omega
        have d4 : next < pn + 1 → decide (E ≤ pn + 1) = true := by intro hh; simp; omega
        have d5 : pn + 1 ≤ next → decide (E ≤ next) = true := by intro hh; simp; omega
        go_enter Try.func5, Try.ntmps5
        go_wp2_with fail
        refine (round_alive _).mono ?_; rintro e w1 ⟨rfl, hg⟩
        have f0 := hg.cell (p := ⟨w.heap.size, 0, none⟩) (by simp)
        have f1 := hg.cell (p := ⟨w.heap.size, 1, none⟩) (by simp)
        have f2 : w.heap.size < w1.heap.size := by have := hg.size; simp at this; omega
        have hg := below_after hg
        simp at f0 f1
        obtain ⟨z0, z1, z2, z3, z4, z5, z6, z7, z8, z9, z10, z11, z12, _⟩ := past16 f2
        go_wp2_with fail
        refine (by1 _).mono ?_; rintro e w2 ⟨rfl, c1, c2, c3, rfl⟩
        go_wp2_with fail
        refine (bn1 _).mono ?_; rintro e w2 ⟨rfl, c4, c5, c6, rfl⟩
        go_wp2_with (first
          | (go_at_call 15; refine (fresh_any _ _ _ _).mono ?_; rintro e w' ⟨rfl, c7, rfl⟩))
        go_ret
        exact ⟨rfl, by go_grown⟩
    · have h : pn < a := by omega
      have d1 : decide (a ≤ pn) = false := by simp; omega
      go_enter Try.func5, Try.ntmps5
      go_wp2_with fail
      refine (round_alive _).mono ?_; rintro e w1 ⟨rfl, hg⟩
      have f0 := hg.cell (p := ⟨w.heap.size, 0, none⟩) (by simp)
      have f1 := hg.cell (p := ⟨w.heap.size, 1, none⟩) (by simp)
      have f2 : w.heap.size < w1.heap.size := by have := hg.size; simp at this; omega
      have hg := below_after hg
      simp at f0 f1
      obtain ⟨z0, z1, z2, z3, z4, z5, z6, z7, z8, _⟩ := past16 f2
      go_wp2_with fail
      refine (begin_no _ _ _ _ _ h).mono ?_; rintro e w2 ⟨rfl, c1, c2, c3, rfl⟩
      go_wp2_with (first
        | (go_at_call 15; refine (fresh_any _ _ _ _).mono ?_; rintro e w' ⟨rfl, c7, rfl⟩))
      go_ret
      exact ⟨rfl, by go_grown⟩

theorem roundBegins_walk (a b pn next : Int) (w : World) (_ha : (Lit.int .u64 a).wf = true) (hb : (Lit.int .u64 b).wf = true) (hpn : (Lit.int .u64 pn).wf = true) (_hn : (Lit.int .u64 next).wf = true) :
    Calls Try.prog 3 #[.agg #[.int .u64 a, .int .u64 b], .int .u64 pn, .int .u64 next] w fun e w' => e = .returned (.bool true) ∧ Below w.heap.size w w' :=
  roundBegins_any a b pn next (word_of_wf hb) (word_of_wf hpn) w
theorem roundEnds_walk (a b pn next less : Int) (w : World) (_ha : (Lit.int .u64 a).wf = true) (hb : (Lit.int .u64 b).wf = true) (hpn : (Lit.int .u64 pn).wf = true) (hn : (Lit.int .u64 next).wf = true) (hl : (Lit.int .u64 less).wf = true) :
    Calls Try.prog 5 #[.agg #[.int .u64 a, .int .u64 b], .int .u64 pn, .int .u64 next, .int .u64 less] w fun e w' => e = .returned (.bool true) ∧ Below w.heap.size w w' :=
  roundEnds_any a b pn next less (word_of_wf hb) (word_of_wf hpn) (word_of_wf hn) (word_of_wf hl) w
end Go.Proofs.Ytommldjoehjijaa
