/-
  THE WALKS of the laws of chapter 19.
-/
import Derived.Test.YtlapahbnjndagaaProbeWalks
namespace Go.Proofs.Ytlapahbnjndagaa
open Go.RowKit

set_option maxHeartbeats 800000 in
theorem probeDeadlines_walk (c f : Int) (fl : Bool) (t most : Int) (w : World) (wc : (Lit.int .i64 c).wf = true) (wf_ : (Lit.int .u64 f).wf = true) (wt : (Lit.int .u64 t).wf = true) (wm : (Lit.int .u64 most).wf = true) :
    Calls Try.prog 3 #[.agg #[.int .i64 c, .int .u64 f], .bool fl, .int .u64 t, .int .u64 most] w fun e w' => e = .returned (.bool true) ∧ Below w.heap.size w w' := by
  have hc := (int_of_wf wc).2
  have hf := word_of_wf wf_
  have ht := word_of_wf wt
  have hm := word_of_wf wm
  clear wc wf_ wt wm
  go_enter Try.func3, Try.ntmps3
  go_wp2_with fail
  refine (probe_alive _).mono ?_; rintro e w1 ⟨rfl, hg⟩
  have f0 := hg.cell (p := ⟨w.heap.size, 0, none⟩) (by simp)
  have f1 := hg.cell (p := ⟨w.heap.size, 1, none⟩) (by simp)
  have f2 : w.heap.size < w1.heap.size := by have := hg.size; simp at this; omega
  have hg := below_after hg
  simp at f0 f1
  obtain ⟨z0, z1, z2, z3, z4, _⟩ := past16 f2
  cases fl
  · go_wp2_with fail
    go_region_held3 (fun w' => w'.cell? ⟨w.heap.size, 0, none⟩ = some (.int .i64 c) ∧ w'.cell? ⟨w.heap.size, 1, none⟩ = some (.int .u64 f)) (simp [go_sem, *])
      (first
        | (go_at_call 15; refine (deadline_no c f t most _).mono ?_; rintro e w' ⟨rfl, n1, rfl⟩)
        | (go_at_call 16; refine (deadline1_no c f t most _).mono ?_; rintro e w' ⟨rfl, n2, rfl⟩))
    go_wp2_with fail
    go_ret
    exact ⟨rfl, below_drewN ((below_drewN (hg.alloc hg.size _) _).alloc (by simp; omega) _) _⟩
  · go_wp2_with fail
    go_region_held3 (fun w' => w'.cell? ⟨w.heap.size, 0, none⟩ = some (.int .i64 c) ∧ w'.cell? ⟨w.heap.size, 1, none⟩ = some (.int .u64 f)) (simp [go_sem, *])
      (first
        | (go_at_call 15; refine (deadline_yes c f t most hf ht hm hc _).mono ?_; rintro e w' ⟨rfl, n1, rfl⟩)
        | (go_at_call 16; refine (deadline1_yes c f t most hf ht hm hc _).mono ?_; rintro e w' ⟨rfl, n2, rfl⟩))
    go_wp2_with fail
    go_ret
    exact ⟨rfl, below_drewN ((below_drewN (hg.alloc hg.size _) _).alloc (by simp; omega) _) _⟩

set_option maxHeartbeats 1600000 in
theorem probeMoves_walk (c f now : Int) (w : World) (_wc : (Lit.int .i64 c).wf = true) (_wf : (Lit.int .u64 f).wf = true) (_wn : (Lit.int .u64 now).wf = true) :
    Calls Try.prog 4 #[.agg #[.int .i64 c, .int .u64 f], .int .u64 now] w fun e w' => e = .returned (.bool true) ∧ Below w.heap.size w w' := by
  go_enter Try.func4, Try.ntmps4
  go_wp2_with fail
  refine (probe_alive _).mono ?_; rintro e w1 ⟨rfl, hg⟩
  have f0 := hg.cell (p := ⟨w.heap.size, 0, none⟩) (by simp)
  have f1 := hg.cell (p := ⟨w.heap.size, 1, none⟩) (by simp)
  have f2 : w.heap.size < w1.heap.size := by have := hg.size; simp at this; omega
  have hg := below_after hg
  simp at f0 f1
  obtain ⟨z0, z1, z2, z3, z4, z5, z6, z7, z8, z9, z10, _⟩ := past16 f2
  go_wp2_with fail
  go_region_held3 (fun w' => w'.cell? ⟨w.heap.size, 0, none⟩ = some (.int .i64 c) ∧ w'.cell? ⟨w.heap.size, 1, none⟩ = some (.int .u64 f)) (simp [go_sem, *])
    (first
      | (go_at_call 17; refine (fired_any c f now _).mono ?_; rintro e w' ⟨rfl, c1, c2, rfl⟩)
      | (go_at_call 18; refine (fired1_any c f now _).mono ?_; rintro e w' ⟨rfl, c3, c4, rfl⟩)
      | (go_at_call 19; refine (calm_any c f now _).mono ?_; rintro e w' ⟨rfl, c5, c6, rfl⟩)
      | (go_at_call 20; refine (sent_any c f now _).mono ?_; rintro e w' ⟨rfl, c7, c8, rfl⟩))
  go_wp2_with fail
  go_ret
  exact ⟨rfl, by go_grown⟩

theorem shlI_ge {t c : Int} (ht : Word t) : t ≤ shlI t c := by
  obtain ⟨t0, t1⟩ := ht
  have hp : (1 : Int) ≤ 2 ^ c.toNat := by
    have := Nat.two_pow_pos c.toNat
    have : (1 : Nat) ≤ 2 ^ c.toNat := this
    exact_mod_cast this
  have := Int.mul_le_mul_of_nonneg_left hp t0
  unfold shlI; split <;> omega
theorem dead_bounds {c f t most : Int} (hf : Word f) (ht : Word t) (hm : Word most) :
    f ≤ deadI c f t most ∧ deadI c f t most ≤ addI f most ∧ addI f (min t most) ≤ deadI c f t most ∧ Word (deadI c f t most) := by
  have h1 := shlI_ge (c := c) ht
  have h2 := backI_word (c := c) ht hm
  have h3 := addI_word hf h2
  obtain ⟨_, _⟩ := hf; obtain ⟨_, _⟩ := ht; obtain ⟨_, _⟩ := hm
  obtain ⟨_, _⟩ := h2
  refine ⟨?_, ?_, ?_, h3⟩ <;> unfold deadI addI <;> unfold backI at * <;> (repeat' split) <;> omega
set_option maxHeartbeats 1600000 in
theorem probeWaits_walk (c f t most : Int) (w : World) (wc : (Lit.int .i64 c).wf = true) (wf_ : (Lit.int .u64 f).wf = true) (wt : (Lit.int .u64 t).wf = true) (wm : (Lit.int .u64 most).wf = true) :
    Calls Try.prog 6 #[.agg #[.int .i64 c, .int .u64 f], .int .u64 t, .int .u64 most] w fun e w' => e = .returned (.bool true) ∧ Below w.heap.size w w' := by
  have hc := (int_of_wf wc).2
  have hf := word_of_wf wf_
  have ht := word_of_wf wt
  have hm := word_of_wf wm
  clear wc wf_ wt wm
  have hmin : Word (min t most) := by obtain ⟨_, _⟩ := ht; obtain ⟨_, _⟩ := hm; exact ⟨by omega, by omega⟩
  have k1 := fun w => deadline_yes c f t most hf ht hm hc w
  have k2 := fun w => add1_any f most hf hm w
  have k3 := fun w => add1_any f (min t most) hf hmin w
  obtain ⟨b1, b2, b3, _⟩ := dead_bounds (c := c) hf ht hm
  generalize deadI c f t most = dd at *
  generalize addI f most = x1 at *
  generalize addI f (min t most) = x2 at *
  have K1 := Lib.hid k1
  have K2 := Lib.hid k2
  have K3 := Lib.hid k3
  clear k1 k2 k3 hf ht hm hmin
  have d1 : decide (f ≤ dd) = true := by simp [b1]
  have d2 : decide (dd ≤ x1) = true := by simp [b2]
  have d3 : decide (x2 ≤ dd) = true := by simp [b3]
  go_enter Try.func6, Try.ntmps6
  go_wp2_with fail
  refine (probe_alive _).mono ?_; rintro e w1 ⟨rfl, hg⟩
  have f0 := hg.cell (p := ⟨w.heap.size, 0, none⟩) (by simp)
  have f1 := hg.cell (p := ⟨w.heap.size, 1, none⟩) (by simp)
  have f2 : w.heap.size < w1.heap.size := by have := hg.size; simp at this; omega
  have hg := below_after hg
  simp at f0 f1
  obtain ⟨z0, z1, z2, z3, z4, z5, z6, z7, z8, z9, z10, _⟩ := past16 f2
  go_wp2_with fail
  refine (K1.out _).mono ?_; rintro e w' ⟨rfl, n1, rfl⟩
  go_wp2_with fail
  refine (K2.out _).mono ?_; rintro e w' ⟨rfl, rfl⟩
  go_wp2_with fail
  refine (K3.out _).mono ?_; rintro e w' ⟨rfl, rfl⟩
  go_wp2_with fail
  go_ret
  exact ⟨rfl, below_drewN (hg.alloc hg.size _) _⟩
end Go.Proofs.Ytlapahbnjndagaa
