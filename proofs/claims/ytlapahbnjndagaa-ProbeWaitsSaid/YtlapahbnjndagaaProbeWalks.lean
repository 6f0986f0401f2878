/-
  THE WALKS of package probe (chapter 19) and of the reference's functions.
-/
import Derived.Test.YtlapahbnjndagaaClockWalks
import Derived.Deep.QuietTactic
import Derived.BigQuiet
import Derived.Deep.RegionHeld3
namespace Go.Proofs.Ytlapahbnjndagaa
open Go.RowKit

def firedI (c : Int) : Int := min (max c 0) 59 + 1
theorem fired_any (c f now : Int) (w : World) :
    Calls Try.prog 17 #[.agg #[.int .i64 c, .int .u64 f], .int .u64 now] w fun e w' => e = .returned (.agg #[.int .i64 (firedI c), .int .u64 now]) ∧ ∃ c1 c2, w' = (w.alloc (.cells c1 24)).alloc (.cells c2 24) := by
  have h1 : 0 ≤ min (max c 0) 59 := by omega
  have h2 : min (max c 0) 59 ≤ 59 := by omega
  go_enter Try.func17, Try.ntmps17
  go_wp2
  go_returns
  exact ⟨rfl, _, _, rfl⟩
theorem fired1_any (c f now : Int) (w : World) :
    Calls Try.prog 18 #[.agg #[.int .i64 c, .int .u64 f], .int .u64 now] w fun e w' => e = .returned (.agg #[.int .i64 (firedI c), .int .u64 now]) ∧ ∃ c1 c2, w' = (w.alloc (.cells c1 24)).alloc (.cells c2 24) := by
  have h1 : 0 ≤ min (max c 0) 59 := by omega
  have h2 : min (max c 0) 59 ≤ 59 := by omega
  go_enter Try.func18, Try.ntmps18
  go_wp2
  go_returns
  exact ⟨rfl, _, _, rfl⟩
theorem calm_any (c f now : Int) (w : World) :
    Calls Try.prog 19 #[.agg #[.int .i64 c, .int .u64 f], .int .u64 now] w fun e w' => e = .returned (.agg #[.int .i64 0, .int .u64 now]) ∧ ∃ c1 c2, w' = (w.alloc (.cells c1 24)).alloc (.cells c2 24) := by
  go_enter Try.func19, Try.ntmps19
  go_wp2
  go_returns
  exact ⟨rfl, _, _, rfl⟩
theorem sent_any (c f now : Int) (w : World) :
    Calls Try.prog 20 #[.agg #[.int .i64 c, .int .u64 f], .int .u64 now] w fun e w' => e = .returned (.agg #[.int .i64 c, .int .u64 now]) ∧ ∃ c1 c2, w' = (w.alloc (.cells c1 24)).alloc (.cells c2 24) := by
  go_enter Try.func20, Try.ntmps20
  go_wp2
  go_returns
  exact ⟨rfl, _, _, rfl⟩

theorem deadline_no (c f t most : Int) (w : World) :
    Calls Try.prog 15 #[.agg #[.int .i64 c, .int .u64 f], .bool false, .int .u64 t, .int .u64 most] w fun e w' => e = .returned (.int .u64 18446744073709551615) ∧ ∃ n, w' = (w.alloc (.cells #[.int .i64 c, .int .u64 f] 24)).drewN n := by
  go_enter Try.func15, Try.ntmps15
  go_wp2_with fail
  go_ret
  exact ⟨rfl, 0, rfl⟩
def deadI (c f t most : Int) : Int := addI f (backI t c most)
theorem backI_word {t c most : Int} (ht : Word t) (hm : Word most) : Word (backI t c most) := by
  have := shlI_word (n := c) ht
  obtain ⟨_, _⟩ := this; obtain ⟨_, _⟩ := hm
  unfold backI; exact ⟨by omega, by omega⟩
theorem deadline_yes (c f t most : Int) (hf : Word f) (ht : Word t) (hm : Word most) (hc : c ≤ 9223372036854775807) (w : World) :
    Calls Try.prog 15 #[.agg #[.int .i64 c, .int .u64 f], .bool true, .int .u64 t, .int .u64 most] w fun e w' => e = .returned (.int .u64 (deadI c f t most)) ∧ ∃ n, w' = (w.alloc (.cells #[.int .i64 c, .int .u64 f] 24)).drewN n := by
  have hb := backI_word (c := c) ht hm
  go_enter Try.func15, Try.ntmps15
  go_wp2_with fail
  go_quiet (first | ((go_at_call 35; exact Calls.quiet_of_same ((back_any t c most ht hc _).mono fun e w' h => ⟨h.1, h.2.symm⟩))) | ((go_at_call 34; exact Calls.quiet_of_same ((after_any f _ hf hb _).mono fun e w' h => ⟨h.1, h.2.symm⟩))))
  go_wp2_with fail
  go_ret
  exact ⟨rfl, _, rfl⟩
theorem deadline1_no (c f t most : Int) (w : World) :
    Calls Try.prog 16 #[.agg #[.int .i64 c, .int .u64 f], .bool false, .int .u64 t, .int .u64 most] w fun e w' => e = .returned (.int .u64 18446744073709551615) ∧ ∃ n, w' = (w.alloc (.cells #[.int .i64 c, .int .u64 f] 24)).drewN n := by
  go_enter Try.func16, Try.ntmps16
  go_wp2_with fail
  go_ret
  exact ⟨rfl, 0, rfl⟩
theorem deadline1_yes (c f t most : Int) (hf : Word f) (ht : Word t) (hm : Word most) (hc : c ≤ 9223372036854775807) (w : World) :
    Calls Try.prog 16 #[.agg #[.int .i64 c, .int .u64 f], .bool true, .int .u64 t, .int .u64 most] w fun e w' => e = .returned (.int .u64 (deadI c f t most)) ∧ ∃ n, w' = (w.alloc (.cells #[.int .i64 c, .int .u64 f] 24)).drewN n := by
  have hb := backI_word (c := c) ht hm
  go_enter Try.func16, Try.ntmps16
  go_wp2_with fail
  go_quiet (first | ((go_at_call 36; exact Calls.quiet_of_same ((back1_any t c most ht hc _).mono fun e w' h => ⟨h.1, h.2.symm⟩))) | ((go_at_call 21; exact Calls.quiet_of_same ((add1_any f _ hf hb _).mono fun e w' h => ⟨h.1, h.2.symm⟩))))
  go_wp2_with fail
  go_ret
  exact ⟨rfl, _, rfl⟩

theorem below_box {w : World} (o : Obj) (n : Nat) : Below w.heap.size w ((w.alloc o).drewN n) := below_drewN ((Below.refl _ _).alloc (Nat.le_refl _) o) n
theorem alive_dead (w : World) : Calls Try.prog 15 #[.agg #[.int .i64 0, .int .u64 5], .bool true, .int .u64 10, .int .u64 99] w fun e w' => e = .returned (.int .u64 15) ∧ Below w.heap.size w w' := by
  have h := deadline_yes 0 5 10 99 (by unfold Word; decide) (by unfold Word; decide) (by unfold Word; decide) (by decide) w
  rw [show deadI 0 5 10 99 = 15 by decide +kernel] at h
  exact h.mono fun e w' ⟨he, n, hw⟩ => ⟨he, by rw [hw]; exact below_box _ _⟩
theorem alive_fired (w : World) : Calls Try.prog 17 #[.agg #[.int .i64 2, .int .u64 5], .int .u64 9] w fun e w' => e = .returned (.agg #[.int .i64 3, .int .u64 9]) ∧ ∃ c1 c2, w' = (w.alloc (.cells c1 24)).alloc (.cells c2 24) := by
  have h := fired_any 2 5 9 w
  rw [show firedI 2 = 3 by decide] at h
  exact h
theorem probe_alive (w : World) : Calls Try.prog 14 #[] w fun e w' => e = .returned (.bool true) ∧ Below w.heap.size w w' := by
  go_enter Try.func14, Try.ntmps14
  go_wp2_with fail
  refine (alive_dead _).mono ?_; rintro e w1 ⟨rfl, hg1⟩
  go_wp2_with fail
  refine (deadline_no _ _ _ _ _).mono ?_; rintro e w2 ⟨rfl, n, hw⟩
  have hg2 : Below w1.heap.size w1 w2 := by rw [hw]; exact below_box _ _
  clear hw
  have hg : Below w.heap.size w w2 := hg1.trans (hg2.mono hg1.size)
  have hs := hg.size
  go_wp2_with fail
  refine (alive_fired _).mono ?_; rintro e w3 ⟨rfl, c1, c2, rfl⟩
  go_wp2_with fail
  refine (calm_any _ _ _ _).mono ?_; rintro e w3 ⟨rfl, c3, c4, rfl⟩
  go_wp2_with fail
  refine (sent_any _ _ _ _).mono ?_; rintro e w3 ⟨rfl, c5, c6, rfl⟩
  go_wp2_with fail
  go_ret
  exact ⟨rfl, by go_grown⟩
end Go.Proofs.Ytlapahbnjndagaa
