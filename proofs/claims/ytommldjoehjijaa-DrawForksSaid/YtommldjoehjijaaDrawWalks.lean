/-
  THE WALKS of package draw's functions of numbers (chapter 5), and of the laws over them.
-/
import Derived.Test.YtommldjoehjijaaDrawPlain
import Derived.Lib.Hide
namespace Go.Proofs.Ytommldjoehjijaa
open Go.RowKit

theorem mix_any (k : Int) (hk : Word k) (w : World) :
    Calls Try.prog 17 #[.int .u64 k] w fun e w' => e = .returned (.int .u64 (mixI k)) ∧ w = w' := by
  obtain ⟨h1, h2⟩ := hk
  go_enter Try.func17, Try.ntmps17
  go_wp2
  go_ret
  exact ⟨by unfold mixI stageI; rfl, rfl⟩
theorem mix1_any (k : Int) (hk : Word k) (w : World) :
    Calls Try.prog 18 #[.int .u64 k] w fun e w' => e = .returned (.int .u64 (mixI k)) ∧ w = w' := by
  obtain ⟨h1, h2⟩ := hk
  go_enter Try.func18, Try.ntmps18
  go_wp2
  go_ret
  exact ⟨by unfold mixI stageI; rfl, rfl⟩
theorem ret_int {k : IntKind} {a b : Int} (h : a = b) : Ending.returned (.int k a) = .returned (.int k b) := by rw [h]
theorem ret_bool {a b : Bool} (h : a = b) : Ending.returned (.bool a) = .returned (.bool b) := by rw [h]
theorem low_any (x n : Int) (hk : Word x) (w : World) :
    Calls Try.prog 23 #[.int .u64 x, .int .i64 n] w fun e w' => e = .returned (.int .u64 (lowI x n)) ∧ w = w' := by
  have hb := fun a b => low_bits (x := x) (n := n) hk a b
  obtain ⟨h1, h2⟩ := hk
  by_cases a : n < 1
  · go_enter Try.func23, Try.ntmps23
    go_wp2
    go_ret
    exact ⟨ret_int (by unfold lowI; rw [if_pos a]), rfl⟩
  · by_cases b : 64 ≤ n
    · go_enter Try.func23, Try.ntmps23
      go_wp2
      go_ret
      exact ⟨ret_int (by unfold lowI; rw [if_neg (by omega), if_pos b]), rfl⟩
    · have hb' := hb (by omega) (by omega)
      have n1 : 1 ≤ n := by omega
      have n2 : n < 64 := by omega
      clear hb
      have HB := Lib.hid hb'
      clear hb'
      go_enter Try.func23, Try.ntmps23
      go_wp2
      go_ret
      exact ⟨ret_int (HB.out.trans (by unfold lowI; rw [if_neg (by omega), if_neg (by omega)])), rfl⟩
theorem low1_any (x n : Int) (hk : Word x) (w : World) :
    Calls Try.prog 24 #[.int .u64 x, .int .i64 n] w fun e w' => e = .returned (.int .u64 (lowI x n)) ∧ w = w' := by
  have hb := fun a b => low_bits (x := x) (n := n) hk a b
  obtain ⟨h1, h2⟩ := hk
  by_cases a : n < 1
  · go_enter Try.func24, Try.ntmps24
    go_wp2
    go_ret
    exact ⟨ret_int (by unfold lowI; rw [if_pos a]), rfl⟩
  · by_cases b : 64 ≤ n
    · go_enter Try.func24, Try.ntmps24
      go_wp2
      go_ret
      exact ⟨ret_int (by unfold lowI; rw [if_neg (by omega), if_pos b]), rfl⟩
    · have hb' := hb (by omega) (by omega)
      have n1 : 1 ≤ n := by omega
      have n2 : n < 64 := by omega
      clear hb
      have HB := Lib.hid hb'
      clear hb'
      go_enter Try.func24, Try.ntmps24
      go_wp2
      go_ret
      exact ⟨ret_int (HB.out.trans (by unfold lowI; rw [if_neg (by omega), if_neg (by omega)])), rfl⟩
def coinB (x : Int) : Bool := x / 9223372036854775808 == 1
theorem coin_any (x : Int) (hk : Word x) (w : World) :
    Calls Try.prog 25 #[.int .u64 x] w fun e w' => e = .returned (.bool (coinB x)) ∧ w = w' := by
  obtain ⟨h1, h2⟩ := hk
  go_enter Try.func25, Try.ntmps25
  go_wp2
  go_ret
  exact ⟨rfl, rfl⟩
theorem coin1_any (x : Int) (hk : Word x) (w : World) :
    Calls Try.prog 26 #[.int .u64 x] w fun e w' => e = .returned (.bool (coinB x)) ∧ w = w' := by
  obtain ⟨h1, h2⟩ := hk
  go_enter Try.func26, Try.ntmps26
  go_wp2
  go_ret
  exact ⟨rfl, rfl⟩
def skipsB (x o : Int) : Bool := decide (0 < o) && (x % o == 0)
theorem skips_any (x o : Int) (hk : Word x) (ho : Word o) (w : World) :
    Calls Try.prog 27 #[.int .u64 x, .int .u64 o] w fun e w' => e = .returned (.bool (skipsB x o)) ∧ w = w' := by
  obtain ⟨h1, h2⟩ := hk
  obtain ⟨h3, h4⟩ := ho
  by_cases h : 0 < o
  · go_enter Try.func27, Try.ntmps27
    go_wp2
    go_ret
    exact ⟨ret_bool (by unfold skipsB; simp [h]), rfl⟩
  · have h' : decide (0 < o) = false := by simp; omega
    go_enter Try.func27, Try.ntmps27
    go_wp2
    go_ret
    exact ⟨ret_bool (by unfold skipsB; simp [h']), rfl⟩
theorem skips1_any (x o : Int) (hk : Word x) (ho : Word o) (w : World) :
    Calls Try.prog 28 #[.int .u64 x, .int .u64 o] w fun e w' => e = .returned (.bool (skipsB x o)) ∧ w = w' := by
  obtain ⟨h1, h2⟩ := hk
  obtain ⟨h3, h4⟩ := ho
  by_cases h : 0 < o
  · go_enter Try.func28, Try.ntmps28
    go_wp2
    go_ret
    exact ⟨ret_bool (by unfold skipsB; simp [h]), rfl⟩
  · have h' : decide (0 < o) = false := by simp; omega
    go_enter Try.func28, Try.ntmps28
    go_wp2
    go_ret
    exact ⟨ret_bool (by unfold skipsB; simp [h']), rfl⟩

theorem draw_alive (w : World) : Calls Try.prog 16 #[] w fun e w' => e = .returned (.bool true) ∧ Below w.heap.size w w' := by
  go_enter Try.func16, Try.ntmps16
  go_wp2
  go_ret
  exact ⟨rfl, by go_grown⟩
end Go.Proofs.Ytommldjoehjijaa
