/-
  THE WALKS of the laws of chapter 3.
-/
import Derived.Test.YtdnbaapgejdghaaCubeWalks
namespace Go.Proofs.Ytdnbaapgejdghaa
open Go.RowKit

theorem cube_is {r hi lo : Int} (hh : Word hi) (hl : Word lo) (hr : IsRoot r hi lo) (w : World) :
    Calls Try.prog 9 #[.int .u64 hi, .int .u64 lo] w fun e w' => e = .returned (.int .u64 r) ∧ w = w' :=
  (cube_any hi lo hh hl w).mono fun _ _ ⟨_, hs, he, hw⟩ => ⟨by rw [he, root_one hs hr], hw⟩
theorem root_small {r hi lo : Int} (hh : Word hi) (hl : Word lo) (h : IsRoot r hi lo) : r < 8796093022208 := by
  obtain ⟨h0, h1, _⟩ := h
  obtain ⟨_, _⟩ := hh; obtain ⟨_, _⟩ := hl
  by_cases c : 8796093022208 ≤ r
  · have := cube_mono (show (0 : Int) ≤ 8796093022208 by decide) c
    omega
  · omega
theorem succ_cube (a : Int) : (a + 1) * (a + 1) * (a + 1) = a * a * a + 3 * (a * a) + 3 * a + 1 := by
  simp only [Int.add_mul, Int.mul_add, Int.one_mul, Int.mul_one]
  omega
theorem cube_lt {a b : Int} (h0 : 0 ≤ a) (h : a < b) : a * a * a < b * b * b := by
  have h1 := cube_mono (show 0 ≤ a + 1 by omega) (show a + 1 ≤ b by omega)
  have h2 := succ_cube a
  have := Int.mul_nonneg h0 h0
  omega
theorem below_true {r hi lo : Int} (h : r * r * r ≤ hi * 18446744073709551616 + lo) : belowB r hi lo = true := by unfold belowB; simpa using h
theorem below_false {r hi lo : Int} (h : hi * 18446744073709551616 + lo < r * r * r) : belowB r hi lo = false := by unfold belowB; simpa using h

theorem wd {x : Int} (h0 : 0 ≤ x) (h1 : x < 18446744073709551616) : Word x := ⟨h0, h1⟩
theorem alive_below (w : World) : Calls Try.prog 11 #[.int .u64 3, .int .u64 0, .int .u64 27] w fun e w' => e = .returned (.bool true) ∧ w = w' := by
  have h := below_any 3 0 27 (by unfold Word; decide) (by unfold Word; decide) (by unfold Word; decide) w
  rw [below_true (by decide)] at h
  exact h
theorem alive_below26 (w : World) : Calls Try.prog 11 #[.int .u64 3, .int .u64 0, .int .u64 26] w fun e w' => e = .returned (.bool false) ∧ w = w' := by
  have h := below_any 3 0 26 (by unfold Word; decide) (by unfold Word; decide) (by unfold Word; decide) w
  rw [below_false (by decide)] at h
  exact h
theorem root_alive (w : World) : Calls Try.prog 8 #[] w fun e w' => e = .returned (.bool true) ∧ w = w' := by
  go_enter Try.func8, Try.ntmps8
  go_wp2_with fail
  refine (cube_is (r := 3) (by unfold Word; decide) (by unfold Word; decide) (by unfold IsRoot; decide) _).mono ?_; rintro e w' ⟨rfl, rfl⟩
  go_wp2_with fail
  refine (cube_is (r := 2) (by unfold Word; decide) (by unfold Word; decide) (by unfold IsRoot; decide) _).mono ?_; rintro e w' ⟨rfl, rfl⟩
  go_wp2_with fail
  refine (cube_is (r := 2642245) (by unfold Word; decide) (by unfold Word; decide) (by unfold IsRoot; decide) _).mono ?_; rintro e w' ⟨rfl, rfl⟩
  go_wp2_with fail
  refine (alive_below _).mono ?_; rintro e w' ⟨rfl, rfl⟩
  go_wp2_with fail
  refine (alive_below26 _).mono ?_; rintro e w' ⟨rfl, rfl⟩
  go_wp2_with fail
  go_ret
  exact ⟨rfl, rfl⟩

theorem rootTells_walk (hi lo : Int) (w : World) (wh : (Lit.int .u64 hi).wf = true) (wl : (Lit.int .u64 lo).wf = true) :
    Calls Try.prog 3 #[.int .u64 hi, .int .u64 lo] w fun e w' => e = .returned (.bool true) ∧ Below w.heap.size w w' := by
  have hh := word_of_wf wh
  have hl := word_of_wf wl
  clear wh wl
  go_enter Try.func3, Try.ntmps3
  go_wp2_with fail
  refine (root_alive _).mono ?_; rintro e w' ⟨rfl, rfl⟩
  go_wp2_with fail
  refine (cube_any hi lo hh hl _).mono ?_; rintro e w' ⟨r, hr, rfl, rfl⟩
  go_wp2_with fail
  refine (cube1_any hi lo hh hl _).mono ?_; rintro e w1 ⟨s, hs, rfl, hg⟩
  obtain rfl := root_one hr hs
  go_wp2_with fail
  go_ret
  exact ⟨rfl, hg⟩

theorem rootBelow_walk (r hi lo : Int) (w : World) (wr : (Lit.int .u64 r).wf = true) (wh : (Lit.int .u64 hi).wf = true) (wl : (Lit.int .u64 lo).wf = true) :
    Calls Try.prog 4 #[.int .u64 r, .int .u64 hi, .int .u64 lo] w fun e w' => e = .returned (.bool true) ∧ Below w.heap.size w w' := by
  have hr := word_of_wf wr
  have hh := word_of_wf wh
  have hl := word_of_wf wl
  clear wr wh wl
  go_enter Try.func4, Try.ntmps4
  go_wp2_with fail
  refine (root_alive _).mono ?_; rintro e w' ⟨rfl, rfl⟩
  go_wp2_with fail
  refine (below_any r hi lo hr hh hl _).mono ?_; rintro e w' ⟨rfl, rfl⟩
  go_wp2_with fail
  refine (under_any r hi lo hr hh hl _).mono ?_; rintro e w1 ⟨rfl, hg⟩
  go_wp2_with fail
  go_ret
  exact ⟨rfl, hg⟩

theorem rootBetween_walk (hi lo : Int) (w : World) (wh : (Lit.int .u64 hi).wf = true) (wl : (Lit.int .u64 lo).wf = true) :
    Calls Try.prog 5 #[.int .u64 hi, .int .u64 lo] w fun e w' => e = .returned (.bool true) ∧ Below w.heap.size w w' := by
  have hh := word_of_wf wh
  have hl := word_of_wf wl
  clear wh wl
  go_enter Try.func5, Try.ntmps5
  go_wp2_with fail
  refine (root_alive _).mono ?_; rintro e w' ⟨rfl, rfl⟩
  go_wp2_with fail
  refine (cube_any hi lo hh hl _).mono ?_; rintro e w' ⟨r, hr, rfl, rfl⟩
  have hs := root_small hh hl hr
  have h0 := hr.1
  have b1 := below_true hr.2.1
  have b2 := below_false hr.2.2
  have k1 := fun w => below_any r hi lo (wd h0 (by omega)) hh hl w
  have k2 := fun w => below_any (r + 1) hi lo (wd (by omega) (by omega)) hh hl w
  rw [b1] at k1
  rw [b2] at k2
  have K1 := Lib.hid k1
  have K2 := Lib.hid k2
  clear k1 k2 b1 b2
  go_wp2_with fail
  refine (K1.out _).mono ?_; rintro e w' ⟨rfl, rfl⟩
  go_wp2_with fail
  refine (K2.out _).mono ?_; rintro e w' ⟨rfl, rfl⟩
  go_wp2_with fail
  go_ret
  exact ⟨rfl, Below.refl _ _⟩

theorem rootCubes_walk (x : Int) (w : World) (wx : (Lit.int .u32 x).wf = true) :
    Calls Try.prog 6 #[.int .u32 x] w fun e w' => e = .returned (.bool true) ∧ Below w.heap.size w w' := by
  obtain ⟨x0, x1⟩ := u32_of_wf wx
  clear wx
  have n0 : 0 ≤ x % 2642245 := by omega
  have n1 : x % 2642245 < 2642245 := by omega
  by_cases hz : x % 2642245 = 0
  · have hzb : (x % 2642245 == 0) = true := by simp [hz]
    clear hz
    go_enter Try.func6, Try.ntmps6
    go_wp2_with fail
    refine (root_alive _).mono ?_; rintro e w' ⟨rfl, rfl⟩
    go_wp2_with fail
    refine (root_alive _).mono ?_; rintro e w' ⟨rfl, rfl⟩
    go_wp2_with fail
    go_ret
    exact ⟨rfl, Below.refl _ _⟩
  · have hzb : (x % 2642245 == 0) = false := by simp [hz]
    have n2 : 1 ≤ x % 2642245 := by omega
    have m1 := cube_mono n0 (show x % 2642245 ≤ 2642244 by omega)
    have m2 := cube_mono (show (0 : Int) ≤ 1 by decide) n2
    have m3 := Int.mul_nonneg n0 n0
    have m4 : x % 2642245 * (x % 2642245) ≤ 2642244 * 2642244 := Int.mul_le_mul (by omega) (by omega) n0 (by decide)
    have m5 := cube_lt n0 (show x % 2642245 < x % 2642245 + 1 by omega)
    have m6 := cube_lt (show 0 ≤ x % 2642245 - 1 by omega) (show x % 2642245 - 1 < x % 2642245 by omega)
    have k1 := fun w => cube_is (r := x % 2642245) (hi := 0) (lo := x % 2642245 * (x % 2642245) * (x % 2642245)) (by unfold Word; decide) (wd (by omega) (by omega)) ⟨n0, by omega, by omega⟩ w
    have e1 : x % 2642245 - 1 + 1 = x % 2642245 := by omega
    have k2 := fun w => cube_is (r := x % 2642245 - 1) (hi := 0) (lo := x % 2642245 * (x % 2642245) * (x % 2642245) - 1) (by unfold Word; decide) (wd (by omega) (by omega)) ⟨by omega, by omega, by rw [e1]; omega⟩ w
    have m7 : x % 2642245 * (x % 2642245) < 18446744073709551616 := by omega
    have m8 : x % 2642245 * (x % 2642245) * (x % 2642245) < 18446744073709551616 := by omega
    have m9 : 1 ≤ x % 2642245 * (x % 2642245) * (x % 2642245) := by omega
    have K1 := Lib.hid k1
    have K2 := Lib.hid k2
    clear k1 k2 e1 hz m1 m2 m4 m5 m6
    go_enter Try.func6, Try.ntmps6
    go_wp2_with fail
    refine (root_alive _).mono ?_; rintro e w' ⟨rfl, rfl⟩
    go_wp2_with fail
    refine (K1.out _).mono ?_; rintro e w' ⟨rfl, rfl⟩
    go_wp2_with fail
    refine (K2.out _).mono ?_; rintro e w' ⟨rfl, rfl⟩
    go_wp2_with fail
    go_ret
    exact ⟨rfl, Below.refl _ _⟩

theorem root_mono {x y hi lo hi' lo' : Int} (h : IsRoot x hi lo) (h' : IsRoot y hi' lo') (hle : hi * 18446744073709551616 + lo ≤ hi' * 18446744073709551616 + lo') : x ≤ y := by
  obtain ⟨a0, a1, a2⟩ := h; obtain ⟨b0, b1, b2⟩ := h'
  by_cases c : y < x
  · have := cube_mono (show 0 ≤ y + 1 by omega) (show y + 1 ≤ x by omega)
    omega
  · omega
theorem twice_cube (a : Int) : (2 * a) * (2 * a) * (2 * a) = 8 * (a * a * a) := by
  have e1 : (2 * a) * (2 * a) = 4 * (a * a) := by
    rw [Int.mul_assoc, Int.mul_comm a (2 * a), Int.mul_assoc, ← Int.mul_assoc]
    rfl
  rw [e1, Int.mul_assoc, Int.mul_comm (a * a) (2 * a), Int.mul_assoc, ← Int.mul_assoc, Int.mul_comm a (a * a)]
  rfl
theorem root_eight {x z a : Int} (h : IsRoot x 0 a) (h' : IsRoot z 0 (8 * a)) : 2 * x ≤ z ∧ z ≤ 2 * x + 1 := by
  obtain ⟨a0, a1, a2⟩ := h; obtain ⟨b0, b1, b2⟩ := h'
  have t1 := twice_cube x
  have t2 := twice_cube (x + 1)
  constructor
  · by_cases c : z < 2 * x
    · have := cube_mono (show 0 ≤ z + 1 by omega) (show z + 1 ≤ 2 * x by omega)
      omega
    · omega
  · by_cases c : 2 * x + 1 < z
    · have := cube_mono (show 0 ≤ 2 * (x + 1) by omega) (show 2 * (x + 1) ≤ z by omega)
      omega
    · omega
set_option maxHeartbeats 800000 in
theorem rootRises_walk (a b : Int) (w : World) (wa : (Lit.int .u64 a).wf = true) (wb : (Lit.int .u64 b).wf = true) :
    Calls Try.prog 7 #[.int .u64 a, .int .u64 b] w fun e w' => e = .returned (.bool true) ∧ Below w.heap.size w w' := by
  have ha := word_of_wf wa
  have hb := word_of_wf wb
  clear wa wb
  obtain ⟨a0, a1⟩ := id ha
  obtain ⟨b0, b1⟩ := id hb
  by_cases h1 : b < a
  · go_enter Try.func7, Try.ntmps7
    go_wp2_with fail
    refine (root_alive _).mono ?_; rintro e w' ⟨rfl, rfl⟩
    go_wp2_with fail
    refine (root_alive _).mono ?_; rintro e w' ⟨rfl, rfl⟩
    go_wp2_with fail
    go_ret
    exact ⟨rfl, Below.refl _ _⟩
  · have h1' : decide (b < a) = false := by simp; omega
    by_cases h2 : 1152921504606846976 < b
    · clear h1
      go_enter Try.func7, Try.ntmps7
      go_wp2_with fail
      refine (root_alive _).mono ?_; rintro e w' ⟨rfl, rfl⟩
      go_wp2_with fail
      refine (root_alive _).mono ?_; rintro e w' ⟨rfl, rfl⟩
      go_wp2_with fail
      go_ret
      exact ⟨rfl, Below.refl _ _⟩
    · have h2' : decide (1152921504606846976 < b) = false := by simp; omega
      have ab : a ≤ b := by omega
      have b2 : b ≤ 1152921504606846976 := by omega
      clear h1 h2
      have h8 : Word (8 * a) := wd (by omega) (by omega)
      go_enter Try.func7, Try.ntmps7
      go_wp2_with fail
      refine (root_alive _).mono ?_; rintro e w' ⟨rfl, rfl⟩
      go_wp2_with fail
      refine (cube_any 0 a (by unfold Word; decide) ha _).mono ?_; rintro e w' ⟨x, hx, rfl, rfl⟩
      go_wp2_with fail
      refine (cube_any 0 b (by unfold Word; decide) hb _).mono ?_; rintro e w' ⟨y, hy, rfl, rfl⟩
      go_wp2_with fail
      refine (cube_any 0 (8 * a) (by unfold Word; decide) h8 _).mono ?_; rintro e w' ⟨z, hz, rfl, rfl⟩
      have xs := root_small (by unfold Word; decide) ha hx
      have ys := root_small (by unfold Word; decide) hb hy
      have xy := root_mono hx hy (by omega)
      obtain ⟨z1, z2⟩ := root_eight hx hz
      have x0 := hx.1
      have d1 : decide (x ≤ y) = true := by simp [xy]
      have d2 : decide (2 * x ≤ z) = true := by simp [z1]
      have d3 : decide (z ≤ 2 * x + 1) = true := by simp [z2]
      go_wp2_with fail
      refine (cube_any a b ha hb _).mono ?_; rintro e w' ⟨u, hu, rfl, rfl⟩
      have yu := root_mono hy hu (by omega)
      have d4 : decide (y ≤ u) = true := by simp [yu]
      go_wp2_with fail
      refine (cube_is (by unfold Word; decide) hb hy _).mono ?_; rintro e w' ⟨rfl, rfl⟩
      go_wp2_with fail
      go_ret
      exact ⟨rfl, Below.refl _ _⟩
end Go.Proofs.Ytdnbaapgejdghaa
