/-
  THE WALKS of the laws of chapter 1.
-/
import Derived.Test.YtlapahbnjndagaaSatWalks
namespace Go.Proofs.Ytlapahbnjndagaa
open Go.RowKit

theorem satTells_walk (a b : Int) (w : World) (wa : (Lit.int .u64 a).wf = true) (wb : (Lit.int .u64 b).wf = true) :
    Calls Try.prog 7 #[.int .u64 a, .int .u64 b] w fun e w' => e = .returned (.bool true) ∧ Below w.heap.size w w' := by
  have ha := word_of_wf wa
  have hb := word_of_wf wb
  clear wa wb
  go_enter Try.func7, Try.ntmps7
  go_wp2_with (first
    | (go_at_call 23; refine (sat_alive _).mono ?_; rintro e w' ⟨rfl, rfl⟩)
    | (go_at_call 24; refine (add_any _ _ ha hb _).mono ?_; rintro e w' ⟨rfl, rfl⟩)
    | (go_at_call 21; refine (add1_any _ _ ha hb _).mono ?_; rintro e w' ⟨rfl, rfl⟩)
    | (go_at_call 25; refine (sub_any _ _ ha hb _).mono ?_; rintro e w' ⟨rfl, rfl⟩)
    | (go_at_call 26; refine (sub1_any _ _ ha hb _).mono ?_; rintro e w' ⟨rfl, rfl⟩)
    | (go_at_call 27; refine (mul_any _ _ ha hb _).mono ?_; rintro e w' ⟨rfl, rfl⟩)
    | (go_at_call 22; refine (mul1_any _ _ ha hb _).mono ?_; rintro e w' ⟨rfl, rfl⟩))
  go_ret
  exact ⟨rfl, Below.refl _ _⟩

theorem satShifts_walk (a n : Int) (w : World) (wa : (Lit.int .u64 a).wf = true) (wn : (Lit.int .i64 n).wf = true) :
    Calls Try.prog 10 #[.int .u64 a, .int .i64 n] w fun e w' => e = .returned (.bool true) ∧ Below w.heap.size w w' := by
  have ha := word_of_wf wa
  have hn := (int_of_wf wn).2
  clear wa wn
  go_enter Try.func10, Try.ntmps10
  go_wp2_with (first
    | (go_at_call 23; refine (sat_alive _).mono ?_; rintro e w' ⟨rfl, rfl⟩)
    | (go_at_call 28; refine (shl_any _ _ ha hn _).mono ?_; rintro e w' ⟨rfl, rfl⟩)
    | (go_at_call 29; refine (shl1_any _ _ ha hn _).mono ?_; rintro e w' ⟨rfl, rfl⟩))
  go_ret
  exact ⟨rfl, Below.refl _ _⟩

theorem clampI_in {x lo hi : Int} (h : lo ≤ hi) : lo ≤ clampI x lo hi ∧ clampI x lo hi ≤ hi := by
  unfold clampI; (repeat' split) <;> omega
theorem satClamps_walk (x lo hi : Int) (w : World) (_wx : (Lit.int .u64 x).wf = true) (_wl : (Lit.int .u64 lo).wf = true) (_wh : (Lit.int .u64 hi).wf = true) :
    Calls Try.prog 13 #[.int .u64 x, .int .u64 lo, .int .u64 hi] w fun e w' => e = .returned (.bool true) ∧ Below w.heap.size w w' := by

  by_cases h : lo ≤ hi
  · obtain ⟨c1, c2⟩ := clampI_in (x := x) h
    have d1 : decide (clampI x lo hi < lo) = false := by simp; omega
    have d2 : decide (hi < clampI x lo hi) = false := by simp; omega
    go_enter Try.func13, Try.ntmps13
    go_wp2_with (first
      | (go_at_call 23; refine (sat_alive _).mono ?_; rintro e w' ⟨rfl, rfl⟩)
      | (go_at_call 32; refine (clamp_any _ _ _ _).mono ?_; rintro e w' ⟨rfl, rfl⟩)
      | (go_at_call 33; refine (clamp1_any _ _ _ _).mono ?_; rintro e w' ⟨rfl, rfl⟩))
    go_ret
    exact ⟨rfl, Below.refl _ _⟩
  · have d1 : decide (lo ≤ hi) = false := by simp; omega
    go_enter Try.func13, Try.ntmps13
    go_wp2_with (first
      | (go_at_call 23; refine (sat_alive _).mono ?_; rintro e w' ⟨rfl, rfl⟩)
      | (go_at_call 32; refine (clamp_any _ _ _ _).mono ?_; rintro e w' ⟨rfl, rfl⟩)
      | (go_at_call 33; refine (clamp1_any _ _ _ _).mono ?_; rintro e w' ⟨rfl, rfl⟩))
    go_ret
    exact ⟨rfl, Below.refl _ _⟩

theorem addI_comm (a b : Int) : addI b a = addI a b := by unfold addI; rw [Int.add_comm]
theorem mulI_comm (a b : Int) : mulI b a = mulI a b := by unfold mulI; rw [Int.mul_comm]
theorem satBack_walk (a b : Int) (w : World) (wa : (Lit.int .u64 a).wf = true) (wb : (Lit.int .u64 b).wf = true) :
    Calls Try.prog 9 #[.int .u64 a, .int .u64 b] w fun e w' => e = .returned (.bool true) ∧ Below w.heap.size w w' := by
  have ha := word_of_wf wa
  have hb := word_of_wf wb
  clear wa wb
  have hx := addI_word ha hb
  by_cases h : a + b < 18446744073709551615
  · have e1 : addI a b = a + b := by unfold addI; rw [if_pos (by omega)]
    have e2 : subI (a + b) a = b := by obtain ⟨_, _⟩ := ha; obtain ⟨_, _⟩ := hb; unfold subI; rw [if_neg (by omega)]; omega
    have e3 : subI (a + b) b = a := by obtain ⟨_, _⟩ := ha; obtain ⟨_, _⟩ := hb; unfold subI; rw [if_neg (by omega)]; omega
    have e4 : subI a (a + b) = 0 := by obtain ⟨_, _⟩ := ha; obtain ⟨_, _⟩ := hb; unfold subI; split <;> omega
    have hne : (a + b == 18446744073709551615) = false := by simp; omega
    rw [e1] at hx
    have c1 := fun w => add_any a b ha hb w
    rw [e1] at c1
    have c2 := fun w => sub_any (a + b) a hx ha w
    rw [e2] at c2
    have c3 := fun w => sub_any (a + b) b hx hb w
    rw [e3] at c3
    have c4 := fun w => sub_any a (a + b) ha hx w
    rw [e4] at c4
    have C1 := Lib.hid c1
    have C2 := Lib.hid c2
    have C3 := Lib.hid c3
    have C4 := Lib.hid c4
    clear c1 c2 c3 c4 e1 e2 e3 e4
    go_enter Try.func9, Try.ntmps9
    go_wp2_with fail
    refine (C1.out _).mono ?_; rintro e w' ⟨rfl, rfl⟩
    go_wp2_with fail
    refine (sat_alive _).mono ?_; rintro e w' ⟨rfl, rfl⟩
    go_wp2_with fail
    refine (C2.out _).mono ?_; rintro e w' ⟨rfl, rfl⟩
    go_wp2_with fail
    refine (C3.out _).mono ?_; rintro e w' ⟨rfl, rfl⟩
    go_wp2_with fail
    refine (C4.out _).mono ?_; rintro e w' ⟨rfl, rfl⟩
    go_wp2_with fail
    go_ret
    exact ⟨rfl, Below.refl _ _⟩
  · have e1 : addI a b = 18446744073709551615 := by obtain ⟨_, _⟩ := ha; obtain ⟨_, _⟩ := hb; unfold addI; split <;> omega
    rw [e1] at hx
    have e2 : subI 18446744073709551615 a ≤ b := by obtain ⟨_, _⟩ := ha; obtain ⟨_, _⟩ := hb; unfold subI; split <;> omega
    have d2 : decide (subI 18446744073709551615 a ≤ b) = true := by simp [e2]
    have c1 := fun w => add_any a b ha hb w
    rw [e1] at c1
    have C1 := Lib.hid c1
    clear c1 e1 e2
    go_enter Try.func9, Try.ntmps9
    go_wp2_with fail
    refine (C1.out _).mono ?_; rintro e w' ⟨rfl, rfl⟩
    go_wp2_with fail
    refine (sat_alive _).mono ?_; rintro e w' ⟨rfl, rfl⟩
    go_wp2_with fail
    refine (sub_any _ _ hx ha _).mono ?_; rintro e w' ⟨rfl, rfl⟩
    go_wp2_with fail
    go_ret
    exact ⟨rfl, Below.refl _ _⟩

theorem mul_mono {a b c : Int} (ha : 0 ≤ a) (h : b ≤ c) : mulI a b ≤ mulI a c := by
  have := Int.mul_le_mul_of_nonneg_left h ha
  unfold mulI; split <;> split <;> omega
theorem add_mono {a b c : Int} (h : b ≤ c) : addI a b ≤ addI a c := by
  unfold addI; split <;> split <;> omega
theorem sub_mono {a b c : Int} (h : b ≤ c) : subI a c ≤ subI a b := by
  unfold subI; split <;> split <;> omega
theorem mul_ge {a b : Int} (ha : Word a) (h : 0 < b) : a ≤ mulI a b := by
  obtain ⟨_, _⟩ := ha
  have := Int.mul_le_mul_of_nonneg_left (show 1 ≤ b by omega) (show 0 ≤ a by omega)
  unfold mulI; split <;> omega

set_option maxHeartbeats 800000 in
theorem satOrder_walk (a b c : Int) (w : World) (wa : (Lit.int .u64 a).wf = true) (wb : (Lit.int .u64 b).wf = true) (wc : (Lit.int .u64 c).wf = true) :
    Calls Try.prog 8 #[.int .u64 a, .int .u64 b, .int .u64 c] w fun e w' => e = .returned (.bool true) ∧ Below w.heap.size w w' := by
  have ha := word_of_wf wa
  have hb := word_of_wf wb
  have hc := word_of_wf wc
  clear wa wb wc
  have c1 := fun w => add_any a b ha hb w
  have c2 := fun w => mul_any a b ha hb w
  have c3 := fun w => add_any b a hb ha w
  have c4 := fun w => mul_any b a hb ha w
  have c5 := fun w => add_any a c ha hc w
  have c6 := fun w => mul_any a c ha hc w
  have c7 := fun w => sub_any a b ha hb w
  have c8 := fun w => sub_any a c ha hc w
  rw [addI_comm] at c3
  rw [mulI_comm] at c4
  have d1 : decide (addI a b < a) = false := by obtain ⟨_, _⟩ := ha; obtain ⟨_, _⟩ := hb; unfold addI; simp; split <;> omega
  have d2 : decide (addI a b < b) = false := by obtain ⟨_, _⟩ := ha; obtain ⟨_, _⟩ := hb; unfold addI; simp; split <;> omega
  have d3 : 0 < b → decide (mulI a b < a) = false := by intro h; have := mul_ge ha h; simp; omega
  have C1 := Lib.hid c1
  have C2 := Lib.hid c2
  have C3 := Lib.hid c3
  have C4 := Lib.hid c4
  have C5 := Lib.hid c5
  have C6 := Lib.hid c6
  have C7 := Lib.hid c7
  have C8 := Lib.hid c8
  clear c1 c2 c3 c4 c5 c6 c7 c8
  by_cases h : b ≤ c
  · have d4 : decide (addI a b ≤ addI a c) = true := by simp [add_mono h]
    have d5 : decide (mulI a b ≤ mulI a c) = true := by simp [mul_mono ha.1 h]
    have d6 : decide (subI a c ≤ subI a b) = true := by simp [sub_mono h]
    by_cases hz : 0 < b
    · have d3 := d3 hz
      go_enter Try.func8, Try.ntmps8
      go_wp2_with fail
      refine (C1.out _).mono ?_; rintro e w' ⟨rfl, rfl⟩
      go_wp2_with fail
      refine (C2.out _).mono ?_; rintro e w' ⟨rfl, rfl⟩
      go_wp2_with fail
      refine (sat_alive _).mono ?_; rintro e w' ⟨rfl, rfl⟩
      go_wp2_with fail
      refine (C3.out _).mono ?_; rintro e w' ⟨rfl, rfl⟩
      go_wp2_with fail
      refine (C4.out _).mono ?_; rintro e w' ⟨rfl, rfl⟩
      go_wp2_with fail
      refine (C5.out _).mono ?_; rintro e w' ⟨rfl, rfl⟩
      go_wp2_with fail
      refine (C6.out _).mono ?_; rintro e w' ⟨rfl, rfl⟩
      go_wp2_with fail
      refine (C7.out _).mono ?_; rintro e w' ⟨rfl, rfl⟩
      go_wp2_with fail
      refine (C8.out _).mono ?_; rintro e w' ⟨rfl, rfl⟩
      go_wp2_with fail
      go_ret
      exact ⟨rfl, Below.refl _ _⟩
    · have hz2 : decide (0 < b) = false := by simp; omega
      clear d3
      go_enter Try.func8, Try.ntmps8
      go_wp2_with fail
      refine (C1.out _).mono ?_; rintro e w' ⟨rfl, rfl⟩
      go_wp2_with fail
      refine (C2.out _).mono ?_; rintro e w' ⟨rfl, rfl⟩
      go_wp2_with fail
      refine (sat_alive _).mono ?_; rintro e w' ⟨rfl, rfl⟩
      go_wp2_with fail
      refine (C3.out _).mono ?_; rintro e w' ⟨rfl, rfl⟩
      go_wp2_with fail
      refine (C4.out _).mono ?_; rintro e w' ⟨rfl, rfl⟩
      go_wp2_with fail
      refine (C5.out _).mono ?_; rintro e w' ⟨rfl, rfl⟩
      go_wp2_with fail
      refine (C6.out _).mono ?_; rintro e w' ⟨rfl, rfl⟩
      go_wp2_with fail
      refine (C7.out _).mono ?_; rintro e w' ⟨rfl, rfl⟩
      go_wp2_with fail
      refine (C8.out _).mono ?_; rintro e w' ⟨rfl, rfl⟩
      go_wp2_with fail
      go_ret
      exact ⟨rfl, Below.refl _ _⟩
  · have hh : c ≤ b := by omega
    have dh : decide (b ≤ c) = false := by simp; omega
    have d4 : decide (addI a c ≤ addI a b) = true := by simp [add_mono hh]
    have d5 : decide (mulI a c ≤ mulI a b) = true := by simp [mul_mono ha.1 hh]
    have d6 : decide (subI a b ≤ subI a c) = true := by simp [sub_mono hh]
    have hz : 0 < b := by have := hc.1; omega
    have d3 := d3 hz
    go_enter Try.func8, Try.ntmps8
    go_wp2_with fail
    refine (C1.out _).mono ?_; rintro e w' ⟨rfl, rfl⟩
    go_wp2_with fail
    refine (C2.out _).mono ?_; rintro e w' ⟨rfl, rfl⟩
    go_wp2_with fail
    refine (sat_alive _).mono ?_; rintro e w' ⟨rfl, rfl⟩
    go_wp2_with fail
    refine (C3.out _).mono ?_; rintro e w' ⟨rfl, rfl⟩
    go_wp2_with fail
    refine (C4.out _).mono ?_; rintro e w' ⟨rfl, rfl⟩
    go_wp2_with fail
    refine (C5.out _).mono ?_; rintro e w' ⟨rfl, rfl⟩
    go_wp2_with fail
    refine (C6.out _).mono ?_; rintro e w' ⟨rfl, rfl⟩
    go_wp2_with fail
    refine (C7.out _).mono ?_; rintro e w' ⟨rfl, rfl⟩
    go_wp2_with fail
    refine (C8.out _).mono ?_; rintro e w' ⟨rfl, rfl⟩
    go_wp2_with fail
    go_ret
    exact ⟨rfl, Below.refl _ _⟩

theorem shl_shl {a m n : Int} (h0 : 0 ≤ m) (h1 : 0 ≤ n) : shlI (shlI a m) n = shlI a (m + n) := by
  obtain ⟨m, rfl⟩ := Int.eq_ofNat_of_zero_le h0
  obtain ⟨n, rfl⟩ := Int.eq_ofNat_of_zero_le h1
  have e : ((m : Int) + n).toNat = m + n := by omega
  have hp : (1 : Int) ≤ 2 ^ n := by
    have := Nat.two_pow_pos n
    have : (1 : Nat) ≤ 2 ^ n := this
    exact_mod_cast this
  have e2 : a * 2 ^ (m + n) = a * 2 ^ m * 2 ^ n := by rw [Int.pow_add, Int.mul_assoc]
  by_cases h : a * 2 ^ m < 18446744073709551616
  · have : shlI a m = a * 2 ^ m := by unfold shlI; simp only [Int.toNat_natCast]; rw [if_pos h]
    rw [this]
    unfold shlI
    rw [e, e2]
    simp only [Int.toNat_natCast]
  · have : shlI a m = 18446744073709551615 := by unfold shlI; simp only [Int.toNat_natCast]; rw [if_neg h]
    rw [this, shlI_top]
    unfold shlI
    rw [e, e2]
    have h3 : a * 2 ^ m * 1 ≤ a * 2 ^ m * 2 ^ n := Int.mul_le_mul_of_nonneg_left hp (by omega)
    rw [if_neg (by omega)]
theorem shl_one {a : Int} : shlI a 1 = addI a a := by
  unfold shlI addI
  have : a * 2 ^ (1 : Int).toNat = a + a := by
    have : (1 : Int).toNat = 1 := by decide
    rw [this]; omega
  rw [this]

set_option maxHeartbeats 800000 in
theorem satSteps_walk (a m n : Int) (w : World) (wa : (Lit.int .u64 a).wf = true) (wm : (Lit.int .u8 m).wf = true) (wn : (Lit.int .u8 n).wf = true) :
    Calls Try.prog 11 #[.int .u64 a, .int .u8 m, .int .u8 n] w fun e w' => e = .returned (.bool true) ∧ Below w.heap.size w w' := by
  have ha := word_of_wf wa
  obtain ⟨m0, m1⟩ := byte_of_wf wm
  obtain ⟨n0, n1⟩ := byte_of_wf wn
  clear wa wm wn
  have c1 := fun w => shl_any a m ha (by omega) w
  have c2 := fun w => shl_any (shlI a m) n (shlI_word ha) (by omega) w
  have c3 := fun w => shl_any a (m + n) ha (by omega) w
  have c4 := fun w => shl_any a 1 ha (by decide) w
  have c5 := fun w => add_any a a ha ha w
  rw [shl_shl m0 n0] at c2
  rw [shl_one] at c4
  have C1 := Lib.hid c1
  have C2 := Lib.hid c2
  have C3 := Lib.hid c3
  have C4 := Lib.hid c4
  have C5 := Lib.hid c5
  clear c1 c2 c3 c4 c5
  · go_enter Try.func11, Try.ntmps11
    go_wp2_with fail
    refine (sat_alive _).mono ?_; rintro e w' ⟨rfl, rfl⟩
    go_wp2_with fail
    refine (C1.out _).mono ?_; rintro e w' ⟨rfl, rfl⟩
    go_wp2_with fail
    refine (C2.out _).mono ?_; rintro e w' ⟨rfl, rfl⟩
    go_wp2_with fail
    refine (C3.out _).mono ?_; rintro e w' ⟨rfl, rfl⟩
    go_wp2_with fail
    refine (C4.out _).mono ?_; rintro e w' ⟨rfl, rfl⟩
    go_wp2_with fail
    refine (C5.out _).mono ?_; rintro e w' ⟨rfl, rfl⟩
    go_wp2_with fail
    go_ret
    exact ⟨rfl, Below.refl _ _⟩

theorem diff_comm (a b : Int) : diffI b a = diffI a b := by unfold diffI; split <;> split <;> omega
theorem diff_tri {a b c : Int} (ha : Word a) (hb : Word b) : diffI a b ≤ addI (diffI a c) (diffI c b) := by
  obtain ⟨_, _⟩ := ha; obtain ⟨_, _⟩ := hb
  unfold addI diffI; (repeat' split) <;> omega
set_option maxHeartbeats 800000 in
theorem satApart_walk (a b c : Int) (w : World) (wa : (Lit.int .u64 a).wf = true) (wb : (Lit.int .u64 b).wf = true) (wc : (Lit.int .u64 c).wf = true) :
    Calls Try.prog 12 #[.int .u64 a, .int .u64 b, .int .u64 c] w fun e w' => e = .returned (.bool true) ∧ Below w.heap.size w w' := by
  have ha := word_of_wf wa
  have hb := word_of_wf wb
  have hc := word_of_wf wc
  clear wa wb wc
  have c1 := fun w => diff_any a b ha hb w
  have c2 := fun w => diff1_any a b ha hb w
  have c3 := fun w => diff_any b a hb ha w
  have c5 := fun w => diff_any a c ha hc w
  have c6 := fun w => diff_any c b hc hb w
  have c7 := fun w => add_any (diffI a c) (diffI c b) (diffI_word ha hc) (diffI_word hc hb) w
  rw [diff_comm] at c3
  have d1 : decide (diffI a b ≤ addI (diffI a c) (diffI c b)) = true := by simp [diff_tri ha hb]
  have C1 := Lib.hid c1
  have C2 := Lib.hid c2
  have C3 := Lib.hid c3
  have C5 := Lib.hid c5
  have C6 := Lib.hid c6
  have C7 := Lib.hid c7
  clear c1 c2 c3 c5 c6 c7
  have hm : Word (min a b) := by obtain ⟨_, _⟩ := ha; obtain ⟨_, _⟩ := hb; exact ⟨by omega, by omega⟩
  have c4 := fun w => add_any (min a b) (diffI a b) hm (diffI_word ha hb) w
  have e : addI (min a b) (diffI a b) = max a b := by obtain ⟨_, _⟩ := ha; obtain ⟨_, _⟩ := hb; unfold addI diffI; (repeat' split) <;> omega
  rw [e] at c4
  have C4 := Lib.hid c4
  clear c4 e
  go_enter Try.func12, Try.ntmps12
  go_wp2_with fail
  refine (sat_alive _).mono ?_; rintro e w' ⟨rfl, rfl⟩
  go_wp2_with fail
  refine (C1.out _).mono ?_; rintro e w' ⟨rfl, rfl⟩
  go_wp2_with fail
  refine (C2.out _).mono ?_; rintro e w' ⟨rfl, rfl⟩
  go_wp2_with fail
  refine (C3.out _).mono ?_; rintro e w' ⟨rfl, rfl⟩
  go_wp2_with fail
  refine (C4.out _).mono ?_; rintro e w' ⟨rfl, rfl⟩
  go_wp2_with fail
  refine (C5.out _).mono ?_; rintro e w' ⟨rfl, rfl⟩
  go_wp2_with fail
  refine (C6.out _).mono ?_; rintro e w' ⟨rfl, rfl⟩
  go_wp2_with fail
  refine (C7.out _).mono ?_; rintro e w' ⟨rfl, rfl⟩
  go_wp2_with fail
  go_ret
  exact ⟨rfl, Below.refl _ _⟩
end Go.Proofs.Ytlapahbnjndagaa
