/-
  THE WALKS of package sat (chapter 1) and of the reference's functions.
-/
import Derived.Test.YtlapahbnjndagaaSatPlain
import Derived.Test.YtlapahbnjndagaaShelf
import Derived.Laws.Externs
import Derived.Lib.Hide
namespace Go.Proofs.Ytlapahbnjndagaa
open Go.RowKit

theorem ret_int {k : IntKind} {a b : Int} (h : a = b) : Ending.returned (.int k a) = .returned (.int k b) := by rw [h]
theorem ret_bool {a b : Bool} (h : a = b) : Ending.returned (.bool a) = .returned (.bool b) := by rw [h]

theorem add64_0 (x y : Int) (hx : 0 ≤ x) (hy : 0 ≤ y) (w : World) : (callFunc 37 #[.int .u64 x, .int .u64 y, .int .u64 0]).run Try.prog w =
    .ok (.value (.tuple #[.int .u64 ((x + y) % 18446744073709551616), .int .u64 ((x + y) / 18446744073709551616)])) w := by
  rw [run_callFunc_extern Try.func37 (by kernel_rfl) (by kernel_rfl) (by kernel_rfl) (e := add64Entry) (by kernel_rfl), run_add64 x y 0 (by omega) (by omega) (by omega) (by omega)]
  simp only [Result.andThen, Int.add_zero]

theorem add_any (a b : Int) (ha : Word a) (hb : Word b) (w : World) :
    Calls Try.prog 24 #[.int .u64 a, .int .u64 b] w fun e w' => e = .returned (.int .u64 (addI a b)) ∧ w = w' := by
  obtain ⟨a0, a1⟩ := ha; obtain ⟨b0, b1⟩ := hb
  have ka := fun w => add64_0 a b a0 b0 w
  by_cases h : a + b < 18446744073709551616
  · have e1 : (a + b) / 18446744073709551616 = 0 := by omega
    have e2 : (a + b) % 18446744073709551616 = a + b := by omega
    rw [e1, e2] at ka
    clear e1 e2
    go_enter Try.func24, Try.ntmps24
    go_wp2
    go_ret
    exact ⟨ret_int (by unfold addI; rw [if_pos h]), rfl⟩
  · have e1 : (a + b) / 18446744073709551616 = 1 := by omega
    rw [e1] at ka
    clear e1
    go_enter Try.func24, Try.ntmps24
    go_wp2
    go_ret
    exact ⟨ret_int (by unfold addI; rw [if_neg (by omega)]), rfl⟩
theorem sub_any (a b : Int) (ha : Word a) (hb : Word b) (w : World) :
    Calls Try.prog 25 #[.int .u64 a, .int .u64 b] w fun e w' => e = .returned (.int .u64 (subI a b)) ∧ w = w' := by
  obtain ⟨a0, a1⟩ := ha; obtain ⟨b0, b1⟩ := hb
  by_cases h : a < b
  all_goals
    go_enter Try.func25, Try.ntmps25
    go_wp2
    go_ret
    exact ⟨ret_int (by unfold subI; first | rw [if_pos h] | rw [if_neg (by omega)]), rfl⟩
theorem mul_any (a b : Int) (ha : Word a) (hb : Word b) (w : World) :
    Calls Try.prog 27 #[.int .u64 a, .int .u64 b] w fun e w' => e = .returned (.int .u64 (mulI a b)) ∧ w = w' := by
  obtain ⟨a0, a1⟩ := ha; obtain ⟨b0, b1⟩ := hb
  obtain ⟨a, rfl⟩ := Int.eq_ofNat_of_zero_le a0
  obtain ⟨b, rfl⟩ := Int.eq_ofNat_of_zero_le b0
  have hm := fun w => Try.bits_Mul64 a b (by omega) (by omega) w
  by_cases h : a * b < 18446744073709551616
  · have e1 : a * b / 18446744073709551616 = 0 := Nat.div_eq_of_lt h
    have e2 : a * b % 18446744073709551616 = a * b := Nat.mod_eq_of_lt h
    rw [e1, e2] at hm
    clear e1 e2
    have HM := Lib.hid hm
    clear hm
    go_enter Try.func27, Try.ntmps27
    go_wp2_with (first | (go_at_call 38; refine (HM.out _).mono ?_; rintro e w' ⟨rfl, rfl⟩))
    go_ret
    exact ⟨ret_int (by rw [mulI_nat, if_pos (by omega), Int.natCast_mul]), rfl⟩
  · have e1 : 0 < a * b / 18446744073709551616 := Nat.div_pos (by omega) (by decide)
    have e3 : (((a * b / 18446744073709551616 : Nat) : Int) != 0) = true := by simp; omega
    have HM := Lib.hid hm
    clear hm
    generalize a * b / 18446744073709551616 = c at *
    go_enter Try.func27, Try.ntmps27
    go_wp2_with (first | (go_at_call 38; refine (HM.out _).mono ?_; rintro e w' ⟨rfl, rfl⟩))
    go_ret
    exact ⟨ret_int (by rw [mulI_nat, if_neg (by omega)]), rfl⟩
theorem diff_any (a b : Int) (ha : Word a) (hb : Word b) (w : World) :
    Calls Try.prog 30 #[.int .u64 a, .int .u64 b] w fun e w' => e = .returned (.int .u64 (diffI a b)) ∧ w = w' := by
  obtain ⟨a0, a1⟩ := ha; obtain ⟨b0, b1⟩ := hb
  by_cases h : a < b
  all_goals
    go_enter Try.func30, Try.ntmps30
    go_wp2
    all_goals go_ret
    all_goals exact ⟨ret_int (by unfold diffI; split <;> omega), rfl⟩
theorem clamp_any (x lo hi : Int) (w : World) :
    Calls Try.prog 32 #[.int .u64 x, .int .u64 lo, .int .u64 hi] w fun e w' => e = .returned (.int .u64 (clampI x lo hi)) ∧ w = w' := by
  by_cases h : hi < x <;> by_cases h2 : x < lo
  all_goals
    go_enter Try.func32, Try.ntmps32
    go_wp2
    go_ret
    exact ⟨ret_int (by unfold clampI; (repeat' split) <;> first | rfl | omega), rfl⟩
theorem clamp1_any (x lo hi : Int) (w : World) :
    Calls Try.prog 33 #[.int .u64 x, .int .u64 lo, .int .u64 hi] w fun e w' => e = .returned (.int .u64 (clampI x lo hi)) ∧ w = w' := by
  by_cases h : hi < x <;> by_cases h2 : x < lo
  all_goals
    go_enter Try.func33, Try.ntmps33
    go_wp2
    go_ret
    exact ⟨ret_int (by unfold clampI; (repeat' split) <;> first | rfl | omega), rfl⟩
theorem add1_any (a b : Int) (ha : Word a) (hb : Word b) (w : World) :
    Calls Try.prog 21 #[.int .u64 a, .int .u64 b] w fun e w' => e = .returned (.int .u64 (addI a b)) ∧ w = w' := by
  obtain ⟨a0, a1⟩ := ha; obtain ⟨b0, b1⟩ := hb
  by_cases h : 18446744073709551615 - b < a
  all_goals
    go_enter Try.func21, Try.ntmps21
    go_wp2
    go_ret
    exact ⟨ret_int (by unfold addI; split <;> omega), rfl⟩
theorem sub1_any (a b : Int) (ha : Word a) (hb : Word b) (w : World) :
    Calls Try.prog 26 #[.int .u64 a, .int .u64 b] w fun e w' => e = .returned (.int .u64 (subI a b)) ∧ w = w' := by
  obtain ⟨a0, a1⟩ := ha; obtain ⟨b0, b1⟩ := hb
  by_cases h : a < b
  all_goals
    go_enter Try.func26, Try.ntmps26
    go_wp2
    go_ret
    exact ⟨ret_int (by unfold subI; first | rw [if_pos h] | rw [if_neg (by omega)]), rfl⟩
theorem diff1_any (a b : Int) (ha : Word a) (hb : Word b) (w : World) :
    Calls Try.prog 31 #[.int .u64 a, .int .u64 b] w fun e w' => e = .returned (.int .u64 (diffI a b)) ∧ w = w' := by
  obtain ⟨a0, a1⟩ := ha; obtain ⟨b0, b1⟩ := hb
  by_cases h : b < a
  all_goals
    go_enter Try.func31, Try.ntmps31
    go_wp2
    go_ret
    exact ⟨ret_int (by unfold diffI; split <;> omega), rfl⟩

theorem shl_any (a n : Int) (ha : Word a) (hn : n ≤ 9223372036854775807) (w : World) :
    Calls Try.prog 28 #[.int .u64 a, .int .i64 n] w fun e w' => e = .returned (.int .u64 (shlI a n)) ∧ w = w' := by
  have a0 := ha.1
  have a1 := ha.2
  by_cases hz : a = 0
  · subst hz
    go_enter Try.func28, Try.ntmps28
    go_wp2_with fail
    go_ret
    exact ⟨ret_int shlI_of_zero.symm, rfl⟩
  · have hzb : (a == 0) = false := by simp [hz]
    by_cases h0 : n ≤ 0
    · have hs := shlI_zero ha h0
      go_enter Try.func28, Try.ntmps28
      go_wp2_with fail
      go_ret
      exact ⟨ret_int (shlI_zero ha (by omega)).symm, rfl⟩
    · have h0' : decide (n ≤ 0) = false := by simp; omega
      have n0 : 0 < n := by omega
      have hlz := fun w => Try.bits_LeadingZeros64 a w (by omega) (by omega)
      have hl := Lib.bitLen_le a.toNat 64 (by omega) (by omega)
      obtain ⟨_, hb⟩ := bitLen_bounds a.toNat (by omega) (by omega)
      have hb1 : Lib.bitLen a.toNat ≠ 0 := by intro hh; rw [hh] at hb; omega
      have l1 : (1 : Int) ≤ (Lib.bitLen a.toNat : Int) := by omega
      have l2 : (Lib.bitLen a.toNat : Int) ≤ 64 := by omega
      have HL := Lib.hid hlz
      clear hlz hb hb1 hl
      by_cases hf : n ≤ 64 - (Lib.bitLen a.toNat : Int)
      · obtain ⟨s1, s2⟩ := shlI_fits ha hz (by omega) hf
        have s0 : 0 ≤ a * 2 ^ n.toNat := Int.mul_nonneg a0 (Int.pow_nonneg (by decide))
        have HS := Lib.hid s1
        clear s1 hz h0
        generalize (Lib.bitLen a.toNat : Int) = L at *
        go_enter Try.func28, Try.ntmps28
        go_wp2_with (first | (go_at_call 39; refine (HL.out _).mono ?_; rintro e w' ⟨rfl, rfl⟩))
        go_ret
        exact ⟨ret_int HS.out.symm, rfl⟩
      · have s1 := shlI_over (n := n) ha hz (by omega)
        have HS := Lib.hid s1
        clear s1 hz h0
        generalize (Lib.bitLen a.toNat : Int) = L at *
        go_enter Try.func28, Try.ntmps28
        go_wp2_with (first | (go_at_call 39; refine (HL.out _).mono ?_; rintro e w' ⟨rfl, rfl⟩))
        go_ret
        exact ⟨ret_int HS.out.symm, rfl⟩

theorem mul1_any (a b : Int) (ha : Word a) (hb : Word b) (w : World) :
    Calls Try.prog 22 #[.int .u64 a, .int .u64 b] w fun e w' => e = .returned (.int .u64 (mulI a b)) ∧ w = w' := by
  obtain ⟨a0, a1⟩ := ha; obtain ⟨b0, b1⟩ := hb
  by_cases hz : a = 0
  · subst hz
    go_enter Try.func22, Try.ntmps22
    go_wp2_with fail
    go_ret
    exact ⟨ret_int (by unfold mulI; simp), rfl⟩
  · have hzb : (a != 0) = true := by simp [hz]
    have ap : 0 < a := by omega
    have key : b ≤ 18446744073709551615 / a ↔ b * a ≤ 18446744073709551615 := Int.le_ediv_iff_mul_le ap
    have hcm := Int.mul_comm b a
    have hnn := Int.mul_nonneg a0 b0
    by_cases h : 18446744073709551615 / a < b
    · have hg : 18446744073709551616 ≤ a * b := by omega
      have HG := Lib.hid hg
      clear hg key hz hcm
      go_enter Try.func22, Try.ntmps22
      go_wp2_with fail
      go_ret
      exact ⟨ret_int (by unfold mulI; rw [if_neg (Int.not_lt.2 HG.out)]), rfl⟩
    · have hg : a * b < 18446744073709551616 := by omega
      clear key hz hcm
      go_enter Try.func22, Try.ntmps22
      go_wp2_with fail
      go_ret
      exact ⟨ret_int (by unfold mulI; rw [if_pos hg]), rfl⟩

theorem shl1_any (a n : Int) (ha : Word a) (_hn : n ≤ 9223372036854775807) (w : World) :
    Calls Try.prog 29 #[.int .u64 a, .int .i64 n] w fun e w' => e = .returned (.int .u64 (shlI a n)) ∧ w = w' := by
  go_enter Try.func29, Try.ntmps29
  go_wp2_with fail
  go_loop [0, 5] (fun c i => ∃ (x k : Int), c = .int .u64 x ∧ i = .int .i64 k ∧ 0 ≤ k ∧ k ≤ 9223372036854775807 ∧ (0 ≤ n → k ≤ n) ∧ Word x ∧ Hid (shlI x (n - k) = shlI a n)) (fun _ i => (n - intOf i).toNat)
  case atStart => exact ⟨a, 0, rfl, rfl, by omega, by omega, fun h => h, ha, by rw [Int.sub_zero]; rfl⟩
  case round =>
    obtain ⟨x, k, rfl, rfl, k0, k1, kn, hx, hs⟩ := hrel
    obtain ⟨x0, x1⟩ := id hx
    by_cases hk : k < n
    · have kn := kn (by omega)
      by_cases hz : x = 0
      · subst hz
        go_wp2_with fail
        go_ret
        exact ⟨ret_int (shlI_of_zero.symm.trans hs), rfl⟩
      · have hzb : (x != 0) = true := by simp [hz]
        by_cases ht : x = 18446744073709551615
        · subst ht
          go_wp2_with fail
          go_ret
          exact ⟨ret_int (shlI_top.symm.trans hs), rfl⟩
        · have htb : (x != 18446744073709551615) = true := by simp [ht]
          by_cases hg : 9223372036854775807 < x
          · have e := shlI_big (n := n - k) hg (by omega)
            have E := Lib.hid (e.symm.trans hs)
            clear e hz ht
            go_wp2_with fail
            go_ret
            exact ⟨ret_int E.out, rfl⟩
          · have e := shlI_step (a := x) (n := n - k) (by omega)
            have e2 : n - k - 1 = n - (k + 1) := by omega
            rw [e2] at e
            have E : Hid (shlI (x * 2) (n - (k + 1)) = shlI a n) := Lib.hid (e.trans hs)
            clear e e2 hz ht
            go_wp2_with fail
            go_round
            case rel => exact ⟨x * 2, k + 1, rfl, rfl, by omega, by omega, fun _ => by omega, ⟨by omega, by omega⟩, E⟩
            case measure => simp [intOf]; omega
    · have e := shlI_zero (n := n - k) hx (by omega)
      have E := Lib.hid (e.symm.trans hs)
      clear e
      have hd : decide (k < n) = false := by simp; omega
      go_wp2_with fail
      go_ret
      exact ⟨ret_int E.out, rfl⟩

theorem alive_subI_3_5 (w : World) : Calls Try.prog 25 #[.int .u64 3, .int .u64 5] w fun e w' => e = .returned (.int .u64 0) ∧ w = w' := by
  have h := sub_any 3 5 (by unfold Word; decide) (by unfold Word; decide) w
  rw [show subI 3 5 = 0 by decide +kernel] at h
  exact h
theorem alive_shlI_1_64 (w : World) : Calls Try.prog 28 #[.int .u64 1, .int .i64 64] w fun e w' => e = .returned (.int .u64 18446744073709551615) ∧ w = w' := by
  have h := shl_any 1 64 (by unfold Word; decide) (by decide) w
  rw [show shlI 1 64 = 18446744073709551615 by decide +kernel] at h
  exact h
theorem alive_shlI_0_99 (w : World) : Calls Try.prog 28 #[.int .u64 0, .int .i64 99] w fun e w' => e = .returned (.int .u64 0) ∧ w = w' := by
  have h := shl_any 0 99 (by unfold Word; decide) (by decide) w
  rw [show shlI 0 99 = 0 by decide +kernel] at h
  exact h
theorem alive_addI_7 (w : World) : Calls Try.prog 24 #[.int .u64 18446744073709551615, .int .u64 1] w fun e w' => e = .returned (.int .u64 18446744073709551615) ∧ w = w' := by
  have h := add_any 18446744073709551615 1 (by unfold Word; decide) (by unfold Word; decide) w
  rw [show addI 18446744073709551615 1 = 18446744073709551615 by decide +kernel] at h
  exact h
theorem alive_mulI_3_5 (w : World) : Calls Try.prog 27 #[.int .u64 3, .int .u64 5] w fun e w' => e = .returned (.int .u64 15) ∧ w = w' := by
  have h := mul_any 3 5 (by unfold Word; decide) (by unfold Word; decide) w
  rw [show mulI 3 5 = 15 by decide +kernel] at h
  exact h
theorem alive_clampI_5_7 (w : World) : Calls Try.prog 32 #[.int .u64 5, .int .u64 7, .int .u64 9] w fun e w' => e = .returned (.int .u64 7) ∧ w = w' := by
  have h := clamp_any 5 7 9  w
  rw [show clampI 5 7 9 = 7 by decide +kernel] at h
  exact h
theorem alive_diffI_3_5 (w : World) : Calls Try.prog 30 #[.int .u64 3, .int .u64 5] w fun e w' => e = .returned (.int .u64 2) ∧ w = w' := by
  have h := diff_any 3 5 (by unfold Word; decide) (by unfold Word; decide) w
  rw [show diffI 3 5 = 2 by decide +kernel] at h
  exact h
theorem sat_alive (w : World) : Calls Try.prog 23 #[] w fun e w' => e = .returned (.bool true) ∧ w = w' := by
  go_enter Try.func23, Try.ntmps23
  go_wp2_with fail
  refine (alive_subI_3_5 _).mono ?_; rintro e w' ⟨rfl, rfl⟩
  go_wp2_with fail
  refine (alive_shlI_1_64 _).mono ?_; rintro e w' ⟨rfl, rfl⟩
  go_wp2_with fail
  refine (alive_shlI_0_99 _).mono ?_; rintro e w' ⟨rfl, rfl⟩
  go_wp2_with fail
  refine (alive_addI_7 _).mono ?_; rintro e w' ⟨rfl, rfl⟩
  go_wp2_with fail
  refine (alive_mulI_3_5 _).mono ?_; rintro e w' ⟨rfl, rfl⟩
  go_wp2_with fail
  refine (alive_clampI_5_7 _).mono ?_; rintro e w' ⟨rfl, rfl⟩
  go_wp2_with fail
  refine (alive_diffI_3_5 _).mono ?_; rintro e w' ⟨rfl, rfl⟩
  go_wp2_with fail
  go_ret
  exact ⟨rfl, rfl⟩
end Go.Proofs.Ytlapahbnjndagaa
