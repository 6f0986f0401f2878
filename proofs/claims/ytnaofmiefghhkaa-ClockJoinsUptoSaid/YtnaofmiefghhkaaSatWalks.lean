/-
  THE WALKS of package sat (chapter 1) and of the reference's functions.
-/
import Derived.Test.YtnaofmiefghhkaaSatPlain
import Derived.Test.YtnaofmiefghhkaaShelf
import Derived.Laws.Externs
import Derived.Lib.Hide
namespace Go.Proofs.Ytnaofmiefghhkaa
open Go.RowKit

theorem ret_int {k : IntKind} {a b : Int} (h : a = b) : Ending.returned (.int k a) = .returned (.int k b) := by rw [h]
theorem ret_bool {a b : Bool} (h : a = b) : Ending.returned (.bool a) = .returned (.bool b) := by rw [h]

theorem add64_0 (x y : Int) (hx : 0 ≤ x) (hy : 0 ≤ y) (w : World) : (callFunc 36 #[.int .u64 x, .int .u64 y, .int .u64 0]).run Try.prog w =
    .ok (.value (.tuple #[.int .u64 ((x + y) % 18446744073709551616), .int .u64 ((x + y) / 18446744073709551616)])) w := by
  rw [run_callFunc_extern Try.func36 (by kernel_rfl) (by kernel_rfl) (by kernel_rfl) (e := add64Entry) (by kernel_rfl), run_add64 x y 0 (by omega) (by omega) (by omega) (by omega)]
  simp only [Result.andThen, Int.add_zero]

theorem add_any (a b : Int) (ha : Word a) (hb : Word b) (w : World) :
    Calls Try.prog 32 #[.int .u64 a, .int .u64 b] w fun e w' => e = .returned (.int .u64 (addI a b)) ∧ w = w' := by
  obtain ⟨a0, a1⟩ := ha; obtain ⟨b0, b1⟩ := hb
  have ka := fun w => add64_0 a b a0 b0 w
  by_cases h : a + b < 18446744073709551616
  · have e1 : (a + b) / 18446744073709551616 = 0 := by omega
    have e2 : (a + b) % 18446744073709551616 = a + b := by omega
    rw [e1, e2] at ka
    clear e1 e2
    go_enter Try.func32, Try.ntmps32
    go_wp2
    go_ret
    exact ⟨ret_int (by unfold addI; rw [if_pos h]), rfl⟩
  · have e1 : (a + b) / 18446744073709551616 = 1 := by omega
    rw [e1] at ka
    clear e1
    go_enter Try.func32, Try.ntmps32
    go_wp2
    go_ret
    exact ⟨ret_int (by unfold addI; rw [if_neg (by omega)]), rfl⟩
theorem sub_any (a b : Int) (ha : Word a) (hb : Word b) (w : World) :
    Calls Try.prog 33 #[.int .u64 a, .int .u64 b] w fun e w' => e = .returned (.int .u64 (subI a b)) ∧ w = w' := by
  obtain ⟨a0, a1⟩ := ha; obtain ⟨b0, b1⟩ := hb
  by_cases h : a < b
  all_goals
    go_enter Try.func33, Try.ntmps33
    go_wp2
    go_ret
    exact ⟨ret_int (by unfold subI; first | rw [if_pos h] | rw [if_neg (by omega)]), rfl⟩
theorem add1_any (a b : Int) (ha : Word a) (hb : Word b) (w : World) :
    Calls Try.prog 23 #[.int .u64 a, .int .u64 b] w fun e w' => e = .returned (.int .u64 (addI a b)) ∧ w = w' := by
  obtain ⟨a0, a1⟩ := ha; obtain ⟨b0, b1⟩ := hb
  by_cases h : 18446744073709551615 - b < a
  all_goals
    go_enter Try.func23, Try.ntmps23
    go_wp2
    go_ret
    exact ⟨ret_int (by unfold addI; split <;> omega), rfl⟩
theorem sub1_any (a b : Int) (ha : Word a) (hb : Word b) (w : World) :
    Calls Try.prog 25 #[.int .u64 a, .int .u64 b] w fun e w' => e = .returned (.int .u64 (subI a b)) ∧ w = w' := by
  obtain ⟨a0, a1⟩ := ha; obtain ⟨b0, b1⟩ := hb
  by_cases h : a < b
  all_goals
    go_enter Try.func25, Try.ntmps25
    go_wp2
    go_ret
    exact ⟨ret_int (by unfold subI; first | rw [if_pos h] | rw [if_neg (by omega)]), rfl⟩
theorem shl_any (a n : Int) (ha : Word a) (hn : n ≤ 9223372036854775807) (w : World) :
    Calls Try.prog 34 #[.int .u64 a, .int .i64 n] w fun e w' => e = .returned (.int .u64 (shlI a n)) ∧ w = w' := by
  have a0 := ha.1
  have a1 := ha.2
  by_cases hz : a = 0
  · subst hz
    go_enter Try.func34, Try.ntmps34
    go_wp2_with fail
    go_ret
    exact ⟨ret_int shlI_of_zero.symm, rfl⟩
  · have hzb : (a == 0) = false := by simp [hz]
    by_cases h0 : n ≤ 0
    · have hs := shlI_zero ha h0
      go_enter Try.func34, Try.ntmps34
      go_wp2_with fail
      go_ret
      exact ⟨ret_int (shlI_zero ha (by omega)).symm, rfl⟩
    · have h0' : decide (n ≤ 0) = false := by simp; omega
      have n0 : 0 < n := by omega
      have hlz := fun w => Try.bits_LeadingZeros64 a w (by omega) (by omega)
      have hl := Lib.bitLen_le a.toNat 64 (by omega) (by omega)
      obtain ⟨_, hb⟩ := bitLen_bounds a.toNat (by omega) (by omega)
      have hb1 : Lib.bitLen a.toNat ≠ 0 := by intro hh; rw [hh] at hb; omega
      have l1 : (1 : Int) ≤ (Lib.bitLen a.toNat : Int) := by omega
      have l2 : (Lib.bitLen a.toNat : Int) ≤ 64 := by omega
      have HL := Lib.hid hlz
      clear hlz hb hb1 hl
      by_cases hf : n ≤ 64 - (Lib.bitLen a.toNat : Int)
      · obtain ⟨s1, s2⟩ := shlI_fits ha hz (by omega) hf
        have s0 : 0 ≤ a * 2 ^ n.toNat := Int.mul_nonneg a0 (Int.pow_nonneg (by decide))
        have HS := Lib.hid s1
        clear s1 hz h0
        generalize (Lib.bitLen a.toNat : Int) = L at *
        go_enter Try.func34, Try.ntmps34
        go_wp2_with (first | (go_at_call 37; refine (HL.out _).mono ?_; rintro e w' ⟨rfl, rfl⟩))
        go_ret
        exact ⟨ret_int HS.out.symm, rfl⟩
      · have s1 := shlI_over (n := n) ha hz (by omega)
        have HS := Lib.hid s1
        clear s1 hz h0
        generalize (Lib.bitLen a.toNat : Int) = L at *
        go_enter Try.func34, Try.ntmps34
        go_wp2_with (first | (go_at_call 37; refine (HL.out _).mono ?_; rintro e w' ⟨rfl, rfl⟩))
        go_ret
        exact ⟨ret_int HS.out.symm, rfl⟩

theorem shl1_any (a n : Int) (ha : Word a) (_hn : n ≤ 9223372036854775807) (w : World) :
    Calls Try.prog 35 #[.int .u64 a, .int .i64 n] w fun e w' => e = .returned (.int .u64 (shlI a n)) ∧ w = w' := by
  go_enter Try.func35, Try.ntmps35
  go_wp2_with fail
  go_loop [0, 5] (fun c i => ∃ (x k : Int), c = .int .u64 x ∧ i = .int .i64 k ∧ 0 ≤ k ∧ k ≤ 9223372036854775807 ∧ (0 ≤ n → k ≤ n) ∧ Word x ∧ Hid (shlI x (n - k) = shlI a n)) (fun _ i => (n - intOf i).toNat)
  case atStart => exact ⟨a, 0, rfl, rfl, by omega, by omega, fun h => h, ha, by rw [Int.sub_zero]; rfl⟩
  case round =>
    obtain ⟨x, k, rfl, rfl, k0, k1, kn, hx, hs⟩ := hrel
    obtain ⟨x0, x1⟩ := id hx
    by_cases hk : k < n
    · have kn := kn (by omega)
      by_cases hz : x = 0
      · subst hz
        go_wp2_with fail
        go_ret
        exact ⟨ret_int (shlI_of_zero.symm.trans hs), rfl⟩
      · have hzb : (x != 0) = true := by simp [hz]
        by_cases ht : x = 18446744073709551615
        · subst ht
          go_wp2_with fail
          go_ret
          exact ⟨ret_int (shlI_top.symm.trans hs), rfl⟩
        · have htb : (x != 18446744073709551615) = true := by simp [ht]
          by_cases hg : 9223372036854775807 < x
          · have e := shlI_big (n := n - k) hg (by omega)
            have E := Lib.hid (e.symm.trans hs)
            clear e hz ht
            go_wp2_with fail
            go_ret
            exact ⟨ret_int E.out, rfl⟩
          · have e := shlI_step (a := x) (n := n - k) (by omega)
            have e2 : n - k - 1 = n - (k + 1) := by omega
            rw [e2] at e
            have E : Hid (shlI (x * 2) (n - (k + 1)) = shlI a n) := Lib.hid (e.trans hs)
            clear e e2 hz ht
            go_wp2_with fail
            go_round
            case rel => exact ⟨x * 2, k + 1, rfl, rfl, by omega, by omega, fun _ => by omega, ⟨by omega, by omega⟩, E⟩
            case measure => simp [intOf]; omega
    · have e := shlI_zero (n := n - k) hx (by omega)
      have E := Lib.hid (e.symm.trans hs)
      clear e
      have hd : decide (k < n) = false := by simp; omega
      go_wp2_with fail
      go_ret
      exact ⟨ret_int E.out, rfl⟩

theorem alive_subI_3_5 (w : World) : Calls Try.prog 33 #[.int .u64 3, .int .u64 5] w fun e w' => e = .returned (.int .u64 0) ∧ w = w' := by
  have h := sub_any 3 5 (by unfold Word; decide) (by unfold Word; decide) w
  rw [show subI 3 5 = 0 by decide +kernel] at h
  exact h
theorem alive_shlI_1_64 (w : World) : Calls Try.prog 34 #[.int .u64 1, .int .i64 64] w fun e w' => e = .returned (.int .u64 18446744073709551615) ∧ w = w' := by
  have h := shl_any 1 64 (by unfold Word; decide) (by decide) w
  rw [show shlI 1 64 = 18446744073709551615 by decide +kernel] at h
  exact h
theorem alive_shlI_0_99 (w : World) : Calls Try.prog 34 #[.int .u64 0, .int .i64 99] w fun e w' => e = .returned (.int .u64 0) ∧ w = w' := by
  have h := shl_any 0 99 (by unfold Word; decide) (by decide) w
  rw [show shlI 0 99 = 0 by decide +kernel] at h
  exact h
theorem alive_addI_7 (w : World) : Calls Try.prog 32 #[.int .u64 18446744073709551615, .int .u64 1] w fun e w' => e = .returned (.int .u64 18446744073709551615) ∧ w = w' := by
  have h := add_any 18446744073709551615 1 (by unfold Word; decide) (by unfold Word; decide) w
  rw [show addI 18446744073709551615 1 = 18446744073709551615 by decide +kernel] at h
  exact h
end Go.Proofs.Ytnaofmiefghhkaa
