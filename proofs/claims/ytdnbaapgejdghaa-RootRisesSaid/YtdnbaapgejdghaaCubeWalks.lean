/-
  THE WALKS of the two cube roots, bit by bit; their plain law: the root is the one number whose third power is not above, and the next one's is.
-/
import Derived.Test.YtdnbaapgejdghaaRootWalks
namespace Go.Proofs.Ytdnbaapgejdghaa
open Go.RowKit

def IsRoot (r hi lo : Int) : Prop := 0 ≤ r ∧ r * r * r ≤ hi * 18446744073709551616 + lo ∧ hi * 18446744073709551616 + lo < (r + 1) * (r + 1) * (r + 1)
theorem cube_mono {a b : Int} (h0 : 0 ≤ a) (h : a ≤ b) : a * a * a ≤ b * b * b := by
  have h1 : a * a ≤ b * b := Int.mul_le_mul h h h0 (by omega)
  exact Int.mul_le_mul h1 h h0 (Int.le_trans (Int.mul_nonneg h0 h0) h1)
theorem root_one {r s hi lo : Int} (h : IsRoot r hi lo) (h' : IsRoot s hi lo) : r = s := by
  obtain ⟨a0, a1, a2⟩ := h; obtain ⟨b0, b1, b2⟩ := h'
  by_cases c : r < s
  · have := cube_mono (show 0 ≤ r + 1 by omega) (show r + 1 ≤ s by omega)
    omega
  · by_cases c' : s < r
    · have := cube_mono (show 0 ≤ s + 1 by omega) (show s + 1 ≤ r by omega)
      omega
    · omega

theorem or_bit {q : Int} {j : Nat} (h0 : 0 ≤ q) (hj : 1 ≤ j) (h : q * 2 ^ j + 2 ^ (j - 1) < 18446744073709551616) : bits BinOp.or IntKind.u64 (q * 2 ^ j) (2 ^ (j - 1)) = q * 2 ^ j + 2 ^ (j - 1) := by
  obtain ⟨q, rfl⟩ := Int.eq_ofNat_of_zero_le h0
  have e1 : (q : Int) * 2 ^ j = ((2 ^ j * q : Nat) : Int) := by simp [Int.mul_comm]
  have e2 : (2 : Int) ^ (j - 1) = ((2 ^ (j - 1) : Nat) : Int) := by simp
  have hlt : 2 ^ (j - 1) < 2 ^ j := Nat.pow_lt_pow_right (by omega) (by omega)
  rw [e1, e2] at h ⊢
  have hq : 2 ^ j * q + 2 ^ (j - 1) < 18446744073709551616 := by
    generalize 2 ^ j * q = x at *
    generalize 2 ^ (j - 1) = y at *
    omega
  have ho := Nat.two_pow_add_eq_or_of_lt hlt q
  generalize 2 ^ j * q = x at *
  generalize 2 ^ (j - 1) = y at *
  rw [bits_or_u64_nat x y (by omega) (by omega), ← ho]
  omega
theorem wrap_pow {k : Nat} (h : k < 64) : IntKind.u64.wrap (2 ^ k) = 2 ^ k := by
  rw [IntKind.wrap_u64]
  have h1 : 2 ^ k < 2 ^ 64 := Nat.pow_lt_pow_right (by omega) h
  have h2 : ((2 : Int) ^ k) = ((2 ^ k : Nat) : Int) := by simp
  rw [h2]
  generalize 2 ^ k = p at h1
  omega
theorem two_pow_pos' (k : Nat) : (0 : Int) < 2 ^ k := Int.pow_pos (by decide)
theorem two_pow_pred {j : Nat} (h : 1 ≤ j) : (2 : Int) ^ j = 2 * 2 ^ (j - 1) := by
  have : j = (j - 1) + 1 := by omega
  conv => lhs; rw [this, Int.pow_succ]
  omega

theorem key1 {q : Int} {j : Nat} (h : 1 ≤ j) : (2 * q + 1) * 2 ^ (j - 1) = q * 2 ^ j + 2 ^ (j - 1) := by
  rw [two_pow_pred h, Int.add_mul, Int.one_mul, Int.mul_comm 2 q, Int.mul_assoc]
theorem key0 {q : Int} {j : Nat} (h : 1 ≤ j) : (2 * q) * 2 ^ (j - 1) = q * 2 ^ j := by
  rw [two_pow_pred h, Int.mul_comm 2 q, Int.mul_assoc]
theorem keyY {q : Int} {j : Nat} (h : 1 ≤ j) : q * 2 ^ j + 2 ^ (j - 1) + 2 ^ (j - 1) = q * 2 ^ j + 2 ^ j := by
  have := two_pow_pred h
  omega
theorem pred_cast2 {j : Nat} (h : 1 ≤ j) : ((j : Int) - 1 - 1) = ((j - 1 : Nat) : Int) - 1 := by omega

set_option maxHeartbeats 1000000 in
theorem cube_any (hi lo : Int) (hh : Word hi) (hl : Word lo) (w : World) :
    Calls Try.prog 9 #[.int .u64 hi, .int .u64 lo] w fun e w' => ∃ r, IsRoot r hi lo ∧ e = .returned (.int .u64 r) ∧ w = w' := by
  obtain ⟨i0, i1⟩ := id hh
  obtain ⟨o0, o1⟩ := id hl
  go_enter Try.func9, Try.ntmps9
  go_wp2_with fail
  go_loop [5, 6] (fun r k => ∃ (j : Nat) (q : Int), j ≤ 43 ∧ k = .int .i64 ((j : Int) - 1) ∧ r = .int .u64 (q * 2 ^ j) ∧ 0 ≤ q ∧ Hid (q * 2 ^ j + 2 ^ j ≤ 8796093022208) ∧
      Hid (q * 2 ^ j * (q * 2 ^ j) * (q * 2 ^ j) ≤ hi * 18446744073709551616 + lo) ∧ Hid (hi * 18446744073709551616 + lo < (q * 2 ^ j + 2 ^ j) * (q * 2 ^ j + 2 ^ j) * (q * 2 ^ j + 2 ^ j))) (fun _ k => (intOf k + 1).toNat)
  case atStart =>
    exact ⟨43, 0, by omega, rfl, rfl, by omega, by (show (0 : Int) * 2 ^ 43 + 2 ^ 43 ≤ 8796093022208); decide, by (show (0 : Int) * 2 ^ 43 * (0 * 2 ^ 43) * (0 * 2 ^ 43) ≤ _); simp; omega, by
      show hi * 18446744073709551616 + lo < ((0 : Int) * 2 ^ 43 + 2 ^ 43) * (0 * 2 ^ 43 + 2 ^ 43) * (0 * 2 ^ 43 + 2 ^ 43)
      have : ((0 : Int) * 2 ^ 43 + 2 ^ 43) * (0 * 2 ^ 43 + 2 ^ 43) * (0 * 2 ^ 43 + 2 ^ 43) = 680564733841876926926749214863536422912 := by decide
      rw [this]; omega⟩
  case round =>
    obtain ⟨j, q, hj, rfl, rfl, q0, h1, h2, h3⟩ := hrel
    by_cases hlt : 1 ≤ j
    · have hd : decide (0 ≤ (j : Int) - 1) = true := by simp; omega
      have hw := wrap_pow (k := j - 1) (by omega)
      have hp := two_pow_pos' (j - 1)
      have hq0 : 0 ≤ q * 2 ^ j := Int.mul_nonneg q0 (Int.le_of_lt (two_pow_pos' j))
      have hpp := two_pow_pred hlt
      have hsum : q * 2 ^ j + 2 ^ (j - 1) < 18446744073709551616 := by have := h1.out; omega
      have ho := or_bit q0 hlt hsum
      have hb := fun w => below_any (q * 2 ^ j + 2 ^ (j - 1)) hi lo ⟨by omega, hsum⟩ hh hl w
      have HB := Lib.hid hb
      have HPP := Lib.hid hpp
      clear hb hpp
      by_cases hbel : belowB (q * 2 ^ j + 2 ^ (j - 1)) hi lo = true
      · have hcube : (q * 2 ^ j + 2 ^ (j - 1)) * (q * 2 ^ j + 2 ^ (j - 1)) * (q * 2 ^ j + 2 ^ (j - 1)) ≤ hi * 18446744073709551616 + lo := by unfold belowB at hbel; simpa using hbel
        have HC := Lib.hid hcube
        clear hcube
        go_wp2_with fail
        refine (HB.out _).mono ?_; rintro e w' ⟨rfl, rfl⟩
        go_wp2_with fail
        go_round
        case rel => exact ⟨j - 1, 2 * q + 1, by omega, by rw [pred_cast2 hlt], by rw [key1 hlt], by omega, by rw [key1 hlt, keyY hlt]; exact h1, by rw [key1 hlt]; exact HC, by rw [key1 hlt, keyY hlt]; exact h3⟩
        case measure => simp [intOf]; omega
      · have hbel' : belowB (q * 2 ^ j + 2 ^ (j - 1)) hi lo = false := by simpa using hbel
        have hcube : hi * 18446744073709551616 + lo < (q * 2 ^ j + 2 ^ (j - 1)) * (q * 2 ^ j + 2 ^ (j - 1)) * (q * 2 ^ j + 2 ^ (j - 1)) := by unfold belowB at hbel'; simp at hbel'; omega
        have HC := Lib.hid hcube
        have hlim : q * 2 ^ j + 2 ^ (j - 1) ≤ 8796093022208 := by have := h1.out; have := HPP.out; omega
        have HL := Lib.hid hlim
        clear hcube hbel hlim
        go_wp2_with fail
        refine (HB.out _).mono ?_; rintro e w' ⟨rfl, rfl⟩
        go_wp2_with fail
        go_round
        case rel => exact ⟨j - 1, 2 * q, by omega, by rw [pred_cast2 hlt], by rw [key0 hlt], by omega, by rw [key0 hlt]; exact HL, by rw [key0 hlt]; exact h2, by rw [key0 hlt]; exact HC⟩
        case measure => simp [intOf]; omega
    · have hk1 : (j : Int) < 1 := by omega
      have hj0 : j = 0 := by omega
      have hr : IsRoot (q * 2 ^ j) hi lo := by
        have a2 := h2.out
        have a3 := h3.out
        rw [hj0] at a2 a3 ⊢
        simp at a2 a3
        refine ⟨by simpa using q0, by simpa using a2, by simpa using a3⟩
      clear hj0 hlt
      go_wp2_with fail
      go_ret
      exact ⟨_, hr, rfl, rfl⟩

set_option maxHeartbeats 1000000 in
theorem cube1_any (hi lo : Int) (hh : Word hi) (hl : Word lo) (w : World) :
    Calls Try.prog 10 #[.int .u64 hi, .int .u64 lo] w fun e w' => ∃ r, IsRoot r hi lo ∧ e = .returned (.int .u64 r) ∧ Below w.heap.size w w' := by
  obtain ⟨i0, i1⟩ := id hh
  obtain ⟨o0, o1⟩ := id hl
  go_enter Try.func10, Try.ntmps10
  go_wp2_with fail
  go_loopw [5, 6] (fun r k wr => ∃ (j : Nat) (q : Int), j ≤ 44 ∧ k = .int .i64 ((j : Int) - 1) ∧ r = .int .u64 (q * 2 ^ j) ∧ 0 ≤ q ∧ Hid (q * 2 ^ j + 2 ^ j ≤ 17592186044416) ∧
      Hid (q * 2 ^ j * (q * 2 ^ j) * (q * 2 ^ j) ≤ hi * 18446744073709551616 + lo) ∧ Hid (hi * 18446744073709551616 + lo < (q * 2 ^ j + 2 ^ j) * (q * 2 ^ j + 2 ^ j) * (q * 2 ^ j + 2 ^ j)) ∧ Below w.heap.size w wr) (fun _ k _ => (intOf k + 1).toNat)
  case atStart =>
    exact ⟨44, 0, by omega, rfl, rfl, by omega, by (show (0 : Int) * 2 ^ 44 + 2 ^ 44 ≤ 17592186044416); decide, by (show (0 : Int) * 2 ^ 44 * (0 * 2 ^ 44) * (0 * 2 ^ 44) ≤ _); simp; omega, by
      show hi * 18446744073709551616 + lo < ((0 : Int) * 2 ^ 44 + 2 ^ 44) * (0 * 2 ^ 44 + 2 ^ 44) * (0 * 2 ^ 44 + 2 ^ 44)
      have : ((0 : Int) * 2 ^ 44 + 2 ^ 44) * (0 * 2 ^ 44 + 2 ^ 44) * (0 * 2 ^ 44 + 2 ^ 44) = 5444517870735015415413993718908291383296 := by decide
      rw [this]; omega, Below.refl _ _⟩
  case round =>
    obtain ⟨j, q, hj, rfl, rfl, q0, h1, h2, h3, hB⟩ := hrel
    by_cases hlt : 1 ≤ j
    · have hd : decide (0 ≤ (j : Int) - 1) = true := by simp; omega
      have hw := wrap_pow (k := j - 1) (by omega)
      have hp := two_pow_pos' (j - 1)
      have hq0 : 0 ≤ q * 2 ^ j := Int.mul_nonneg q0 (Int.le_of_lt (two_pow_pos' j))
      have hpp := two_pow_pred hlt
      have hsum : q * 2 ^ j + 2 ^ (j - 1) < 18446744073709551616 := by have := h1.out; omega
      have ho := or_bit q0 hlt hsum
      have hb := fun w => under_any (q * 2 ^ j + 2 ^ (j - 1)) hi lo ⟨by omega, hsum⟩ hh hl w
      have HB := Lib.hid hb
      have HPP := Lib.hid hpp
      clear hb hpp
      by_cases hbel : belowB (q * 2 ^ j + 2 ^ (j - 1)) hi lo = true
      · have hcube : (q * 2 ^ j + 2 ^ (j - 1)) * (q * 2 ^ j + 2 ^ (j - 1)) * (q * 2 ^ j + 2 ^ (j - 1)) ≤ hi * 18446744073709551616 + lo := by unfold belowB at hbel; simpa using hbel
        have HC := Lib.hid hcube
        clear hcube
        go_wp2_with fail
        refine (HB.out _).mono ?_; rintro e w2 ⟨rfl, hg⟩
        go_wp2_with fail
        go_roundw
        case rel => exact ⟨j - 1, 2 * q + 1, by omega, by rw [pred_cast2 hlt], by rw [key1 hlt], by omega, by rw [key1 hlt, keyY hlt]; exact h1, by rw [key1 hlt]; exact HC, by rw [key1 hlt, keyY hlt]; exact h3, hB.trans (hg.mono hB.size)⟩
        case measure => simp [intOf]; omega
      · have hbel' : belowB (q * 2 ^ j + 2 ^ (j - 1)) hi lo = false := by simpa using hbel
        have hcube : hi * 18446744073709551616 + lo < (q * 2 ^ j + 2 ^ (j - 1)) * (q * 2 ^ j + 2 ^ (j - 1)) * (q * 2 ^ j + 2 ^ (j - 1)) := by unfold belowB at hbel'; simp at hbel'; omega
        have HC := Lib.hid hcube
        have hlim : q * 2 ^ j + 2 ^ (j - 1) ≤ 17592186044416 := by have := h1.out; have := HPP.out; omega
        have HL := Lib.hid hlim
        clear hcube hbel hlim
        go_wp2_with fail
        refine (HB.out _).mono ?_; rintro e w2 ⟨rfl, hg⟩
        go_wp2_with fail
        go_roundw
        case rel => exact ⟨j - 1, 2 * q, by omega, by rw [pred_cast2 hlt], by rw [key0 hlt], by omega, by rw [key0 hlt]; exact HL, by rw [key0 hlt]; exact h2, by rw [key0 hlt]; exact HC, hB.trans (hg.mono hB.size)⟩
        case measure => simp [intOf]; omega
    · have hk1 : (j : Int) < 1 := by omega
      have hj0 : j = 0 := by omega
      have hr : IsRoot (q * 2 ^ j) hi lo := by
        have a2 := h2.out
        have a3 := h3.out
        rw [hj0] at a2 a3 ⊢
        simp at a2 a3
        refine ⟨by simpa using q0, by simpa using a2, by simpa using a3⟩
      clear hj0 hlt
      go_wp2_with fail
      go_ret
      exact ⟨_, hr, rfl, hB⟩
end Go.Proofs.Ytdnbaapgejdghaa
