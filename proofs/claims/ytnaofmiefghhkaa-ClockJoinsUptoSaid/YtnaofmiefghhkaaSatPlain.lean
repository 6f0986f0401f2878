/-
  PLAIN LAWS of chapter 1: sums, differences, products, shifts, held to 0 and to the greatest word. No program in sight.
-/
import Derived.Test.YtnaofmiefghhkaaBase
import Derived.Lib.BitFns
import Derived.Lib.ItoaNum
namespace Go.Proofs.Ytnaofmiefghhkaa
open Go.RowKit

def addI (a b : Int) : Int := if a + b < 18446744073709551616 then a + b else 18446744073709551615
def subI (a b : Int) : Int := if a < b then 0 else a - b
def mulI (a b : Int) : Int := if a * b < 18446744073709551616 then a * b else 18446744073709551615
def shlI (a n : Int) : Int := if a * 2 ^ n.toNat < 18446744073709551616 then a * 2 ^ n.toNat else 18446744073709551615
def diffI (a b : Int) : Int := if a < b then b - a else a - b
def clampI (x lo hi : Int) : Int := if hi < x then hi else if x < lo then lo else x

theorem addI_word {a b : Int} (ha : Word a) (hb : Word b) : Word (addI a b) := by
  obtain ⟨_, _⟩ := ha; obtain ⟨_, _⟩ := hb; unfold addI; split <;> exact ⟨by omega, by omega⟩
theorem subI_word {a b : Int} (ha : Word a) (hb : Word b) : Word (subI a b) := by
  obtain ⟨_, _⟩ := ha; obtain ⟨_, _⟩ := hb; unfold subI; split <;> exact ⟨by omega, by omega⟩
theorem mulI_word {a b : Int} (ha : Word a) (hb : Word b) : Word (mulI a b) := by
  have := Int.mul_nonneg ha.1 hb.1
  unfold mulI; split <;> exact ⟨by omega, by omega⟩
theorem shlI_word {a n : Int} (ha : Word a) : Word (shlI a n) := by
  have := Int.mul_nonneg ha.1 (show (0 : Int) ≤ 2 ^ n.toNat from Int.pow_nonneg (by decide))
  unfold shlI; split <;> exact ⟨by omega, by omega⟩
theorem diffI_word {a b : Int} (ha : Word a) (hb : Word b) : Word (diffI a b) := by
  obtain ⟨_, _⟩ := ha; obtain ⟨_, _⟩ := hb; unfold diffI; split <;> exact ⟨by omega, by omega⟩

theorem shlI_zero {a n : Int} (ha : Word a) (h : n ≤ 0) : shlI a n = a := by
  obtain ⟨_, _⟩ := ha
  have : n.toNat = 0 := by omega
  unfold shlI; rw [this]; simp; omega
theorem shlI_of_zero {n : Int} : shlI 0 n = 0 := by
  unfold shlI; simp
theorem two_pow_ge {k : Nat} (h : 1 ≤ k) : (2 : Int) ≤ 2 ^ k := by
  have : 2 ^ 1 ≤ 2 ^ k := Nat.pow_le_pow_right (by omega) h
  exact_mod_cast this
theorem shlI_top {n : Int} : shlI 18446744073709551615 n = 18446744073709551615 := by
  unfold shlI
  by_cases h : 1 ≤ n.toNat
  · have := two_pow_ge h
    have : ¬ 18446744073709551615 * (2 : Int) ^ n.toNat < 18446744073709551616 := by omega
    rw [if_neg this]
  · have : n.toNat = 0 := by omega
    rw [this]; simp
theorem shlI_big {a n : Int} (h : 9223372036854775807 < a) (hn : 1 ≤ n) : shlI a n = 18446744073709551615 := by
  have hp := two_pow_ge (k := n.toNat) (by omega)
  unfold shlI
  have : a * 2 ≤ a * 2 ^ n.toNat := Int.mul_le_mul_of_nonneg_left hp (by omega)
  rw [if_neg (by omega)]
theorem shlI_step {a n : Int} (hn : 1 ≤ n) : shlI (a * 2) (n - 1) = shlI a n := by
  have : n.toNat = (n - 1).toNat + 1 := by omega
  have e : a * 2 * 2 ^ (n - 1).toNat = a * 2 ^ n.toNat := by rw [this, Int.pow_succ, Int.mul_assoc, Int.mul_comm 2]
  unfold shlI
  rw [e]

theorem mulI_nat (a b : Nat) : mulI a b = if a * b < 18446744073709551616 then ((a * b : Nat) : Int) else 18446744073709551615 := by
  unfold mulI
  rw [← Int.natCast_mul]
  generalize a * b = c
  split <;> split <;> omega
theorem bitLen_bounds : ∀ x : Nat, x ≠ 0 → x < 2 ^ 64 → 2 ^ Lib.bitLen x ≤ 2 * x ∧ x < 2 ^ Lib.bitLen x := by
  intro x
  induction x using Nat.strongRecOn with
  | ind x ih =>
    intro h0 h
    by_cases h1 : x = 1
    · subst h1; decide
    · have e := Lib.bitLen_half x h0 h
      obtain ⟨i1, i2⟩ := ih (x / 2) (by omega) (by omega) (by omega)
      rw [e, Nat.pow_add, Nat.pow_one]
      generalize 2 ^ Lib.bitLen (x / 2) = p at *
      omega
theorem shl_fits {a : Nat} {n : Nat} (h0 : a ≠ 0) (h : a < 2 ^ 64) (hn : n ≤ 64 - Lib.bitLen a) : a * 2 ^ n < 2 ^ 64 := by
  obtain ⟨_, i2⟩ := bitLen_bounds a h0 h
  have hl := Lib.bitLen_le a 64 (by omega) h
  have h3 : 2 ^ n ≤ 2 ^ (64 - Lib.bitLen a) := Nat.pow_le_pow_right (by omega) hn
  have h4 : 2 ^ Lib.bitLen a * 2 ^ (64 - Lib.bitLen a) = 2 ^ 64 := by rw [← Nat.pow_add]; congr 1; omega
  have h5 : a * 2 ^ n < 2 ^ Lib.bitLen a * 2 ^ n := Nat.mul_lt_mul_of_pos_right i2 (Nat.two_pow_pos n)
  have h6 : 2 ^ Lib.bitLen a * 2 ^ n ≤ 2 ^ Lib.bitLen a * 2 ^ (64 - Lib.bitLen a) := Nat.mul_le_mul_left _ h3
  omega
theorem shl_over {a : Nat} {n : Nat} (h0 : a ≠ 0) (h : a < 2 ^ 64) (hn : 64 - Lib.bitLen a + 1 ≤ n) : 2 ^ 64 ≤ a * 2 ^ n := by
  obtain ⟨i1, _⟩ := bitLen_bounds a h0 h
  have hl := Lib.bitLen_le a 64 (by omega) h
  have h3 : 2 ^ (64 - Lib.bitLen a + 1) ≤ 2 ^ n := Nat.pow_le_pow_right (by omega) hn
  have h4 : 2 ^ Lib.bitLen a * 2 ^ (64 - Lib.bitLen a) = 2 ^ 64 := by rw [← Nat.pow_add]; congr 1; omega
  have h5 : a * 2 ^ (64 - Lib.bitLen a + 1) ≤ a * 2 ^ n := Nat.mul_le_mul_left _ h3
  have h6 : a * 2 ^ (64 - Lib.bitLen a + 1) = (2 * a) * 2 ^ (64 - Lib.bitLen a) := by rw [Nat.pow_succ, Nat.mul_comm 2 a, Nat.mul_assoc, Nat.mul_comm 2]
  have h7 : 2 ^ Lib.bitLen a * 2 ^ (64 - Lib.bitLen a) ≤ (2 * a) * 2 ^ (64 - Lib.bitLen a) := Nat.mul_le_mul_right _ i1
  omega
theorem shlI_fits {a n : Int} (ha : Word a) (h0 : a ≠ 0) (h1 : 0 ≤ n) (hn : n ≤ 64 - (Lib.bitLen a.toNat : Int)) : shlI a n = a * 2 ^ n.toNat ∧ a * 2 ^ n.toNat < 18446744073709551616 := by
  obtain ⟨a0, a1⟩ := ha
  obtain ⟨a, rfl⟩ := Int.eq_ofNat_of_zero_le a0
  obtain ⟨n, rfl⟩ := Int.eq_ofNat_of_zero_le h1
  have := shl_fits (a := a) (n := n) (by omega) (by omega) (by simp at hn; omega)
  have h2 : (a : Int) * 2 ^ n < 18446744073709551616 := by
    have h3 : ((a * 2 ^ n : Nat) : Int) < ((2 ^ 64 : Nat) : Int) := by omega
    have h4 : ((a * 2 ^ n : Nat) : Int) = (a : Int) * 2 ^ n := by simp
    rw [h4] at h3
    exact h3
  unfold shlI
  simp only [Int.toNat_natCast]
  exact ⟨if_pos h2, h2⟩
theorem shlI_over {a n : Int} (ha : Word a) (h0 : a ≠ 0) (hn : 64 - (Lib.bitLen a.toNat : Int) + 1 ≤ n) : shlI a n = 18446744073709551615 := by
  obtain ⟨a0, a1⟩ := ha
  obtain ⟨a, rfl⟩ := Int.eq_ofNat_of_zero_le a0
  have hl := Lib.bitLen_le a 64 (by omega) (by omega)
  simp only [Int.toNat_natCast] at hn
  obtain ⟨n, rfl⟩ := Int.eq_ofNat_of_zero_le (show 0 ≤ n by omega)
  have := shl_over (a := a) (n := n) (by omega) (by omega) (by omega)
  have h2 : ¬ (a : Int) * 2 ^ n < 18446744073709551616 := by
    have h3 : ((2 ^ 64 : Nat) : Int) ≤ ((a * 2 ^ n : Nat) : Int) := by omega
    have h4 : ((a * 2 ^ n : Nat) : Int) = (a : Int) * 2 ^ n := by simp
    rw [h4] at h3
    have h5 : ((2 ^ 64 : Nat) : Int) = 18446744073709551616 := by decide
    omega
  unfold shlI
  simp only [Int.toNat_natCast]
  exact if_neg h2
end Go.Proofs.Ytnaofmiefghhkaa
