/-
  PLAIN LAWS of chapter 5: what is mixed, that mixing keeps numbers apart, the lowest bits. No program in sight.
-/
import Derived.Test.YtommldjoehjijaaBase
import Derived.Laws.Bits64b
namespace Go.Proofs.Ytommldjoehjijaa
open Go.RowKit

/-- One stage of the mixing, as the walk spells it. -/
def stageI (s c z : Int) : Int := IntKind.u64.wrap (bits BinOp.xor IntKind.u64 z (z / s) * c)
def mixI (k : Int) : Int :=
  let z := stageI 134217728 10723151780598845931 (stageI 1073741824 13787848793156543929 (IntKind.u64.wrap (IntKind.u64.wrap (k + 1) * 11400714819323198485)))
  bits BinOp.xor IntKind.u64 z (z / 2147483648)

def M : Nat := 18446744073709551616
def xs (s n : Nat) : Nat := n ^^^ (n >>> s)
def mulN (c n : Nat) : Nat := n * c % M
def mixN (k : Nat) : Nat := xs 31 (mulN 10723151780598845931 (xs 27 (mulN 13787848793156543929 (xs 30 (mulN 11400714819323198485 ((k + 1) % M))))))

theorem M_eq : M = 2 ^ 64 := by decide
theorem xs_lt {s n : Nat} (h : n < M) : xs s n < M := by
  unfold xs
  rw [M_eq] at *
  exact Nat.xor_lt_two_pow h (Nat.lt_of_le_of_lt (by rw [Nat.shiftRight_eq_div_pow]; exact Nat.div_le_self _ _) h)
theorem mulN_lt (c n : Nat) : mulN c n < M := Nat.mod_lt _ (by decide)

theorem xor_swap {a b a' b' : Nat} (h : a ^^^ a' = b ^^^ b') : a ^^^ b = a' ^^^ b' := by
  apply Nat.eq_of_testBit_eq
  intro i
  have := congrArg (fun n => Nat.testBit n i) h
  simp only [Nat.testBit_xor] at this ⊢
  revert this
  cases a.testBit i <;> cases b.testBit i <;> cases a'.testBit i <;> cases b'.testBit i <;> simp
theorem xor_zero_eq {a b : Nat} (h : a ^^^ b = 0) : a = b := by
  apply Nat.eq_of_testBit_eq
  intro i
  have := congrArg (fun n => Nat.testBit n i) h
  simp only [Nat.testBit_xor, Nat.zero_testBit] at this
  revert this
  cases a.testBit i <;> cases b.testBit i <;> simp
theorem xs_inj {s a b : Nat} (hs : 0 < s) (h : xs s a = xs s b) : a = b := by
  unfold xs at h
  have h1 := xor_swap h
  have h2 : (a >>> s) ^^^ (b >>> s) = (a ^^^ b) >>> s := (Nat.shiftRight_xor_distrib).symm
  rw [h2, Nat.shiftRight_eq_div_pow] at h1
  by_cases h0 : a ^^^ b = 0
  · exact xor_zero_eq h0
  · have := Nat.div_lt_self (Nat.pos_of_ne_zero h0) (Nat.one_lt_two_pow (n := s) (by omega))
    omega
theorem mulN_inj {c c' a b : Nat} (hc : c * c' % M = 1) (ha : a < M) (hb : b < M) (h : mulN c a = mulN c b) : a = b := by
  unfold mulN at h
  have key : ∀ x, x < M → (x * c % M) * c' % M = x := by
    intro x hx
    rw [Nat.mod_mul_mod, Nat.mul_assoc, ← Nat.mul_mod_mod, hc, Nat.mul_one, Nat.mod_eq_of_lt hx]
  rw [← key a ha, ← key b hb, h]
theorem mixN_inj {a b : Nat} (ha : a < M) (hb : b < M) (h : mixN a = mixN b) : a = b := by
  unfold mixN at h
  have h1 := mulN_inj (c' := 3573116690164977347) (by decide +kernel) (xs_lt (mulN_lt _ _)) (xs_lt (mulN_lt _ _)) (xs_inj (by decide) h)
  have h2 := mulN_inj (c' := 10871156337175269513) (by decide +kernel) (xs_lt (mulN_lt _ _)) (xs_lt (mulN_lt _ _)) (xs_inj (by decide) h1)
  have h3 := mulN_inj (c' := 17428512612931826493) (by decide +kernel) (Nat.mod_lt _ (by decide)) (Nat.mod_lt _ (by decide)) (xs_inj (by decide) h2)
  unfold M at h3 ha hb
  omega

theorem stageI_eq {X s C : Nat} (h : X < M) : stageI ((2 ^ s : Nat) : Int) (C : Int) (X : Int) = ((mulN C (xs s X) : Nat) : Int) := by
  unfold stageI mulN xs
  rw [Nat.shiftRight_eq_div_pow]
  exact mixStep_u64 X (2 ^ s) C h
theorem mixI_eq {k : Nat} : mixI (k : Int) = ((mixN k : Nat) : Int) := by
  have h0 : IntKind.u64.wrap (IntKind.u64.wrap ((k : Int) + 1) * 11400714819323198485) = ((mulN 11400714819323198485 ((k + 1) % M) : Nat) : Int) := by
    rw [IntKind.wrap_u64, IntKind.wrap_u64]
    unfold mulN M
    rw [Int.natCast_emod, Int.natCast_mul, Int.natCast_emod, Int.natCast_add]
    rfl
  have h1 := stageI_eq (s := 30) (C := 13787848793156543929) (mulN_lt 11400714819323198485 ((k + 1) % M))
  have h2 := stageI_eq (s := 27) (C := 10723151780598845931) (mulN_lt 13787848793156543929 (xs 30 (mulN 11400714819323198485 ((k + 1) % M))))
  unfold mixI
  rw [h0]
  have e1 : stageI 1073741824 13787848793156543929 ((mulN 11400714819323198485 ((k + 1) % M) : Nat) : Int) = ((mulN 13787848793156543929 (xs 30 (mulN 11400714819323198485 ((k + 1) % M))) : Nat) : Int) := h1
  have e2 : stageI 134217728 10723151780598845931 ((mulN 13787848793156543929 (xs 30 (mulN 11400714819323198485 ((k + 1) % M))) : Nat) : Int) = ((mulN 10723151780598845931 (xs 27 (mulN 13787848793156543929 (xs 30 (mulN 11400714819323198485 ((k + 1) % M))))) : Nat) : Int) := h2
  rw [e1, e2]
  unfold mixN
  have h3 := xorShift_u64 (mulN 10723151780598845931 (xs 27 (mulN 13787848793156543929 (xs 30 (mulN 11400714819323198485 ((k + 1) % M)))))) 2147483648 (mulN_lt _ _)
  have h4 : ((2147483648 : Nat) : Int) = 2147483648 := by decide
  rw [h4] at h3
  show bits BinOp.xor IntKind.u64 _ _ = _
  rw [h3]
  generalize mulN 10723151780598845931 (xs 27 (mulN 13787848793156543929 (xs 30 (mulN 11400714819323198485 ((k + 1) % M))))) = z
  unfold xs
  rw [Nat.shiftRight_eq_div_pow]
theorem mixI_word {k : Int} (h : 0 ≤ k) : Word (mixI k) := by
  obtain ⟨k, rfl⟩ := Int.eq_ofNat_of_zero_le h
  rw [mixI_eq]
  have : mixN k < M := xs_lt (mulN_lt _ _)
  unfold M at this
  exact ⟨by omega, by omega⟩
theorem mixI_inj {a b : Int} (ha : Word a) (hb : Word b) (h : mixI a = mixI b) : a = b := by
  obtain ⟨a0, a1⟩ := ha; obtain ⟨b0, b1⟩ := hb
  obtain ⟨a, rfl⟩ := Int.eq_ofNat_of_zero_le a0
  obtain ⟨b, rfl⟩ := Int.eq_ofNat_of_zero_le b0
  rw [mixI_eq, mixI_eq] at h
  have := mixN_inj (a := a) (b := b) (by unfold M; omega) (by unfold M; omega) (by omega)
  omega

/-- The lowest bits. -/
def lowI (x n : Int) : Int := if n < 1 then 0 else if 64 ≤ n then x else x % 2 ^ n.toNat
theorem low_bits {x n : Int} (hx : Word x) (h1 : 1 ≤ n) (h2 : n < 64) : bits BinOp.and IntKind.u64 x (IntKind.u64.wrap (IntKind.u64.wrap (2 ^ n.toNat) - 1)) = x % 2 ^ n.toNat := by
  obtain ⟨x0, x1⟩ := hx
  obtain ⟨x, rfl⟩ := Int.eq_ofNat_of_zero_le x0
  obtain ⟨n, rfl⟩ := Int.eq_ofNat_of_zero_le (show 0 ≤ n by omega)
  have hp : 2 ^ n < 2 ^ 64 := Nat.pow_lt_pow_right (by omega) (by omega)
  have hq : 0 < 2 ^ n := Nat.two_pow_pos n
  have e : IntKind.u64.wrap (IntKind.u64.wrap ((2 : Int) ^ ((n : Int)).toNat) - 1) = ((2 ^ n - 1 : Nat) : Int) := by
    rw [IntKind.wrap_u64, IntKind.wrap_u64]
    have : ((2 : Int) ^ ((n : Int)).toNat) = ((2 ^ n : Nat) : Int) := by simp
    rw [this]
    omega
  rw [e, bits_and_u64_nat x (2 ^ n - 1) (by omega) (by omega), Nat.and_two_pow_sub_one_eq_mod]
  simp
end Go.Proofs.Ytommldjoehjijaa
