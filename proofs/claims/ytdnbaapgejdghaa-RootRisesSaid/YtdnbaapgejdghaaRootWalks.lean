/-
  THE WALKS of package root (chapter 3) and of the reference's functions: is a third power at most a number of two words?
-/
import Derived.Test.YtdnbaapgejdghaaTimesWalk
import Derived.Test.YtdnbaapgejdghaaShelf
namespace Go.Proofs.Ytdnbaapgejdghaa
open Go.RowKit

theorem ret_int {k : IntKind} {a b : Int} (h : a = b) : Ending.returned (.int k a) = .returned (.int k b) := by rw [h]
theorem ret_bool {a b : Bool} (h : a = b) : Ending.returned (.bool a) = .returned (.bool b) := by rw [h]

theorem wmul_any (a b : Int) (ha : Word a) (hb : Word b) (w : World) :
    Calls Try.prog 13 #[.int .u64 a, .int .u64 b] w fun e w' => e = .returned (.tuple #[.int .u64 (a * b / 18446744073709551616), .int .u64 (a * b % 18446744073709551616)]) ∧ w = w' := by
  obtain ⟨a0, a1⟩ := ha; obtain ⟨b0, b1⟩ := hb
  obtain ⟨a, rfl⟩ := Int.eq_ofNat_of_zero_le a0
  obtain ⟨b, rfl⟩ := Int.eq_ofNat_of_zero_le b0
  have hm := fun w => Try.bits_Mul64 a b (by omega) (by omega) w
  have e1 : ((a * b / 18446744073709551616 : Nat) : Int) = (a : Int) * b / 18446744073709551616 := by simp
  have e2 : ((a * b % 18446744073709551616 : Nat) : Int) = (a : Int) * b % 18446744073709551616 := by simp
  rw [e1, e2] at hm
  have HM := Lib.hid hm
  clear hm e1 e2
  go_enter Try.func13, Try.ntmps13
  go_wp2_with fail
  refine (HM.out _).mono ?_; rintro e w' ⟨rfl, rfl⟩
  go_wp2_with fail
  go_ret2
  exact ⟨rfl, rfl⟩

/-- Is the third power of r at most hi times 2^64, and lo? -/
def belowB (r hi lo : Int) : Bool := decide (r * r * r ≤ hi * 18446744073709551616 + lo)

theorem cube_parts (r : Int) : r * r * r = r * r / 18446744073709551616 * r * 18446744073709551616 + r * r % 18446744073709551616 * r := by
  have h : r * r = r * r / 18446744073709551616 * 18446744073709551616 + r * r % 18446744073709551616 := by omega
  conv => lhs; rw [h]
  rw [Int.add_mul, Int.mul_assoc, Int.mul_assoc, Int.mul_comm 18446744073709551616 r]

/-- What the program compares, of the two partial products X (times 2^64) and Y. -/
theorem cmp_parts {X Y Z hi lo a b c d t : Int} (hX : 0 ≤ X) (hY : 0 ≤ Y) (hYm : Y < 18446744073709551616 * 18446744073709551616) (hZ : Z = X * 18446744073709551616 + Y)
    (hh : Word hi) (hl : Word lo) (ha : a = X / 18446744073709551616) (hb : b = X % 18446744073709551616) (hc : c = Y / 18446744073709551616) (hd : d = Y % 18446744073709551616) (ht : t = (b + c) % 18446744073709551616) :
    (0 ≤ b ∧ 0 ≤ c ∧ 0 ≤ t ∧ 0 ≤ d ∧ b < 18446744073709551616 ∧ c < 18446744073709551616 ∧ (t < b ↔ t < c)) ∧ (0 < a → ¬ Z ≤ hi * 18446744073709551616 + lo) ∧ (a ≤ 0 → t < b → ¬ Z ≤ hi * 18446744073709551616 + lo) ∧
    (a ≤ 0 → b ≤ t → (t < hi → Z ≤ hi * 18446744073709551616 + lo) ∧ (hi < t → ¬ Z ≤ hi * 18446744073709551616 + lo) ∧ (t = hi → (Z ≤ hi * 18446744073709551616 + lo ↔ d ≤ lo))) := by
  obtain ⟨h0, h1⟩ := hh; obtain ⟨l0, l1⟩ := hl
  have c1 : c < 18446744073709551616 := by omega
  refine ⟨⟨by omega, by omega, by omega, by omega, by omega, c1, by constructor <;> (intro h; omega)⟩, fun h => by omega, fun h h' => by omega, fun h h' => ⟨fun g => by omega, fun g => by omega, fun g => ⟨fun k => by omega, fun k => by omega⟩⟩⟩
theorem square_words {r : Int} (hr : Word r) : Word (r * r / 18446744073709551616) ∧ Word (r * r % 18446744073709551616) ∧ 0 ≤ r * r / 18446744073709551616 * r ∧ 0 ≤ r * r % 18446744073709551616 * r ∧ r * r % 18446744073709551616 * r < 18446744073709551616 * 18446744073709551616 := by
  obtain ⟨r0, r1⟩ := hr
  have h0 := Int.mul_nonneg r0 r0
  have h1 : r * r ≤ 18446744073709551615 * 18446744073709551615 := by
    refine Int.le_trans (Int.mul_le_mul_of_nonneg_left (show r ≤ 18446744073709551615 by omega) r0) ?_
    exact Int.mul_le_mul_of_nonneg_right (by omega) (by decide)
  generalize r * r = s at *
  have a0 : 0 ≤ s / 18446744073709551616 := by omega
  have b0 : 0 ≤ s % 18446744073709551616 := by omega
  have b1 : s % 18446744073709551616 < 18446744073709551616 := by omega
  refine ⟨⟨a0, by omega⟩, ⟨b0, b1⟩, Int.mul_nonneg a0 r0, Int.mul_nonneg b0 r0, ?_⟩
  have h2 : s % 18446744073709551616 * r ≤ 18446744073709551615 * 18446744073709551615 := by
    refine Int.le_trans (Int.mul_le_mul_of_nonneg_left (show r ≤ 18446744073709551615 by omega) b0) ?_
    exact Int.mul_le_mul_of_nonneg_right (by omega) (by decide)
  omega
theorem big_root {r hi lo : Int} (hr : 8796093022208 ≤ r) (hh : Word hi) (hl : Word lo) : belowB r hi lo = false := by
  obtain ⟨h0, h1⟩ := hh; obtain ⟨l0, l1⟩ := hl
  have a1 : 8796093022208 * 8796093022208 ≤ r * r := Int.mul_le_mul hr hr (by decide) (by omega)
  have a2 : 8796093022208 * 8796093022208 * 8796093022208 ≤ r * r * r := Int.mul_le_mul a1 hr (by decide) (by omega)
  unfold belowB
  simp
  omega
set_option maxHeartbeats 1000000 in
theorem below_any (r hi lo : Int) (hr : Word r) (hh : Word hi) (hl : Word lo) (w : World) :
    Calls Try.prog 11 #[.int .u64 r, .int .u64 hi, .int .u64 lo] w fun e w' => e = .returned (.bool (belowB r hi lo)) ∧ w = w' := by
  by_cases hbig : 8796093022208 ≤ r
  · have e := big_root hbig hh hl
    have E := Lib.hid e
    clear e
    go_enter Try.func11, Try.ntmps11
    go_wp2_with fail
    go_ret
    exact ⟨ret_bool E.out.symm, rfl⟩
  · have hbig' : decide (8796093022208 ≤ r) = false := by simp; omega
    obtain ⟨q1, q2, q3, q4, q5⟩ := square_words hr
    have k1 := fun w => wmul_any r r hr hr w
    have k2 := fun w => wmul_any (r * r / 18446744073709551616) r q1 hr w
    have k3 := fun w => wmul_any (r * r % 18446744073709551616) r q2 hr w
    obtain ⟨⟨b0, c0, t0, d0, b1, c1, tbc⟩, p1, p2, p3⟩ := cmp_parts q3 q4 q5 (cube_parts r) hh hl rfl rfl rfl rfl rfl
    have hB : belowB r hi lo = decide (r * r * r ≤ hi * 18446744073709551616 + lo) := rfl
    generalize r * r / 18446744073709551616 * r / 18446744073709551616 = a at *
    generalize r * r / 18446744073709551616 * r % 18446744073709551616 = b at *
    generalize r * r % 18446744073709551616 * r / 18446744073709551616 = c at *
    generalize r * r % 18446744073709551616 * r % 18446744073709551616 = d at *
    generalize r * r / 18446744073709551616 = s1 at *
    generalize r * r % 18446744073709551616 = s2 at *
    have hwr : IntKind.u64.wrap (b + c) = (b + c) % 18446744073709551616 := IntKind.wrap_u64 _
    generalize (b + c) % 18446744073709551616 = t at *
    have K1 := Lib.hid k1
    have K2 := Lib.hid k2
    have K3 := Lib.hid k3
    have P1 := Lib.hid p1
    have P2 := Lib.hid p2
    have P3 := Lib.hid p3
    have HB := Lib.hid hB
    clear k1 k2 k3 p1 p2 p3 hB hbig q1 q2 q3 q4 q5 tbc
    by_cases ga : 0 < a
    · have e : belowB r hi lo = false := by rw [HB.out]; simpa using P1.out ga
      have E := Lib.hid e
      clear e
      go_enter Try.func11, Try.ntmps11
      go_wp2_with fail
      refine (K1.out _).mono ?_; rintro e w' ⟨rfl, rfl⟩
      go_wp2_with fail
      refine (K2.out _).mono ?_; rintro e w' ⟨rfl, rfl⟩
      go_wp2_with fail
      refine (K3.out _).mono ?_; rintro e w' ⟨rfl, rfl⟩
      go_wp2_with fail
      go_ret
      exact ⟨ret_bool (by have := E; unfold Hid at this; exact this.symm), rfl⟩
    · have ga' : decide (0 < a) = false := by simp; omega
      have ga0 : a ≤ 0 := by omega
      clear ga
      by_cases gt : t < b
      · have e : belowB r hi lo = false := by rw [HB.out]; simpa using P2.out ga0 gt
        have E := Lib.hid e
        clear e
        go_enter Try.func11, Try.ntmps11
        go_wp2_with fail
        refine (K1.out _).mono ?_; rintro e w' ⟨rfl, rfl⟩
        go_wp2_with fail
        refine (K2.out _).mono ?_; rintro e w' ⟨rfl, rfl⟩
        go_wp2_with fail
        refine (K3.out _).mono ?_; rintro e w' ⟨rfl, rfl⟩
        go_wp2_with fail
        go_ret
        exact ⟨ret_bool (by have := E; unfold Hid at this; exact this.symm), rfl⟩
      · obtain ⟨x1, x2, x3⟩ := P3.out ga0 (by omega)
        have gt' : decide (t < b) = false := by simp; omega
        clear gt
        by_cases g1 : t < hi
        · have e : belowB r hi lo = true := by rw [HB.out]; simpa using x1 g1
          have E := Lib.hid e
          clear e x1 x2 x3
          go_enter Try.func11, Try.ntmps11
          go_wp2_with fail
          refine (K1.out _).mono ?_; rintro e w' ⟨rfl, rfl⟩
          go_wp2_with fail
          refine (K2.out _).mono ?_; rintro e w' ⟨rfl, rfl⟩
          go_wp2_with fail
          refine (K3.out _).mono ?_; rintro e w' ⟨rfl, rfl⟩
          go_wp2_with fail
          go_ret
          exact ⟨ret_bool (by have := E; unfold Hid at this; exact this.symm), rfl⟩
        · have g1' : decide (t < hi) = false := by simp; omega
          by_cases g2 : t = hi
          · have e : belowB r hi lo = decide (d ≤ lo) := by rw [HB.out, decide_eq_decide]; exact x3 g2
            have E := Lib.hid e
            have g2b : (t == hi) = true := by simp [g2]
            clear e x1 x2 x3 g1 g2
            go_enter Try.func11, Try.ntmps11
            go_wp2_with fail
            refine (K1.out _).mono ?_; rintro e w' ⟨rfl, rfl⟩
            go_wp2_with fail
            refine (K2.out _).mono ?_; rintro e w' ⟨rfl, rfl⟩
            go_wp2_with fail
            refine (K3.out _).mono ?_; rintro e w' ⟨rfl, rfl⟩
            go_wp2_with fail
            go_ret
            exact ⟨ret_bool (by have := E; unfold Hid at this; exact this.symm), rfl⟩
          · have e : belowB r hi lo = false := by rw [HB.out]; simpa using x2 (by omega)
            have E := Lib.hid e
            have g2b : (t == hi) = false := by simp [g2]
            clear e x1 x2 x3 g1 g2
            go_enter Try.func11, Try.ntmps11
            go_wp2_with fail
            refine (K1.out _).mono ?_; rintro e w' ⟨rfl, rfl⟩
            go_wp2_with fail
            refine (K2.out _).mono ?_; rintro e w' ⟨rfl, rfl⟩
            go_wp2_with fail
            refine (K3.out _).mono ?_; rintro e w' ⟨rfl, rfl⟩
            go_wp2_with fail
            go_ret
            exact ⟨ret_bool (by have := E; unfold Hid at this; exact this.symm), rfl⟩

set_option maxHeartbeats 1000000 in
theorem under_any (r hi lo : Int) (hr : Word r) (hh : Word hi) (hl : Word lo) (w : World) :
    Calls Try.prog 12 #[.int .u64 r, .int .u64 hi, .int .u64 lo] w fun e w' => e = .returned (.bool (belowB r hi lo)) ∧ Below w.heap.size w w' := by
  by_cases hbig : 8796093022208 ≤ r
  · have e := big_root hbig hh hl
    have E := Lib.hid e
    clear e
    go_enter Try.func12, Try.ntmps12
    go_wp2_with fail
    go_ret
    exact ⟨ret_bool E.out.symm, Below.refl _ _⟩
  · have hbig' : decide (8796093022208 ≤ r) = false := by simp; omega
    obtain ⟨q1, q2, q3, q4, q5⟩ := square_words hr
    have k1 := fun w => times_any r r hr hr w
    have k2 := fun w => times_any (r * r / 18446744073709551616) r q1 hr w
    have k3 := fun w => times_any (r * r % 18446744073709551616) r q2 hr w
    obtain ⟨⟨b0, c0, t0, d0, b1, c1, tbc⟩, p1, p2, p3⟩ := cmp_parts q3 q4 q5 (cube_parts r) hh hl rfl rfl rfl rfl rfl
    have hB : belowB r hi lo = decide (r * r * r ≤ hi * 18446744073709551616 + lo) := rfl
    generalize r * r / 18446744073709551616 * r / 18446744073709551616 = a at *
    generalize r * r / 18446744073709551616 * r % 18446744073709551616 = b at *
    generalize r * r % 18446744073709551616 * r / 18446744073709551616 = c at *
    generalize r * r % 18446744073709551616 * r % 18446744073709551616 = d at *
    generalize r * r / 18446744073709551616 = s1 at *
    generalize r * r % 18446744073709551616 = s2 at *
    have hwr : IntKind.u64.wrap (b + c) = (b + c) % 18446744073709551616 := IntKind.wrap_u64 _
    generalize (b + c) % 18446744073709551616 = t at *
    have K1 := Lib.hid k1
    have K2 := Lib.hid k2
    have K3 := Lib.hid k3
    have P1 := Lib.hid p1
    have P2 := Lib.hid p2
    have P3 := Lib.hid p3
    have HB := Lib.hid hB
    have TB := Lib.hid tbc
    clear k1 k2 k3 p1 p2 p3 hB hbig q1 q2 q3 q4 q5 tbc
    by_cases ga : 0 < a
    · have e : belowB r hi lo = false := by rw [HB.out]; simpa using P1.out ga
      have E := Lib.hid e
      clear e
      go_enter Try.func12, Try.ntmps12
      go_wp2_with fail
      refine (K1.out _).mono ?_; rintro e w1 ⟨rfl, h1⟩
      have z1 := h1.size
      go_wp2_with fail
      refine (K2.out _).mono ?_; rintro e w2 ⟨rfl, h2⟩
      have z2 : w1.heap.size < w2.heap.size := by have := h2.size; simp at this; omega
      have c10 := h2.cell (p := ⟨w1.heap.size, 0, none⟩) (by simp)
      have c11 := h2.cell (p := ⟨w1.heap.size, 1, none⟩) (by simp)
      have h2 := below_after h2
      simp at c10 c11
      go_wp2_with fail
      refine (K3.out _).mono ?_; rintro e w3 ⟨rfl, h3⟩
      have z3 : w2.heap.size < w3.heap.size := by have := h3.size; simp at this; omega
      have c20 := h3.cell (p := ⟨w2.heap.size, 0, none⟩) (by simp)
      have c21 := h3.cell (p := ⟨w2.heap.size, 1, none⟩) (by simp)
      have h3 := below_after h3
      have hbl : Below w.heap.size w w3 := (h1.trans (h2.mono z1)).trans (h3.mono (by omega))
      simp at c20 c21
      go_wp2_with fail
      go_ret
      exact ⟨ret_bool (by have := E; unfold Hid at this; exact this.symm), by go_grown⟩
    · have ga' : decide (0 < a) = false := by simp; omega
      have ga0 : a ≤ 0 := by omega
      clear ga
      by_cases gt : t < b
      · have e : belowB r hi lo = false := by rw [HB.out]; simpa using P2.out ga0 gt
        have gt := TB.out.1 gt
        have E := Lib.hid e
        clear e
        go_enter Try.func12, Try.ntmps12
        go_wp2_with fail
        refine (K1.out _).mono ?_; rintro e w1 ⟨rfl, h1⟩
        have z1 := h1.size
        go_wp2_with fail
        refine (K2.out _).mono ?_; rintro e w2 ⟨rfl, h2⟩
        have z2 : w1.heap.size < w2.heap.size := by have := h2.size; simp at this; omega
        have c10 := h2.cell (p := ⟨w1.heap.size, 0, none⟩) (by simp)
        have c11 := h2.cell (p := ⟨w1.heap.size, 1, none⟩) (by simp)
        have h2 := below_after h2
        simp at c10 c11
        go_wp2_with fail
        refine (K3.out _).mono ?_; rintro e w3 ⟨rfl, h3⟩
        have z3 : w2.heap.size < w3.heap.size := by have := h3.size; simp at this; omega
        have c20 := h3.cell (p := ⟨w2.heap.size, 0, none⟩) (by simp)
        have c21 := h3.cell (p := ⟨w2.heap.size, 1, none⟩) (by simp)
        have h3 := below_after h3
        have hbl : Below w.heap.size w w3 := (h1.trans (h2.mono z1)).trans (h3.mono (by omega))
        simp at c20 c21
        go_wp2_with fail
        go_ret
        exact ⟨ret_bool (by have := E; unfold Hid at this; exact this.symm), by go_grown⟩
      · obtain ⟨x1, x2, x3⟩ := P3.out ga0 (by omega)
        have gt' : decide (t < c) = false := by simp; have := TB.out; omega
        clear gt
        by_cases g1 : t < hi
        · have e : belowB r hi lo = true := by rw [HB.out]; simpa using x1 g1
          have E := Lib.hid e
          clear e x1 x2 x3
          go_enter Try.func12, Try.ntmps12
          go_wp2_with fail
          refine (K1.out _).mono ?_; rintro e w1 ⟨rfl, h1⟩
          have z1 := h1.size
          go_wp2_with fail
          refine (K2.out _).mono ?_; rintro e w2 ⟨rfl, h2⟩
          have z2 : w1.heap.size < w2.heap.size := by have := h2.size; simp at this; omega
          have c10 := h2.cell (p := ⟨w1.heap.size, 0, none⟩) (by simp)
          have c11 := h2.cell (p := ⟨w1.heap.size, 1, none⟩) (by simp)
          have h2 := below_after h2
          simp at c10 c11
          go_wp2_with fail
          refine (K3.out _).mono ?_; rintro e w3 ⟨rfl, h3⟩
          have z3 : w2.heap.size < w3.heap.size := by have := h3.size; simp at this; omega
          have c20 := h3.cell (p := ⟨w2.heap.size, 0, none⟩) (by simp)
          have c21 := h3.cell (p := ⟨w2.heap.size, 1, none⟩) (by simp)
          have h3 := below_after h3
          have hbl : Below w.heap.size w w3 := (h1.trans (h2.mono z1)).trans (h3.mono (by omega))
          simp at c20 c21
          go_wp2_with fail
          go_ret
          exact ⟨ret_bool (by have := E; unfold Hid at this; exact this.symm), by go_grown⟩
        · have g1' : decide (t < hi) = false := by simp; omega
          by_cases g2 : t = hi
          · have e : belowB r hi lo = decide (d ≤ lo) := by rw [HB.out, decide_eq_decide]; exact x3 g2
            have E := Lib.hid e
            have g2b : (t == hi) = true := by simp [g2]
            clear e x1 x2 x3 g1 g2
            go_enter Try.func12, Try.ntmps12
            go_wp2_with fail
            refine (K1.out _).mono ?_; rintro e w1 ⟨rfl, h1⟩
            have z1 := h1.size
            go_wp2_with fail
            refine (K2.out _).mono ?_; rintro e w2 ⟨rfl, h2⟩
            have z2 : w1.heap.size < w2.heap.size := by have := h2.size; simp at this; omega
            have c10 := h2.cell (p := ⟨w1.heap.size, 0, none⟩) (by simp)
            have c11 := h2.cell (p := ⟨w1.heap.size, 1, none⟩) (by simp)
            have h2 := below_after h2
            simp at c10 c11
            go_wp2_with fail
            refine (K3.out _).mono ?_; rintro e w3 ⟨rfl, h3⟩
            have z3 : w2.heap.size < w3.heap.size := by have := h3.size; simp at this; omega
            have c20 := h3.cell (p := ⟨w2.heap.size, 0, none⟩) (by simp)
            have c21 := h3.cell (p := ⟨w2.heap.size, 1, none⟩) (by simp)
            have h3 := below_after h3
            have hbl : Below w.heap.size w w3 := (h1.trans (h2.mono z1)).trans (h3.mono (by omega))
            simp at c20 c21
            go_wp2_with fail
            go_ret
            exact ⟨ret_bool (by have := E; unfold Hid at this; exact this.symm), by go_grown⟩
          · have e : belowB r hi lo = false := by rw [HB.out]; simpa using x2 (by omega)
            have E := Lib.hid e
            have g2b : (t == hi) = false := by simp [g2]
            clear e x1 x2 x3 g1 g2
            go_enter Try.func12, Try.ntmps12
            go_wp2_with fail
            refine (K1.out _).mono ?_; rintro e w1 ⟨rfl, h1⟩
            have z1 := h1.size
            go_wp2_with fail
            refine (K2.out _).mono ?_; rintro e w2 ⟨rfl, h2⟩
            have z2 : w1.heap.size < w2.heap.size := by have := h2.size; simp at this; omega
            have c10 := h2.cell (p := ⟨w1.heap.size, 0, none⟩) (by simp)
            have c11 := h2.cell (p := ⟨w1.heap.size, 1, none⟩) (by simp)
            have h2 := below_after h2
            simp at c10 c11
            go_wp2_with fail
            refine (K3.out _).mono ?_; rintro e w3 ⟨rfl, h3⟩
            have z3 : w2.heap.size < w3.heap.size := by have := h3.size; simp at this; omega
            have c20 := h3.cell (p := ⟨w2.heap.size, 0, none⟩) (by simp)
            have c21 := h3.cell (p := ⟨w2.heap.size, 1, none⟩) (by simp)
            have h3 := below_after h3
            have hbl : Below w.heap.size w w3 := (h1.trans (h2.mono z1)).trans (h3.mono (by omega))
            simp at c20 c21
            go_wp2_with fail
            go_ret
            exact ⟨ret_bool (by have := E; unfold Hid at this; exact this.symm), by go_grown⟩
end Go.Proofs.Ytdnbaapgejdghaa
