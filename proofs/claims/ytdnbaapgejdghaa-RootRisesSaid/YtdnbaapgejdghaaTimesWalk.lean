/-
  THE WALK of the reference's product of two words, bit by bit.
-/
import Derived.Test.YtdnbaapgejdghaaBase
import Derived.Lib.Hide
import Derived.Laws.Bits64b
import Derived.WalkSmall
namespace Go.Proofs.Ytdnbaapgejdghaa
open Go.RowKit

theorem or_carry {hi lo : Int} (h0 : 0 ≤ hi) (h1 : hi < 9223372036854775808) (l0 : 0 ≤ lo) (l1 : lo < 18446744073709551616) :
    bits BinOp.or IntKind.u64 (hi * 2) (lo / 9223372036854775808) = hi * 2 + lo / 9223372036854775808 := by
  obtain ⟨c, hc⟩ := Int.eq_ofNat_of_zero_le (show 0 ≤ lo / 9223372036854775808 by omega)
  obtain ⟨h, rfl⟩ := Int.eq_ofNat_of_zero_le h0
  rw [hc]
  have hc1 : c < 2 := by omega
  have e : ((h : Int) * 2) = ((h * 2 : Nat) : Int) := by omega
  rw [e, bits_or_u64_nat (h * 2) c (by omega) (by omega)]
  have : h * 2 ||| c = h * 2 + c := by
    have := Nat.two_pow_add_eq_or_of_lt (i := 1) (b := c) (by omega) h
    rw [Nat.pow_one] at this
    rw [Nat.mul_comm]
    exact this.symm
  rw [this]
  omega
theorem half_step {b : Int} (k : Nat) (hk : 1 ≤ k) : b / 2 ^ (k - 1) = 2 * (b / 2 ^ k) + b / 2 ^ (k - 1) % 2 := by
  have e : (2 : Int) ^ k = 2 ^ (k - 1) * 2 := by rw [← Int.pow_succ]; congr 1; omega
  have hp : (0 : Int) ≤ 2 ^ (k - 1) := Int.le_of_lt (Int.pow_pos (by decide))
  rw [e, ← Int.ediv_ediv_of_nonneg hp]
  omega
theorem pred_cast {k : Nat} (h : 1 ≤ k) : ((k - 1 : Nat) : Int) = (k : Int) - 1 := by omega
theorem zero_part {a b : Int} (hb : Word b) : (0 : Int) * 18446744073709551616 + 0 = a * (b / 2 ^ 64) := by
  have e : (2 : Int) ^ 64 = 18446744073709551616 := by decide
  rw [e, Int.ediv_eq_zero_of_lt hb.1 hb.2]
  simp
theorem shr_word {b : Int} (hb : Word b) (k : Nat) : 0 ≤ b / 2 ^ k ∧ b / 2 ^ k ≤ 18446744073709551615 := by
  obtain ⟨b0, b1⟩ := hb
  obtain ⟨b, rfl⟩ := Int.eq_ofNat_of_zero_le b0
  have h1 := Nat.div_le_self b (2 ^ k)
  have h2 : ((b / 2 ^ k : Nat) : Int) = (b : Int) / 2 ^ k := by simp
  rw [← h2]
  generalize b / 2 ^ k = c at *
  exact ⟨by omega, by omega⟩
/-- What the product so far is, behind a round without the bit and with it. -/
theorem times_plain {a b hi lo : Int} {k : Nat} (ha : Word a) (hb : Word b) (l0 : 0 ≤ lo) (l1 : lo < 18446744073709551616) (hk : 1 ≤ k) (hV : hi * 18446744073709551616 + lo = a * (b / 2 ^ k)) :
    hi < 9223372036854775808 ∧
    (b / 2 ^ (k - 1) % 2 = 0 → (hi * 2 + lo / 9223372036854775808) * 18446744073709551616 + lo * 2 % 18446744073709551616 = a * (b / 2 ^ (k - 1))) ∧
    (b / 2 ^ (k - 1) % 2 = 1 → (lo * 2 % 18446744073709551616 + a) % 18446744073709551616 < a → hi * 2 + lo / 9223372036854775808 + 1 < 18446744073709551616 ∧ (hi * 2 + lo / 9223372036854775808 + 1) * 18446744073709551616 + (lo * 2 % 18446744073709551616 + a) % 18446744073709551616 = a * (b / 2 ^ (k - 1))) ∧
    (b / 2 ^ (k - 1) % 2 = 1 → a ≤ (lo * 2 % 18446744073709551616 + a) % 18446744073709551616 → (hi * 2 + lo / 9223372036854775808) * 18446744073709551616 + (lo * 2 % 18446744073709551616 + a) % 18446744073709551616 = a * (b / 2 ^ (k - 1))) := by
  obtain ⟨a0, a1⟩ := ha; obtain ⟨b0, b1⟩ := hb
  have hs := half_step (b := b) k hk
  have hp : (0 : Int) < 2 ^ (k - 1) := Int.pow_pos (by decide)
  have c0 : 0 ≤ b / 2 ^ (k - 1) := Int.ediv_nonneg b0 (by omega)
  have c1 : b / 2 ^ (k - 1) ≤ b := by
    obtain ⟨b, rfl⟩ := Int.eq_ofNat_of_zero_le b0
    have := Nat.div_le_self b (2 ^ (k - 1))
    exact_mod_cast this
  generalize b / 2 ^ (k - 1) = c at *
  generalize b / 2 ^ k = q at *
  have hac : a * c ≤ 18446744073709551615 * 18446744073709551615 := by
    refine Int.le_trans (Int.mul_le_mul_of_nonneg_left (show c ≤ 18446744073709551615 by omega) a0) ?_
    exact Int.mul_le_mul_of_nonneg_right (by omega) (by decide)
  have hm2 : (0 : Int) ≤ c % 2 := by omega
  have hm3 : c % 2 < 2 := by omega
  have h2 : a * c = 2 * (a * q) + a * (c % 2) := by
    conv => lhs; rw [hs]
    rw [Int.mul_add, ← Int.mul_assoc, Int.mul_comm a 2, Int.mul_assoc]
  have hr : 0 ≤ a * (c % 2) := Int.mul_nonneg a0 hm2
  rw [← hV] at h2
  refine ⟨by omega, fun hz => ?_, fun hz hl => ?_, fun hz hl => ?_⟩
  · rw [hz] at h2
    omega
  · rw [hz] at h2
    omega
  · rw [hz] at h2
    omega

set_option maxHeartbeats 1000000 in
theorem times_any (a b : Int) (ha : Word a) (hb : Word b) (w : World) :
    Calls Try.prog 14 #[.int .u64 a, .int .u64 b] w fun e w' => e = .returned (.agg #[.int .u64 (a * b / 18446744073709551616), .int .u64 (a * b % 18446744073709551616)]) ∧ Below w.heap.size w w' := by
  obtain ⟨a0, a1⟩ := id ha
  obtain ⟨b0, b1⟩ := id hb
  go_enter Try.func14, Try.ntmps14
  go_wp2_with fail
  go_loopw [6] (fun i wr => ∃ (k : Nat) (hi lo : Int), k ≤ 64 ∧ i = .int .i64 ((k : Int) - 1) ∧ 0 ≤ hi ∧ 0 ≤ lo ∧ lo < 18446744073709551616 ∧ Hid (hi * 18446744073709551616 + lo = a * (b / 2 ^ k)) ∧
      Below w.heap.size w wr ∧ w.heap.size + 1 < wr.heap.size ∧ wr.cell? ⟨w.heap.size + 1, 0, none⟩ = some (.int .u64 hi) ∧ wr.cell? ⟨w.heap.size + 1, 1, none⟩ = some (.int .u64 lo) ∧ wr.frozen? ⟨w.heap.size + 1, 0, none⟩ = false ∧ wr.frozen? ⟨w.heap.size + 1, 1, none⟩ = false ∧ wr.cell? ⟨w.heap.size, 0, none⟩ = some (.int .u64 0) ∧ wr.cell? ⟨w.heap.size, 1, none⟩ = some (.int .u64 0) ∧ wr.frozen? ⟨w.heap.size, 0, none⟩ = false ∧ wr.frozen? ⟨w.heap.size, 1, none⟩ = false) (fun i _ => (intOf i + 1).toNat)
  case atStart =>
    exact ⟨64, 0, 0, by omega, rfl, by omega, by omega, by omega, zero_part hb, by go_grown, by simp, by simp, by simp, by simp [go_sem], by simp [go_sem], by simp, by simp, by simp [go_sem], by simp [go_sem]⟩
  case round =>
    obtain ⟨k, hi, lo, hk, rfl, h0, l0, l1, hV, hB, hs, s0, s1, sf0, sf1, r0, r1, rf0, rf1⟩ := hrel
    by_cases hlt : 1 ≤ k
    · obtain ⟨hh, p0, p1, p2⟩ := times_plain ha hb l0 l1 hlt hV
      have P0 := Lib.hid p0
      have P1 := Lib.hid p1
      have P2 := Lib.hid p2
      clear p0 p1 p2
      have hd : decide (0 ≤ (k : Int) - 1) = true := by simp; omega
      have ho := or_carry h0 hh l0 l1
      have hbit := and_one_u64 (b / 2 ^ (k - 1)) (Int.ediv_nonneg b0 (Int.le_of_lt (Int.pow_pos (by decide)))) (shr_word hb _).2
      have g1 : ∀ x y, ((wr.setCell ⟨w.heap.size + 1, 0, none⟩ x).setCell ⟨w.heap.size + 1, 1, none⟩ y).cell? ⟨w.heap.size + 1, 1, none⟩ = some y := by intro x y; simp [go_sem, *]
      have g2 : ∀ x y z, (((wr.setCell ⟨w.heap.size + 1, 0, none⟩ x).setCell ⟨w.heap.size + 1, 1, none⟩ y).setCell ⟨w.heap.size + 1, 1, none⟩ z).cell? ⟨w.heap.size + 1, 1, none⟩ = some z := by intro x y z; simp [go_sem, *]
      have g3 : ∀ x y z, (((wr.setCell ⟨w.heap.size + 1, 0, none⟩ x).setCell ⟨w.heap.size + 1, 1, none⟩ y).setCell ⟨w.heap.size + 1, 1, none⟩ z).cell? ⟨w.heap.size + 1, 0, none⟩ = some x := by intro x y z; simp [go_sem, *]
      have g4 : ∀ x y z u, ((((wr.setCell ⟨w.heap.size + 1, 0, none⟩ x).setCell ⟨w.heap.size + 1, 1, none⟩ y).setCell ⟨w.heap.size + 1, 1, none⟩ z).setCell ⟨w.heap.size + 1, 0, none⟩ u).cell? ⟨w.heap.size + 1, 0, none⟩ = some u := by intro x y z u; simp [go_sem, *]
      have g5 : ∀ x y z u, ((((wr.setCell ⟨w.heap.size + 1, 0, none⟩ x).setCell ⟨w.heap.size + 1, 1, none⟩ y).setCell ⟨w.heap.size + 1, 1, none⟩ z).setCell ⟨w.heap.size + 1, 0, none⟩ u).cell? ⟨w.heap.size + 1, 1, none⟩ = some z := by intro x y z u; simp [go_sem, *]
      have hwr : IntKind.u64.wrap (lo * 2) = lo * 2 % 18446744073709551616 := IntKind.wrap_u64 _
      have hwa : IntKind.u64.wrap (lo * 2 % 18446744073709551616 + a) = (lo * 2 % 18446744073709551616 + a) % 18446744073709551616 := IntKind.wrap_u64 _
      by_cases hz : b / 2 ^ (k - 1) % 2 = 0
      · have hzb : (b / 2 ^ (k - 1) % 2 == 1) = false := by simp; omega
        have E := Lib.hid (P0.out hz)
        clear hz hwa
        go_wp2_with fail
        go_roundw
        case rel => exact ⟨k - 1, hi * 2 + lo / 9223372036854775808, lo * 2 % 18446744073709551616, by omega, by rw [pred_cast hlt], by omega, by omega, by omega, E, ((hB.setCell (by simp) _).setCell (by simp) _), by simp; omega, by simp [go_sem, *], by simp [go_sem, *], by simp [go_sem, *], by simp [go_sem, *], by simp [go_sem, *], by simp [go_sem, *], by simp [go_sem, *], by simp [go_sem, *]⟩
        case measure => simp [intOf]; omega
      · have hz : b / 2 ^ (k - 1) % 2 = 1 := by omega
        have hzb : (b / 2 ^ (k - 1) % 2 == 1) = true := by simp [hz]
        by_cases hcar : (lo * 2 % 18446744073709551616 + a) % 18446744073709551616 < a
        · obtain ⟨hb3, e⟩ := P1.out hz hcar
          have E := Lib.hid e
          clear hz e
          go_wp2_with fail
          go_roundw
          case rel => exact ⟨k - 1, hi * 2 + lo / 9223372036854775808 + 1, (lo * 2 % 18446744073709551616 + a) % 18446744073709551616, by omega, by rw [pred_cast hlt], by omega, by omega, by omega, E, ((((hB.setCell (by simp) _).setCell (by simp) _).setCell (by simp) _).setCell (by simp) _), by simp; omega, by simp [go_sem, *], by simp [go_sem, *], by simp [go_sem, *], by simp [go_sem, *], by simp [go_sem, *], by simp [go_sem, *], by simp [go_sem, *], by simp [go_sem, *]⟩
          case measure => simp [intOf]; omega
        · have E := Lib.hid (P2.out hz (by omega))
          clear hz
          go_wp2_with fail
          go_roundw
          case rel => exact ⟨k - 1, hi * 2 + lo / 9223372036854775808, (lo * 2 % 18446744073709551616 + a) % 18446744073709551616, by omega, by rw [pred_cast hlt], by omega, by omega, by omega, E, (((hB.setCell (by simp) _).setCell (by simp) _).setCell (by simp) _), by simp; omega, by simp [go_sem, *], by simp [go_sem, *], by simp [go_sem, *], by simp [go_sem, *], by simp [go_sem, *], by simp [go_sem, *], by simp [go_sem, *], by simp [go_sem, *]⟩
          case measure => simp [intOf]; omega
    · have hd : decide (0 ≤ (k : Int) - 1) = false := by simp; omega
      have hk0 : k = 0 := by omega
      have e : hi * 18446744073709551616 + lo = a * b := by have := hV.out; rw [hk0] at this; simpa using this
      have hk1 : (k : Int) < 1 := by omega
      have E := Lib.hid e
      clear e hlt hk0
      go_wp2_with fail
      have e1 : hi = a * b / 18446744073709551616 := by have := E.out; omega
      have e2 : lo = a * b % 18446744073709551616 := by have := E.out; omega
      refine bodyPost_ret (v := .agg #[.int .u64 hi, .int .u64 lo]) (by simp [results, Try.results14, go_sem, r0, r1]) rfl ⟨by rw [← e1, ← e2], by go_grown⟩
end Go.Proofs.Ytdnbaapgejdghaa
