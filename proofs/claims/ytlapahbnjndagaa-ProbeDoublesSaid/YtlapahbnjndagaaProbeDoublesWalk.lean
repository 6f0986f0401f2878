/-
  THE WALK of law ProbeDoubles.
-/
import Derived.Test.YtlapahbnjndagaaProbeWalks
namespace Go.Proofs.Ytlapahbnjndagaa
open Go.RowKit

theorem shl_shl {a m n : Int} (h0 : 0 ≤ m) (h1 : 0 ≤ n) : shlI (shlI a m) n = shlI a (m + n) := by
  obtain ⟨m, rfl⟩ := Int.eq_ofNat_of_zero_le h0
  obtain ⟨n, rfl⟩ := Int.eq_ofNat_of_zero_le h1
  have e : ((m : Int) + n).toNat = m + n := by omega
  have hp : (1 : Int) ≤ 2 ^ n := by
    have := Nat.two_pow_pos n
    have : (1 : Nat) ≤ 2 ^ n := this
    exact_mod_cast this
  have e2 : a * 2 ^ (m + n) = a * 2 ^ m * 2 ^ n := by rw [Int.pow_add, Int.mul_assoc]
  by_cases h : a * 2 ^ m < 18446744073709551616
  · have : shlI a m = a * 2 ^ m := by unfold shlI; simp only [Int.toNat_natCast]; rw [if_pos h]
    rw [this]
    unfold shlI
    rw [e, e2]
    simp only [Int.toNat_natCast]
  · have : shlI a m = 18446744073709551615 := by unfold shlI; simp only [Int.toNat_natCast]; rw [if_neg h]
    rw [this, shlI_top]
    unfold shlI
    rw [e, e2]
    have h3 : a * 2 ^ m * 1 ≤ a * 2 ^ m * 2 ^ n := Int.mul_le_mul_of_nonneg_left hp (by omega)
    rw [if_neg (by omega)]
theorem shl_one {a : Int} : shlI a 1 = mulI a 2 := by
  unfold shlI mulI
  have : a * 2 ^ (1 : Int).toNat = a * 2 := by
    have : (1 : Int).toNat = 1 := by decide
    rw [this]; omega
  rw [this]
theorem back_next {d n most : Int} (hd : Word d) (hm : Word most) (h0 : 0 ≤ n) :
    min (mulI (backI d n most) 2) most = backI d (n + 1) most := by
  have e : shlI d (n + 1) = mulI (shlI d n) 2 := by rw [← shl_shl h0 (by decide), shl_one]
  have hs := shlI_word (n := n) hd
  obtain ⟨_, _⟩ := hm
  unfold backI
  rw [e]
  obtain ⟨_, _⟩ := hs
  unfold mulI
  generalize shlI d n = s at *
  (repeat' split) <;> omega
theorem back_zero {d most : Int} (hd : Word d) : backI d 0 most = min d most := by
  unfold backI; rw [shlI_zero hd (by decide)]

set_option maxHeartbeats 2000000 in
theorem probeDoubles_walk (t most n now : Int) (w : World) (wt : (Lit.int .u32 t).wf = true) (wm : (Lit.int .u64 most).wf = true) (wn : (Lit.int .u8 n).wf = true) (ww : (Lit.int .u32 now).wf = true) :
    Calls Try.prog 5 #[.int .u32 t, .int .u64 most, .int .u8 n, .int .u32 now] w fun e w' => e = .returned (.bool true) ∧ Below w.heap.size w w' := by
  obtain ⟨t0, t1⟩ := u32_of_wf wt
  have hm := word_of_wf wm
  obtain ⟨n0, n1⟩ := byte_of_wf wn
  obtain ⟨o0, o1⟩ := u32_of_wf ww
  have ht : Word t := ⟨t0, by omega⟩
  clear wt wm wn ww
  have hz := back_zero (most := most) ht
  have HZ := Lib.hid hz
  clear hz
  go_enter Try.func5, Try.ntmps5
  go_wp2_with fail
  refine (probe_alive _).mono ?_; rintro e w1 ⟨rfl, hg⟩
  have hg1 := hg.size
  go_wp2_with fail
  go_loopw [10, 11] (fun d i wr => ∃ (k : Nat) (F c : Int), (k : Int) ≤ n ∧ i = .int .i64 k ∧ c = min (k : Int) 60 ∧ d = .int .u64 (backI t c most) ∧ Word F ∧
      Below w.heap.size w wr ∧ w1.heap.size < wr.heap.size ∧ wr.cell? ⟨w1.heap.size, 0, none⟩ = some (.int .i64 c) ∧ wr.cell? ⟨w1.heap.size, 1, none⟩ = some (.int .u64 F) ∧ (∀ o, wr.frozen? ⟨w1.heap.size, o, none⟩ = false)) (fun _ i _ => (n - intOf i).toNat)
  case atStart =>
    exact ⟨0, now, 0, by omega, rfl, by omega, by rw [HZ.out], ⟨by omega, by omega⟩, by go_grown, by simp, by simp, by simp, fun o => by simp [go_sem]⟩
  case round =>
    obtain ⟨k, F, c, hk, rfl, hc, rfl, hF, hb, hs, s0, s1, sf⟩ := hrel
    have hc0 : 0 ≤ c := by omega
    have hc1 : c ≤ 60 := by omega
    have sf0 := sf 0
    have sf1 := sf 1
    have SF := Lib.hid sf
    clear sf
    by_cases hlt : (k : Int) < n
    · have hD := backI_word (c := c) ht hm
      have k1 := fun w => deadline_yes c F t most hF ht hm (by omega) w
      have k2 := fun w => add1_any F (backI t c most) hF hD w
      have k3 := fun w => mul1_any (backI t c most) 2 hD (by unfold Word; decide) w
      have hnx := back_next (n := c) ht hm hc0
      have hE : Word (deadI c F t most) := addI_word hF hD
      have k4 := fun w => fired_any c F (deadI c F t most) w
      have e1 : deadI c F t most = addI F (backI t c most) := rfl
      rw [e1] at k1 k4 hE
      generalize addI F (backI t c most) = A at *
      have hcc : firedI c = min ((k : Int) + 1) 60 := by unfold firedI; omega
      rw [hcc] at k4
      have K1 := Lib.hid k1
      have K2 := Lib.hid k2
      have K3 := Lib.hid k3
      have K4 := Lib.hid k4
      have NX := Lib.hid hnx
      have HC := Lib.hid hc
      clear k1 k2 k3 k4 hnx e1 hcc hc
      obtain ⟨z0, z1, z2, z3, z4, _⟩ := past16 hs
      by_cases h60 : (k : Int) < 60
      · go_wp2_with fail
        refine (K1.out _).mono ?_; rintro e w' ⟨rfl, n1, rfl⟩
        go_wp2_with fail
        refine (K2.out _).mono ?_; rintro e w' ⟨rfl, rfl⟩
        go_wp2_with fail
        refine (K3.out _).mono ?_; rintro e w' ⟨rfl, rfl⟩
        go_wp2_with fail
        refine (K4.out _).mono ?_; rintro e w' ⟨rfl, c1, c2, rfl⟩
        go_wp2_with fail
        go_roundw
        case rel => exact ⟨k + 1, A, c + 1, by omega, by go_num, by have := HC.out; omega, by rw [NX.out], hE, (((((below_drewN (hb.alloc hb.size _) _).setCell hg1 _).setCell hg1 _).alloc (by simp; have := hb.size; omega) _).alloc (by simp; have := hb.size; omega) _), by simp; omega, by simp [go_sem, *]; have := HC.out; omega, by simp [go_sem, *], fun o => by simp [go_sem, *]; exact SF.out o⟩
        case measure => simp [intOf]; omega
      · go_wp2_with fail
        refine (K1.out _).mono ?_; rintro e w' ⟨rfl, n1, rfl⟩
        go_wp2_with fail
        refine (K2.out _).mono ?_; rintro e w' ⟨rfl, rfl⟩
        go_wp2_with fail
        refine (K4.out _).mono ?_; rintro e w' ⟨rfl, c1, c2, rfl⟩
        go_wp2_with fail
        go_roundw
        case rel => exact ⟨k + 1, A, c, by omega, by go_num, by have := HC.out; omega, rfl, hE, (((((below_drewN (hb.alloc hb.size _) _).setCell hg1 _).setCell hg1 _).alloc (by simp; have := hb.size; omega) _).alloc (by simp; have := hb.size; omega) _), by simp; omega, by simp [go_sem, *]; have := HC.out; omega, by simp [go_sem, *], fun o => by simp [go_sem, *]; exact SF.out o⟩
        case measure => simp [intOf]; omega
    · have hd : decide ((k : Int) < n) = false := by simp; omega
      go_wp2_with fail
      go_ret
      exact ⟨rfl, hb⟩
end Go.Proofs.Ytlapahbnjndagaa
