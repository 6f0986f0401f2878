/-
  THE WALKS of the laws DrawMixes, DrawApart, DrawBits, DrawLess.
-/
import Derived.Test.YtommldjoehjijaaDrawWalks
namespace Go.Proofs.Ytommldjoehjijaa
open Go.RowKit

theorem drawMixes_walk (k : Int) (w : World) (wk : (Lit.int .u64 k).wf = true) :
    Calls Try.prog 6 #[.int .u64 k] w fun e w' => e = .returned (.bool true) ∧ Below w.heap.size w w' := by
  have hk := word_of_wf wk
  clear wk
  go_enter Try.func6, Try.ntmps6
  go_wp2_with (first
    | (go_at_call 16; refine (draw_alive _).mono ?_; rintro e w' ⟨rfl, hg⟩)
    | (go_at_call 17; refine (mix_any _ hk _).mono ?_; rintro e w' ⟨rfl, rfl⟩)
    | (go_at_call 18; refine (mix1_any _ hk _).mono ?_; rintro e w' ⟨rfl, rfl⟩))
  go_ret
  exact ⟨rfl, by assumption⟩

theorem drawApart_walk (a b : Int) (w : World) (wa : (Lit.int .u64 a).wf = true) (wb : (Lit.int .u64 b).wf = true) :
    Calls Try.prog 7 #[.int .u64 a, .int .u64 b] w fun e w' => e = .returned (.bool true) ∧ Below w.heap.size w w' := by
  have ha := word_of_wf wa
  have hb := word_of_wf wb
  clear wa wb
  by_cases h : a = b
  · subst h
    go_enter Try.func7, Try.ntmps7
    go_wp2_with (first
      | (go_at_call 16; refine (draw_alive _).mono ?_; rintro e w' ⟨rfl, hg⟩)
      | (go_at_call 17; refine (mix_any _ ha _).mono ?_; rintro e w' ⟨rfl, rfl⟩))
    go_ret
    exact ⟨rfl, by assumption⟩
  · have e1 : (mixI a == mixI b) = false := by simp; exact fun hh => h (mixI_inj ha hb hh)
    have e2 : (a == b) = false := by simp [h]
    clear h
    go_enter Try.func7, Try.ntmps7
    go_wp2_with fail
    refine (draw_alive _).mono ?_; rintro e w' ⟨rfl, hg⟩
    go_wp2_with fail
    refine (mix_any _ ha _).mono ?_; rintro e w' ⟨rfl, rfl⟩
    go_wp2_with fail
    refine (mix_any _ hb _).mono ?_; rintro e w' ⟨rfl, rfl⟩
    go_wp2_with fail
    go_ret
    exact ⟨rfl, by assumption⟩

theorem drawBits_walk (x n o : Int) (w : World) (wx : (Lit.int .u64 x).wf = true) (_wn : (Lit.int .i64 n).wf = true) (wo : (Lit.int .u64 o).wf = true) :
    Calls Try.prog 9 #[.int .u64 x, .int .i64 n, .int .u64 o] w fun e w' => e = .returned (.bool true) ∧ Below w.heap.size w w' := by
  have hx := word_of_wf wx
  have ho := word_of_wf wo
  clear wx wo
  go_enter Try.func9, Try.ntmps9
  go_wp2_with (first
    | (go_at_call 16; refine (draw_alive _).mono ?_; rintro e w' ⟨rfl, hg⟩)
    | (go_at_call 23; refine (low_any _ _ hx _).mono ?_; rintro e w' ⟨rfl, rfl⟩)
    | (go_at_call 24; refine (low1_any _ _ hx _).mono ?_; rintro e w' ⟨rfl, rfl⟩)
    | (go_at_call 25; refine (coin_any _ hx _).mono ?_; rintro e w' ⟨rfl, rfl⟩)
    | (go_at_call 26; refine (coin1_any _ hx _).mono ?_; rintro e w' ⟨rfl, rfl⟩)
    | (go_at_call 27; refine (skips_any _ _ hx ho _).mono ?_; rintro e w' ⟨rfl, rfl⟩)
    | (go_at_call 28; refine (skips1_any _ _ hx ho _).mono ?_; rintro e w' ⟨rfl, rfl⟩))
  go_ret
  exact ⟨rfl, by assumption⟩

theorem lowI_eq {x n : Int} (hx : Word x) (h0 : 0 ≤ n) : lowI x n = x % 2 ^ (min n.toNat 64) := by
  obtain ⟨x0, x1⟩ := hx
  unfold lowI
  by_cases a : n < 1
  · have : n = 0 := by omega
    subst this
    simp
  · rw [if_neg a]
    by_cases b : 64 ≤ n
    · rw [if_pos b, Nat.min_eq_right (by omega)]
      have : (2 : Int) ^ 64 = 18446744073709551616 := by decide
      rw [this]
      omega
    · rw [if_neg b, Nat.min_eq_left (by omega)]
theorem lowI_word {x n : Int} (hx : Word x) (h0 : 0 ≤ n) : Word (lowI x n) := by
  have h := lowI_eq hx h0
  obtain ⟨x0, x1⟩ := hx
  have hp : (0 : Int) < 2 ^ (min n.toNat 64) := Int.pow_pos (by decide)
  have h1 := Int.emod_nonneg x (by omega : (2 : Int) ^ (min n.toNat 64) ≠ 0)
  have h2 : x % 2 ^ (min n.toNat 64) ≤ x := by
    obtain ⟨y, rfl⟩ := Int.eq_ofNat_of_zero_le x0
    have := Nat.mod_le y (2 ^ (min n.toNat 64))
    exact_mod_cast this
  exact ⟨by omega, by omega⟩
theorem lowI_lt {x n : Int} (hx : Word x) (h0 : 0 ≤ n) (h : n < 64) : lowI x n < 2 ^ n.toNat := by
  rw [lowI_eq hx h0, Nat.min_eq_left (by omega)]
  exact Int.emod_lt_of_pos _ (Int.pow_pos (by decide))
theorem lowI_low {x m n : Int} (hx : Word x) (h0 : 0 ≤ m) (h1 : 0 ≤ n) : lowI (lowI x m) n = lowI x (min m n) := by
  rw [lowI_eq (lowI_word hx h0) h1, lowI_eq hx h0, lowI_eq hx (by omega)]
  by_cases h : m ≤ n
  · have e : min m n = m := by omega
    rw [e]
    apply Int.emod_eq_of_lt
    · exact Int.emod_nonneg _ (Int.ne_of_gt (Int.pow_pos (by decide)))
    · refine Int.lt_of_lt_of_le (Int.emod_lt_of_pos _ (Int.pow_pos (by decide))) ?_
      have : (2 : Nat) ^ (min m.toNat 64) ≤ 2 ^ (min n.toNat 64) := Nat.pow_le_pow_right (by decide) (by omega)
      exact_mod_cast this
  · have e : min m n = n := by omega
    rw [e]
    apply Int.emod_emod_of_dvd
    exact ⟨2 ^ (min m.toNat 64 - min n.toNat 64), by rw [← Int.pow_add]; congr 1; omega⟩
theorem lowI_all {x n : Int} (h : 64 ≤ n) : lowI x n = x := by
  unfold lowI; rw [if_neg (by omega), if_pos h]

theorem pow_wrap {m : Int} (h0 : 0 ≤ m) (h : m < 64) : IntKind.u64.wrap (2 ^ m.toNat) = 2 ^ m.toNat := by
  rw [IntKind.wrap_u64]
  have h1 : 2 ^ m.toNat < 2 ^ 64 := Nat.pow_lt_pow_right (by omega) (by omega)
  have h2 : ((2 : Int) ^ m.toNat) = ((2 ^ m.toNat : Nat) : Int) := by simp
  rw [h2]
  generalize 2 ^ m.toNat = p at h1
  omega

set_option maxHeartbeats 800000 in
theorem drawLess_walk (x a b : Int) (w : World) (wx : (Lit.int .u64 x).wf = true) (wa : (Lit.int .u8 a).wf = true) (wb : (Lit.int .u8 b).wf = true) :
    Calls Try.prog 10 #[.int .u64 x, .int .u8 a, .int .u8 b] w fun e w' => e = .returned (.bool true) ∧ Below w.heap.size w w' := by
  have hx := word_of_wf wx
  obtain ⟨a0, a1⟩ := byte_of_wf wa
  obtain ⟨b0, b1⟩ := byte_of_wf wb
  clear wx wa wb
  have m0 : 0 ≤ a % 70 := by omega
  have m1 : a % 70 < 70 := by omega
  have n0 : 0 ≤ b % 70 := by omega
  have n1 : b % 70 < 70 := by omega
  have hy := lowI_word hx m0
  have hlow := lowI_low hx m0 n0
  have hlt := lowI_lt hx m0
  have hall := @lowI_all x (a % 70)
  have hpw := pow_wrap m0
  have d1 : decide (lowI x (a % 70) ≤ 18446744073709551615) = true := by obtain ⟨_, _⟩ := hy; simp; omega
  by_cases hmn : a % 70 ≤ b % 70
  · have e : min (a % 70) (b % 70) = a % 70 := by omega
    rw [e] at hlow
    have e1 : (lowI (lowI x (a % 70)) (b % 70) == lowI x (a % 70)) = true := by simp [hlow]
    clear hlow e
    by_cases hm : a % 70 < 64
    · have d2 : decide (2 ^ (a % 70).toNat ≤ lowI x (a % 70)) = false := by have := hlt hm; simp; omega
      have hp := hpw hm
      clear hall hpw hlt
      go_enter Try.func10, Try.ntmps10
      go_wp2_with fail
      refine (draw_alive _).mono ?_; rintro e w' ⟨rfl, hg⟩
      go_wp2_with fail
      refine (low_any x _ hx _).mono ?_; rintro e w' ⟨rfl, rfl⟩
      go_wp2_with fail
      refine (low_any _ _ hy _).mono ?_; rintro e w' ⟨rfl, rfl⟩
      go_wp2_with fail
      refine (low_any x _ hx _).mono ?_; rintro e w' ⟨rfl, rfl⟩
      go_wp2_with fail
      go_ret
      exact ⟨rfl, hg⟩
    · have e2 : (lowI x (a % 70) == x) = true := by simp [hall (by omega)]
      have hm2 : 64 ≤ a % 70 := by omega
      clear hall hpw hlt hm
      go_enter Try.func10, Try.ntmps10
      go_wp2_with fail
      refine (draw_alive _).mono ?_; rintro e w' ⟨rfl, hg⟩
      go_wp2_with fail
      refine (low_any x _ hx _).mono ?_; rintro e w' ⟨rfl, rfl⟩
      go_wp2_with fail
      refine (low_any _ _ hy _).mono ?_; rintro e w' ⟨rfl, rfl⟩
      go_wp2_with fail
      refine (low_any x _ hx _).mono ?_; rintro e w' ⟨rfl, rfl⟩
      go_wp2_with fail
      go_ret
      exact ⟨rfl, hg⟩
  · have e : min (a % 70) (b % 70) = b % 70 := by omega
    rw [e] at hlow
    have e1 : (lowI (lowI x (a % 70)) (b % 70) == lowI x (b % 70)) = true := by simp [hlow]
    have hmn : b % 70 < a % 70 := by omega
    clear hlow e
    by_cases hm : a % 70 < 64
    · have d2 : decide (2 ^ (a % 70).toNat ≤ lowI x (a % 70)) = false := by have := hlt hm; simp; omega
      have hp := hpw hm
      clear hall hpw hlt
      go_enter Try.func10, Try.ntmps10
      go_wp2_with fail
      refine (draw_alive _).mono ?_; rintro e w' ⟨rfl, hg⟩
      go_wp2_with fail
      refine (low_any x _ hx _).mono ?_; rintro e w' ⟨rfl, rfl⟩
      go_wp2_with fail
      refine (low_any _ _ hy _).mono ?_; rintro e w' ⟨rfl, rfl⟩
      go_wp2_with fail
      refine (low_any x _ hx _).mono ?_; rintro e w' ⟨rfl, rfl⟩
      go_wp2_with fail
      go_ret
      exact ⟨rfl, hg⟩
    · have e2 : (lowI x (a % 70) == x) = true := by simp [hall (by omega)]
      have hm2 : 64 ≤ a % 70 := by omega
      clear hall hpw hlt hm
      go_enter Try.func10, Try.ntmps10
      go_wp2_with fail
      refine (draw_alive _).mono ?_; rintro e w' ⟨rfl, hg⟩
      go_wp2_with fail
      refine (low_any x _ hx _).mono ?_; rintro e w' ⟨rfl, rfl⟩
      go_wp2_with fail
      refine (low_any _ _ hy _).mono ?_; rintro e w' ⟨rfl, rfl⟩
      go_wp2_with fail
      refine (low_any x _ hx _).mono ?_; rintro e w' ⟨rfl, rfl⟩
      go_wp2_with fail
      go_ret
      exact ⟨rfl, hg⟩
end Go.Proofs.Ytommldjoehjijaa
