/-
  THE WALKS of package clock (chapter 4) and of the reference's functions.
-/
import Derived.Test.YtnaofmiefghhkaaSatWalks
import Derived.Test.YtnaofmiefghhkaaInts
namespace Go.Proofs.Ytnaofmiefghhkaa
open Go.RowKit

theorem after_any (a b : Int) (ha : Word a) (hb : Word b) (w : World) :
    Calls Try.prog 22 #[.int .u64 a, .int .u64 b] w fun e w' => e = .returned (.int .u64 (addI a b)) ∧ w = w' := by
  go_enter Try.func22, Try.ntmps22
  go_wp2_with fail
  refine (add_any _ _ ha hb _).mono ?_; rintro e w' ⟨rfl, rfl⟩
  go_wp2_with fail
  go_ret
  exact ⟨rfl, rfl⟩
theorem since_any (a b : Int) (ha : Word a) (hb : Word b) (w : World) :
    Calls Try.prog 24 #[.int .u64 a, .int .u64 b] w fun e w' => e = .returned (.int .u64 (subI a b)) ∧ w = w' := by
  go_enter Try.func24, Try.ntmps24
  go_wp2_with fail
  refine (sub_any _ _ ha hb _).mono ?_; rintro e w' ⟨rfl, rfl⟩
  go_wp2_with fail
  go_ret
  exact ⟨rfl, rfl⟩
def dueB (now at_ : Int) : Bool := (at_ != 18446744073709551615) && decide (at_ ≤ now)
theorem due_any (now at_ : Int) (w : World) :
    Calls Try.prog 26 #[.int .u64 now, .int .u64 at_] w fun e w' => e = .returned (.bool (dueB now at_)) ∧ w = w' := by
  by_cases h : at_ = 18446744073709551615
  · have hb : (at_ != 18446744073709551615) = false := by simp [h]
    clear h
    go_enter Try.func26, Try.ntmps26
    go_wp2_with fail
    go_ret
    exact ⟨ret_bool (by unfold dueB; rw [hb]; rfl), rfl⟩
  · have hb : (at_ != 18446744073709551615) = true := by simp [h]
    clear h
    go_enter Try.func26, Try.ntmps26
    go_wp2_with fail
    go_ret
    exact ⟨ret_bool (by unfold dueB; rw [hb]; rfl), rfl⟩
theorem due1_any (now at_ : Int) (w : World) :
    Calls Try.prog 27 #[.int .u64 now, .int .u64 at_] w fun e w' => e = .returned (.bool (dueB now at_)) ∧ w = w' := by
  by_cases h : at_ = 18446744073709551615
  · have hb : (at_ != 18446744073709551615) = false := by simp [h]
    clear h
    go_enter Try.func27, Try.ntmps27
    go_wp2_with fail
    go_ret
    exact ⟨ret_bool (by unfold dueB; rw [hb]; rfl), rfl⟩
  · have hb : (at_ != 18446744073709551615) = true := by simp [h]
    clear h
    go_enter Try.func27, Try.ntmps27
    go_wp2_with fail
    go_ret
    exact ⟨ret_bool (by unfold dueB; rw [hb]; rfl), rfl⟩
def backI (d n most : Int) : Int := min (shlI d n) most
theorem back_any (d n most : Int) (hd : Word d) (hn : n ≤ 9223372036854775807) (w : World) :
    Calls Try.prog 30 #[.int .u64 d, .int .i64 n, .int .u64 most] w fun e w' => e = .returned (.int .u64 (backI d n most)) ∧ w = w' := by
  go_enter Try.func30, Try.ntmps30
  go_wp2_with fail
  refine (shl_any _ _ hd hn _).mono ?_; rintro e w' ⟨rfl, rfl⟩
  go_wp2_with fail
  go_ret
  exact ⟨rfl, rfl⟩
theorem back1_any (d n most : Int) (hd : Word d) (hn : n ≤ 9223372036854775807) (w : World) :
    Calls Try.prog 31 #[.int .u64 d, .int .i64 n, .int .u64 most] w fun e w' => e = .returned (.int .u64 (backI d n most)) ∧ w = w' := by
  go_enter Try.func31, Try.ntmps31
  go_wp2_with fail
  refine (shl1_any _ _ hd hn _).mono ?_; rintro e w' ⟨rfl, rfl⟩
  go_wp2_with fail
  go_ret
  exact ⟨rfl, rfl⟩

/-- The least of a list; the greatest word of none. -/
def firstL (zs : List Int) : Int := zs.foldl min 18446744073709551615
theorem firstL_snoc (zs : List Int) (x : Int) : firstL (zs ++ [x]) = min (firstL zs) x := by unfold firstL; rw [List.foldl_append]; rfl

theorem first_any (a : Option Addr) (cap : Nat) (zs : List Int) (B : Nat) (w : World) (h : Ints .u64 w B a zs) (hm : zs.length ≤ 9223372036854775807) :
    Calls Try.prog 28 #[.slice a zs.length cap] w fun e w' => e = .returned (.int .u64 (firstL zs)) ∧ w = w' := by
  have H := Lib.hid h
  clear h
  go_enter Try.func28, Try.ntmps28
  go_wp2_with fail
  go_loop [3, 8] (fun m i => ∃ k : Nat, k ≤ zs.length ∧ i = .int .i64 k ∧ m = .int .u64 (firstL (zs.take k))) (fun _ i => zs.length - (intOf i).toNat)
  case atStart => exact ⟨0, Nat.zero_le _, rfl, rfl⟩
  case round =>
    obtain ⟨k, hk, rfl, rfl⟩ := hrel
    by_cases hlt : k < zs.length
    · obtain ⟨b, off, rfl, _, hc⟩ := H.out.at (by omega)
      have e1 := hc k hlt
      have e2 := firstL_snoc (zs.take k) (zs.getD k 0)
      rw [← take_snoc hlt] at e2
      have E2 := Lib.hid e2
      clear hc e2
      generalize zs.getD k 0 = x at *
      generalize firstL (zs.take k) = m at *
      go_wp2_with fail
      go_round
      case rel => exact ⟨k + 1, by omega, by go_num, by rw [E2.out]⟩
      case measure => simp [intOf]; omega
    · have e : zs.take k = zs := List.take_of_length_le (by omega)
      rw [e]
      go_wp2_with fail
      go_ret
      exact ⟨rfl, rfl⟩
theorem first1_any (a : Option Addr) (cap : Nat) (zs : List Int) (B : Nat) (w : World) (h : Ints .u64 w B a zs) (hm : zs.length ≤ 9223372036854775807) :
    Calls Try.prog 29 #[.slice a zs.length cap] w fun e w' => e = .returned (.int .u64 (firstL zs)) ∧ w = w' := by
  have H := Lib.hid h
  clear h
  go_enter Try.func29, Try.ntmps29
  go_wp2_with fail
  go_loop [3, 4] (fun m i => ∃ k : Nat, k ≤ zs.length ∧ i = .int .i64 k ∧ m = .int .u64 (firstL (zs.take k))) (fun _ i => zs.length - (intOf i).toNat)
  case atStart => exact ⟨0, Nat.zero_le _, rfl, rfl⟩
  case round =>
    obtain ⟨k, hk, rfl, rfl⟩ := hrel
    by_cases hlt : k < zs.length
    · obtain ⟨b, off, rfl, _, hc⟩ := H.out.at (by omega)
      have e1 := hc k hlt
      have e2 := firstL_snoc (zs.take k) (zs.getD k 0)
      rw [← take_snoc hlt] at e2
      have E2 := Lib.hid e2
      clear hc e2
      generalize zs.getD k 0 = x at *
      generalize firstL (zs.take k) = m at *
      by_cases hx : x < m
      · go_wp2_with fail
        go_round
        case rel => exact ⟨k + 1, by omega, by go_num, by rw [E2.out, Int.min_eq_right (by omega)]⟩
        case measure => simp [intOf]; omega
      · go_wp2_with fail
        go_round
        case rel => exact ⟨k + 1, by omega, by go_num, by rw [E2.out, Int.min_eq_left (by omega)]⟩
        case measure => simp [intOf]; omega
    · have e : zs.take k = zs := List.take_of_length_le (by omega)
      rw [e]
      go_wp2_with fail
      go_ret
      exact ⟨rfl, rfl⟩
end Go.Proofs.Ytnaofmiefghhkaa
