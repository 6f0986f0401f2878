/-
  THE WALKS of the laws of chapter 4.
-/
import Derived.Test.YtnaofmiefghhkaaClockWalks
namespace Go.Proofs.Ytnaofmiefghhkaa
open Go.RowKit

theorem shl_shl {a m n : Int} (h0 : 0 ≤ m) (h1 : 0 ≤ n) : shlI (shlI a m) n = shlI a (m + n) := by
  obtain ⟨m, rfl⟩ := Int.eq_ofNat_of_zero_le h0
  obtain ⟨n, rfl⟩ := Int.eq_ofNat_of_zero_le h1
  have e : ((m : Int) + n).toNat = m + n := by omega
  have hp : (1 : Int) ≤ 2 ^ n := by
    have := Nat.two_pow_pos n
    have : (1 : Nat) ≤ 2 ^ n := this
    exact_mod_cast this
  have e2 : a * 2 ^ (m + n) = a * 2 ^ m * 2 ^ n := by rw [Int.pow_add, Int.mul_assoc]
  by_cases h : a * 2 ^ m < 18446744073709551616
  · have : shlI a m = a * 2 ^ m := by unfold shlI; simp only [Int.toNat_natCast]; rw [if_pos h]
    rw [this]
    unfold shlI
    rw [e, e2]
    simp only [Int.toNat_natCast]
  · have : shlI a m = 18446744073709551615 := by unfold shlI; simp only [Int.toNat_natCast]; rw [if_neg h]
    rw [this, shlI_top]
    unfold shlI
    rw [e, e2]
    have h3 : a * 2 ^ m * 1 ≤ a * 2 ^ m * 2 ^ n := Int.mul_le_mul_of_nonneg_left hp (by omega)
    rw [if_neg (by omega)]
theorem shl_one {a : Int} : shlI a 1 = addI a a := by
  unfold shlI addI
  have : a * 2 ^ (1 : Int).toNat = a + a := by
    have : (1 : Int).toNat = 1 := by decide
    rw [this]; omega
  rw [this]

theorem alive_due5 (w : World) : Calls Try.prog 26 #[.int .u64 5, .int .u64 5] w fun e w' => e = .returned (.bool true) ∧ w = w' := by
  have h := due_any 5 5 w
  rw [show dueB 5 5 = true by decide] at h
  exact h
theorem alive_dueTop (w : World) : Calls Try.prog 26 #[.int .u64 18446744073709551615, .int .u64 18446744073709551615] w fun e w' => e = .returned (.bool false) ∧ w = w' := by
  have h := due_any 18446744073709551615 18446744073709551615 w
  rw [show dueB 18446744073709551615 18446744073709551615 = false by decide] at h
  exact h
theorem alive_back (w : World) : Calls Try.prog 30 #[.int .u64 3, .int .i64 2, .int .u64 10] w fun e w' => e = .returned (.int .u64 10) ∧ w = w' := by
  have h := back_any 3 2 10 (by unfold Word; decide) (by decide) w
  rw [show backI 3 2 10 = 10 by decide +kernel] at h
  exact h
theorem alive_after (w : World) : Calls Try.prog 22 #[.int .u64 3, .int .u64 4] w fun e w' => e = .returned (.int .u64 7) ∧ w = w' := by
  have h := after_any 3 4 (by unfold Word; decide) (by unfold Word; decide) w
  rw [show addI 3 4 = 7 by decide] at h
  exact h
theorem alive_since (w : World) : Calls Try.prog 24 #[.int .u64 7, .int .u64 4] w fun e w' => e = .returned (.int .u64 3) ∧ w = w' := by
  have h := since_any 7 4 (by unfold Word; decide) (by unfold Word; decide) w
  rw [show subI 7 4 = 3 by decide] at h
  exact h
theorem alive_first0 (w : World) : Calls Try.prog 28 #[.slice none 0 0] w fun e w' => e = .returned (.int .u64 18446744073709551615) ∧ w = w' :=
  first_any none 0 [] 0 w Ints.nil_ (by decide)
theorem alive_first3 (w : World) : Calls Try.prog 28 #[.slice (some ⟨w.heap.size, 0, none⟩) 3 3] (w.alloc (.cells #[.int .u64 5, .int .u64 3, .int .u64 9] 22)) fun e w' => e = .returned (.int .u64 3) ∧ w.alloc (.cells #[.int .u64 5, .int .u64 3, .int .u64 9] 22) = w' := by
  refine first_any (some ⟨w.heap.size, 0, none⟩) 3 [5, 3, 9] (w.heap.size + 1) _ (.inr ⟨w.heap.size, 0, rfl, by omega, fun j hj => ?_⟩) (by decide)
  match j, hj with
  | 0, _ => simp
  | 1, _ => simp
  | 2, _ => simp

theorem clock_alive (w : World) : Calls Try.prog 21 #[] w fun e w' => e = .returned (.bool true) ∧ Below w.heap.size w w' := by
  go_enter Try.func21, Try.ntmps21
  go_wp2_with fail
  refine (alive_due5 _).mono ?_; rintro e w' ⟨rfl, rfl⟩
  go_wp2_with fail
  refine (alive_dueTop _).mono ?_; rintro e w' ⟨rfl, rfl⟩
  go_wp2_with fail
  refine (alive_back _).mono ?_; rintro e w' ⟨rfl, rfl⟩
  go_wp2_with fail
  refine (alive_after _).mono ?_; rintro e w' ⟨rfl, rfl⟩
  go_wp2_with fail
  refine (alive_since _).mono ?_; rintro e w' ⟨rfl, rfl⟩
  go_wp2_with fail
  refine (alive_first0 _).mono ?_; rintro e w' ⟨rfl, rfl⟩
  go_wp2_with fail
  refine (alive_first3 _).mono ?_; rintro e w' ⟨rfl, rfl⟩
  go_wp2_with fail
  go_ret
  exact ⟨rfl, by go_grown⟩

theorem clockTells_walk (t d now at_ : Int) (w : World) (wt : (Lit.int .u64 t).wf = true) (wd : (Lit.int .u64 d).wf = true) (wn : (Lit.int .u64 now).wf = true) (_wa : (Lit.int .u64 at_).wf = true) :
    Calls Try.prog 7 #[.int .u64 t, .int .u64 d, .int .u64 now, .int .u64 at_] w fun e w' => e = .returned (.bool true) ∧ Below w.heap.size w w' := by
  have ht := word_of_wf wt
  have hd := word_of_wf wd
  have hn := word_of_wf wn
  clear wt wd wn
  go_enter Try.func7, Try.ntmps7
  go_wp2_with (first
    | (go_at_call 21; refine (clock_alive _).mono ?_; rintro e w' ⟨rfl, hg⟩)
    | (go_at_call 22; refine (after_any _ _ ht hd _).mono ?_; rintro e w' ⟨rfl, rfl⟩)
    | (go_at_call 23; refine (add1_any _ _ ht hd _).mono ?_; rintro e w' ⟨rfl, rfl⟩)
    | (go_at_call 24; refine (since_any _ _ hn ht _).mono ?_; rintro e w' ⟨rfl, rfl⟩)
    | (go_at_call 25; refine (sub1_any _ _ hn ht _).mono ?_; rintro e w' ⟨rfl, rfl⟩)
    | (go_at_call 26; refine (due_any _ _ _).mono ?_; rintro e w' ⟨rfl, rfl⟩)
    | (go_at_call 27; refine (due1_any _ _ _).mono ?_; rintro e w' ⟨rfl, rfl⟩))
  go_ret
  exact ⟨rfl, by assumption⟩

theorem clockBacksOff_walk (d n most : Int) (w : World) (wd : (Lit.int .u64 d).wf = true) (wn : (Lit.int .i64 n).wf = true) (_wm : (Lit.int .u64 most).wf = true) :
    Calls Try.prog 11 #[.int .u64 d, .int .i64 n, .int .u64 most] w fun e w' => e = .returned (.bool true) ∧ Below w.heap.size w w' := by
  have hd := word_of_wf wd
  have hn := (int_of_wf wn).2
  clear wd wn
  go_enter Try.func11, Try.ntmps11
  go_wp2_with (first
    | (go_at_call 21; refine (clock_alive _).mono ?_; rintro e w' ⟨rfl, hg⟩)
    | (go_at_call 30; refine (back_any _ _ _ hd hn _).mono ?_; rintro e w' ⟨rfl, rfl⟩)
    | (go_at_call 31; refine (back1_any _ _ _ hd hn _).mono ?_; rintro e w' ⟨rfl, rfl⟩))
  go_ret
  exact ⟨rfl, by assumption⟩

theorem clockFirst_walk (a : Option Addr) (len cap : Nat) (zs : List Int) (w : World) (hr : IsRow .u64 w a len cap zs) :
    Calls Try.prog 8 #[.slice a len cap] w fun e w' => e = .returned (.bool true) ∧ Below w.heap.size w w' := by
  obtain ⟨h, hl, h1, h2, _⟩ := Ints.of_row hr
  generalize zs.take len = l at *
  subst hl
  unfold maxLen at h2
  go_enter Try.func8, Try.ntmps8
  go_wp2_with fail
  refine (clock_alive _).mono ?_; rintro e w1 ⟨rfl, hg⟩
  go_wp2_with fail
  refine (first_any a cap l _ _ (h.below hg) (by omega)).mono ?_; rintro e w' ⟨rfl, rfl⟩
  go_wp2_with fail
  refine (first1_any a cap l _ _ (h.below hg) (by omega)).mono ?_; rintro e w' ⟨rfl, rfl⟩
  go_wp2_with fail
  go_ret
  exact ⟨rfl, hg⟩

theorem due_later {now later at_ : Int} (h : now ≤ later) (hd : dueB now at_ = true) : dueB later at_ = true := by
  unfold dueB at *
  simp at *
  exact ⟨hd.1, by omega⟩
theorem due_after {now at_ d : Int} (ha : Word at_) (h0 : 0 ≤ d) (h : dueB now (addI at_ d) = true) : dueB now at_ = true := by
  obtain ⟨_, _⟩ := ha
  unfold dueB addI at *
  simp at *
  split at h <;> omega
theorem clockStays_walk (now later at_ d : Int) (w : World) (_wn : (Lit.int .u64 now).wf = true) (_wl : (Lit.int .u64 later).wf = true) (wa : (Lit.int .u64 at_).wf = true) (wd : (Lit.int .u64 d).wf = true) :
    Calls Try.prog 10 #[.int .u64 now, .int .u64 later, .int .u64 at_, .int .u64 d] w fun e w' => e = .returned (.bool true) ∧ Below w.heap.size w w' := by
  have ha := word_of_wf wa
  have hd := word_of_wf wd
  clear wa wd
  by_cases hl : later < now
  · go_enter Try.func10, Try.ntmps10
    go_wp2_with fail
    refine (clock_alive _).mono ?_; rintro e w1 ⟨rfl, hg⟩
    go_wp2_with fail
    refine (clock_alive _).mono ?_; rintro e w2 ⟨rfl, hg2⟩
    go_wp2_with fail
    go_ret
    exact ⟨rfl, hg.trans (hg2.mono hg.size)⟩
  · have hd1 : decide (later < now) = false := by simp; omega
    have c1 := fun w => due_any now at_ w
    have c2 := fun w => due_any later at_ w
    have c3 := fun w => after_any at_ d ha hd w
    have c4 := fun w => due_any now (addI at_ d) w
    have k1 := due_later (at_ := at_) (show now ≤ later by omega)
    have k2 := due_after (now := now) ha hd.1
    generalize addI at_ d = s at *
    generalize dueB now at_ = x at *
    generalize dueB later at_ = y at *
    generalize dueB now s = z at *
    have C1 := Lib.hid c1
    have C2 := Lib.hid c2
    have C3 := Lib.hid c3
    have C4 := Lib.hid c4
    clear c1 c2 c3 c4 hl ha hd
    cases x
    · cases z
      · clear k1 k2
        go_enter Try.func10, Try.ntmps10
        go_wp2_with fail
        refine (clock_alive _).mono ?_; rintro e w1 ⟨rfl, hg⟩
        go_wp2_with fail
        refine (C1.out _).mono ?_; rintro e w' ⟨rfl, rfl⟩
        go_wp2_with fail
        refine (C3.out _).mono ?_; rintro e w' ⟨rfl, rfl⟩
        go_wp2_with fail
        refine (C4.out _).mono ?_; rintro e w' ⟨rfl, rfl⟩
        go_wp2_with fail
        go_ret
        exact ⟨rfl, hg⟩
      · simp at k2
    · obtain rfl : y = true := k1 rfl
      clear k1 k2
      cases z
      all_goals
        go_enter Try.func10, Try.ntmps10
        go_wp2_with fail
        refine (clock_alive _).mono ?_; rintro e w1 ⟨rfl, hg⟩
        go_wp2_with fail
        refine (C1.out _).mono ?_; rintro e w' ⟨rfl, rfl⟩
        go_wp2_with fail
        refine (C2.out _).mono ?_; rintro e w' ⟨rfl, rfl⟩
        go_wp2_with fail
        refine (C3.out _).mono ?_; rintro e w' ⟨rfl, rfl⟩
        go_wp2_with fail
        refine (C4.out _).mono ?_; rintro e w' ⟨rfl, rfl⟩
        go_wp2_with (first | (go_at_call 26; refine (C1.out _).mono ?_; rintro e w' ⟨rfl, rfl⟩))
        go_ret
        exact ⟨rfl, hg⟩

theorem back_double {d n most : Int} (hd : Word d) (hm : Word most) (h0 : 0 ≤ n) :
    min (addI (backI d n most) (backI d n most)) most = backI d (n + 1) most ∧ backI d n most ≤ backI d (n + 1) most ∧ backI d (n + 1) most ≤ most ∧ Word (backI d n most) := by
  have e : shlI d (n + 1) = addI (shlI d n) (shlI d n) := by rw [← shl_shl h0 (by decide), shl_one]
  have hs := shlI_word (n := n) hd
  obtain ⟨_, _⟩ := hm
  unfold backI
  rw [e]
  obtain ⟨_, _⟩ := hs
  unfold Word addI
  generalize shlI d n = s at *
  (repeat' split) <;> omega
theorem clockDoubles_walk (d n most : Int) (w : World) (wd : (Lit.int .u64 d).wf = true) (wn : (Lit.int .u8 n).wf = true) (wm : (Lit.int .u64 most).wf = true) :
    Calls Try.prog 12 #[.int .u64 d, .int .u8 n, .int .u64 most] w fun e w' => e = .returned (.bool true) ∧ Below w.heap.size w w' := by
  have hd := word_of_wf wd
  obtain ⟨n0, n1⟩ := byte_of_wf wn
  have hm := word_of_wf wm
  clear wd wn wm
  obtain ⟨k1, k2, k3, k4⟩ := back_double hd hm n0
  have c1 := fun w => back_any d n most hd (by omega) w
  have c2 := fun w => back_any d (n + 1) most hd (by omega) w
  generalize backI d n most = x at *
  generalize backI d (n + 1) most = y at *
  have d1 : (y == min (addI x x) most) = true := by simp [k1]
  have C1 := Lib.hid c1
  have C2 := Lib.hid c2
  clear c1 c2 k1 hd hm
  go_enter Try.func12, Try.ntmps12
  go_wp2_with fail
  refine (clock_alive _).mono ?_; rintro e w1 ⟨rfl, hg⟩
  go_wp2_with fail
  refine (C1.out _).mono ?_; rintro e w' ⟨rfl, rfl⟩
  go_wp2_with fail
  refine (C2.out _).mono ?_; rintro e w' ⟨rfl, rfl⟩
  go_wp2_with fail
  refine (after_any x x k4 k4 _).mono ?_; rintro e w' ⟨rfl, rfl⟩
  go_wp2_with fail
  go_ret
  exact ⟨rfl, hg⟩
end Go.Proofs.Ytnaofmiefghhkaa
