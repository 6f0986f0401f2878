/-
  'ClockJoins': the walk, where both lists together are short.
-/
import Derived.Test.YtnaofmiefghhkaaClockLaws
import Derived.Test.YtnaofmiefghhkaaAppend2
namespace Go.Proofs.Ytnaofmiefghhkaa
open Go.RowKit

theorem firstL_foldl (m : Int) (zs : List Int) (h : m ≤ 18446744073709551615) : zs.foldl min m = min m (firstL zs) := by
  unfold firstL
  induction zs generalizing m with
  | nil => simp; omega
  | cons x r ih => simp only [List.foldl_cons]; rw [ih (min m x) (by omega), ih (min 18446744073709551615 x) (by omega)]; omega
theorem firstL_le (zs : List Int) : firstL zs ≤ 18446744073709551615 := by
  have h := firstL_foldl 18446744073709551615 zs (by omega)
  have e : zs.foldl min 18446744073709551615 = firstL zs := rfl
  omega
theorem firstL_append (a b : List Int) : firstL (a ++ b) = min (firstL a) (firstL b) := by
  have h := firstL_foldl (firstL a) b (firstL_le a)
  unfold firstL at *
  rw [List.foldl_append]; exact h
theorem firstL_two (x y : Int) (hx : x ≤ 18446744073709551615) : firstL [x, y] = min x y := by unfold firstL; simp; omega

theorem word_info2 : (Try.prog.info? 22).map (fun i => (i.zero, i.size, i.bytes)) = some (some (.int .u64 0), 1, 8) := by kernel_rfl
theorem clockJoins_walk (a1 : Option Addr) (len1 cap1 : Nat) (z1 : List Int) (a2 : Option Addr) (len2 cap2 : Nat) (z2 : List Int) (w : World) (hr : IsRow .u64 w a1 len1 cap1 z1) (hr2 : IsRow .u64 w a2 len2 cap2 z2) (hs1 : len1 ≤ 1048576) (hs2 : len2 ≤ 1048576) :
    Calls Try.prog 9 #[.slice a1 len1 cap1, .slice a2 len2 cap2] w fun e w' => e = .returned (.bool true) ∧ Below w.heap.size w w' := by
  obtain ⟨h, hl, h1, h2, _⟩ := Ints.of_row hr
  generalize z1.take len1 = l at *
  subst hl
  obtain ⟨h', hl', h1', h2', _⟩ := Ints.of_row hr2
  generalize z2.take len2 = m at *
  subst hl'
  go_enter Try.func9, Try.ntmps9
  go_wp2_with fail
  refine (clock_alive _).mono ?_; rintro e w1 ⟨rfl, hg⟩
  have HI := Lib.hid (h.below hg)
  have HJ := Lib.hid (h'.below hg)
  have HG := Lib.hid hg
  clear h h' hg hr hr2
  obtain ⟨i0, hi0, hz0, hz1, hz2⟩ := info_parts word_info2
  obtain ⟨v5, w5, hrun5, hown5, hgr5, _⟩ := run_append_ints (P := Try.prog) (k := .u64) (ty := 23) (w := w1) w1.heap.size 23 22 i0 8 Try.underlying23 hi0 hz0 hz1 hz2 (.slice none 0 0) [] ⟨by simp, .inl ⟨rfl, rfl⟩⟩ w.heap.size a1 cap1 l HI.out (by simp only [maxLen, List.length_nil]; omega) (by simp only [List.length_nil]; omega) (Nat.le_refl _)
  rw [List.nil_append] at hown5
  have hb5 : Below w1.heap.size w1 w5 := (Below.refl _ _).grown hgr5 (Nat.le_refl _) (fun g hg => by simp [Value.ownBlock] at hg)
  obtain ⟨a5, c5, rfl, _, _⟩ := Ints.of_own hown5
  have hJ5 := HJ.out.below (hb5.mono HG.out.size)
  have hI5 := HI.out.below (hb5.mono HG.out.size)
  obtain ⟨v6, w6, hrun6, hown6, hgr6, _⟩ := run_append_ints (P := Try.prog) (k := .u64) (ty := 23) (w := w5) w1.heap.size 23 22 i0 8 Try.underlying23 hi0 hz0 hz1 hz2 (.slice a5 l.length c5) l hown5 w.heap.size a2 cap2 m hJ5 (by simp only [maxLen]; omega) (by omega) hb5.size
  have hb6 : Below w1.heap.size w5 w6 := (Below.refl _ _).grown hgr6 hb5.size (fun g hg => by
    rcases hown5.2 with ⟨e, _⟩ | ⟨g', cap', cur, e, hg', _⟩
    · injection e with e1; subst e1; simp [Value.ownBlock] at hg
    · injection e with e1; subst e1; simp [Value.ownBlock] at hg; omega)
  obtain ⟨a6, c6, rfl, hI6, _⟩ := Ints.of_own hown6
  have HL6 := Lib.hid hI6
  have HA6 := Lib.hid (hI5.below (hb6.mono HG.out.size))
  have HM6 := Lib.hid (hJ5.below (hb6.mono HG.out.size))
  have HG6 := Lib.hid (HG.out.trans ((hb5.trans hb6).mono HG.out.size))
  have HR5 := Lib.hid hrun5
  have HR6 := Lib.hid hrun6
  clear hrun5 hrun6 hown5 hown6 hgr5 hgr6 hb5 hb6 hJ5 hI5 hI6 HI HJ HG hi0 hz0 hz1 hz2
  have FA := Lib.hid (firstL_append l m)
  have FT := Lib.hid (firstL_two (firstL l) (firstL m) (firstL_le l))
  have hlm : (l ++ m).length = l.length + m.length := List.length_append
  generalize hLM : l ++ m = lm at *
  clear hLM
  have HLM := Lib.hid (show lm.length ≤ 9223372036854775807 by omega)
  clear hlm
  go_wp2_with (at_builtin; first | (refine wpList_append_run rfl _ _ _ rfl rfl rfl HR5.out ?_; clear HR5) | refine wpList_append_run rfl _ _ _ rfl rfl rfl HR6.out ?_)
  refine (first_any a6 c6 lm _ _ HL6.out HLM.out).mono ?_; rintro e w' ⟨rfl, rfl⟩
  go_wp2_with fail
  refine (first_any a1 cap1 l _ _ HA6.out (by omega)).mono ?_; rintro e w' ⟨rfl, rfl⟩
  go_wp2_with fail
  refine (first_any a2 cap2 m _ _ HM6.out (by omega)).mono ?_; rintro e w' ⟨rfl, rfl⟩
  go_wp2_with fail
  have hI2 : Ints .u64 (w6.alloc (.cells #[.int .u64 (firstL l), .int .u64 (firstL m)] 22)) (w6.heap.size + 1) (some ⟨w6.heap.size, 0, none⟩) [firstL l, firstL m] := .inr ⟨w6.heap.size, 0, rfl, by omega, fun j hj => by
    match j with
    | 0 => exact World.cell?_alloc_at _ _ _ _ rfl
    | 1 => exact World.cell?_alloc_at _ _ _ _ rfl
    | j + 2 => exact absurd hj (by simp)⟩
  refine (first_any _ 2 [firstL l, firstL m] _ _ hI2 (by simp)).mono ?_; rintro e w' ⟨rfl, rfl⟩
  clear hI2
  rw [FT.out, ← FA.out]
  go_wp2_with fail
  go_ret
  exact ⟨ret_bool (by simp), HG6.out.alloc HG6.out.size _⟩
end Go.Proofs.Ytnaofmiefghhkaa
