/-
  THE LAWS of chapter 15, the second half: walks of the statements.
-/
import Derived.Test.YtnaofmiefghhkaaBudgetLaws
import Derived.Test.YtnaofmiefghhkaaHoldsPlain
namespace Go.Proofs.Ytnaofmiefghhkaa
open Go.RowKit

theorem int_wf {x : Int} (h0 : 0 ≤ x) (h1 : x < 9223372036854775808) : (Lit.int .i64 x).wf = true := by
  simp [Lit.wf, IntKind.min, IntKind.max, IntKind.signed, IntKind.bits]; omega
/-- One ask more: how much a budget holds. -/
theorem ask_len64 {M : Nat} {every : Int} {s : Bu} (h : s.times.length ≤ 64) (hM : M ≤ 64) (t : Int) : (ask M every s t).times.length ≤ 64 := by
  have := still_len every s t
  unfold ask
  split
  · show (still every s t).length ≤ _; omega
  · rename_i hn; show (still every s t ++ [_]).length ≤ _; simp; omega
set_option maxHeartbeats 2000000 in
theorem budgetHolds_walk (most every : Int) (a2 : Option Addr) (len2 cap2 : Nat) (z2 : List Int) (fr : Int) (w : World) (hm : (Lit.int .u8 most).wf = true) (he : (Lit.int .u16 every).wf = true) (hz : IsRow .u16 w a2 len2 cap2 z2) (hf : (Lit.int .u32 fr).wf = true) :
    Calls Try.prog 4 #[.int .u8 most, .int .u16 every, .slice a2 len2 cap2, .int .u32 fr] w fun e w' => e = .returned (.bool true) ∧ Below w.heap.size w w' := by
  have hM := byte_of_wf hm
  have hE := u16_of_wf he
  have hF := u32_of_wf hf
  obtain ⟨hI, hlen, hc, hmx, hwf⟩ := Ints.of_row hz
  generalize z2.take len2 = l at *
  subst hlen
  have hlm : l.length ≤ 9223372036854775807 := by simp only [maxLen] at hmx; omega
  have HI := Lib.hid hI
  have HWF := Lib.hid hwf
  clear hI hwf
  go_enter Try.func4, Try.ntmps4
  go_wp2_with fail
  have hEw : Word every := ⟨by omega, by omega⟩
  refine (new_any (most % 8) every _ (int_wf (by omega) (by omega)) hEw).mono ?_
  rintro e w1 ⟨p, rfl, hp, hB, hb1⟩
  have hMm : (((max 0 (min (most % 8) 64)).toNat : Nat) : Int) = most % 8 := by omega
  have hM64 : (max 0 (min (most % 8) 64)).toNat ≤ 64 := by omega
  generalize (max 0 (min (most % 8) 64)).toNat = M at *
  have hb1' := Lib.hid hb1
  have hB' := Lib.hid hB
  clear hb1 hB
  go_wp2_with fail
  refine (balive_walk _).mono ?_
  rintro e w2 ⟨rfl, hb2⟩
  have hb2' := Lib.hid (hb1'.out.trans (hb2.mono hb1'.out.size))
  have HB2 := Lib.hid (hB'.out.below hb2)
  clear hb2 hb1' hB'
  by_cases h300 : (300 : Int) < l.length
  · go_wp2_with fail
    refine (balive_walk _).mono ?_
    rintro e w3 ⟨rfl, hb3⟩
    go_wp2_with fail
    go_ret
    exact ⟨rfl, hb2'.out.trans (hb3.mono hb2'.out.size)⟩
  · go_wp2_with fail
    go_loopw [10, 11, 12] (fun v10 v11 v12 wr => ∃ (j n : Nat) (t : Int) (s : Bu) (a : Option Addr), j ≤ l.length ∧ v12 = .int .i64 j ∧ v11 = .int .i64 n ∧ v10 = .int .u64 t ∧ Hid (Hold M every fr s n) ∧ Hid (s.now ≤ t ∧ 0 ≤ t ∧ t ≤ 2000 * j ∧ s.times.length ≤ 64 ∧ s.granted ≤ j ∧ n ≤ j) ∧ Hid (Bud wr w.heap.size p a M every s) ∧ Hid (Below w.heap.size w wr)) (fun _ _ i _ => l.length - (intOf i).toNat)
    case atStart => exact ⟨0, 0, 0, _, _, by omega, rfl, rfl, rfl, hold_new M every fr, Lib.hid ⟨by simp, by simp, by simp, by simp, by simp, by simp⟩, HB2, hb2'⟩
    case round =>
      obtain ⟨j, n, t, s, a, hj, rfl, rfl, rfl, HH, HN, HB, HW⟩ := hrel
      by_cases hlt : j < l.length
      · obtain ⟨b, off, rfl, hbl, hcl⟩ := HI.out.at (by omega)
        have hx := (HW.out.cell (p := ⟨b, off + j, none⟩) hbl).trans (hcl j hlt)
        have wx : 0 ≤ l.getD j 0 ∧ l.getD j 0 < 65536 := by
          have := HWF.out _ (List.getElem_mem hlt)
          rw [show l[j] = l.getD j 0 by simp [List.getD, List.getElem?_eq_getElem hlt]] at this
          exact u16_of_wf this
        generalize l.getD j 0 = x at *
        obtain ⟨n1, n2, n3, n4, n5, n6⟩ := HN.out
        obtain ⟨x1, x2⟩ := wx
        have y1 : 0 ≤ x % 2000 := by omega
        have y2 : x % 2000 < 2000 := by omega
        have y3 : t ≤ 600000 := by omega
        have hu0 : 0 ≤ t + x % 2000 := by omega
        have hu1 : t + x % 2000 < 18446744073709551616 := by omega
        have hle : s.now ≤ t + x % 2000 := by omega
        have hj2 : t + x % 2000 ≤ 2000 * ((j + 1 : Nat) : Int) := by omega
        clear hcl n1 n3
        have hgr : s.granted ≤ 1000000 := by omega
        have hl2' : s.times.length ≤ 1000000 := by omega
        go_wp2_with fail
        generalize t + x % 2000 = u at *
        have hstep := hold_step (M := M) HH.out hle
        have hnow : (ask M every s u).now ≤ u := by rw [ask_now]; omega
        have hlen' := ask_len64 (every := every) n4 hM64 u
        have hg' := ask_granted (M := M) (every := every) (s := s) u
        obtain ⟨gb, hgb⟩ : ∃ gb, grants M every s u = gb := ⟨_, rfl⟩
        rw [hgb] at hstep
        refine (ask_any _ p _ _ every u s _ HB.out ⟨hu0, hu1⟩ hl2' hgr).mono ?_
        rintro e w4 ⟨he4, ⟨a', hB4⟩, hf4⟩
        rw [hgb] at he4
        subst he4
        generalize ask M every s u = s' at *
        have HW' := Lib.hid (HW.out.trans (hf4.below HW.out.size (fun k hk => by omega)))
        have HB' := Lib.hid (hB4.mono HW.out.size)
        have HN' : Hid (s'.now ≤ u ∧ 0 ≤ u ∧ u ≤ 2000 * ((j + 1 : Nat) : Int) ∧ s'.times.length ≤ 64 ∧ s'.granted ≤ j + 1) := ⟨hnow, hu0, hj2, hlen', by omega⟩
        have HS := Lib.hid hstep
        clear hstep hnow hlen' hg' hf4 hB4 hgb hj2 hle
        cases gb
        · have HS' : Hid (Hold M every fr s' n) := Lib.hid (by have := HS.out; simpa using this)
          clear HS
          go_wp2_with fail
          go_roundw
          case rel => exact ⟨j + 1, n, u, s', a', by omega, by go_num, rfl, rfl, HS', ⟨HN'.out.1, HN'.out.2.1, HN'.out.2.2.1, HN'.out.2.2.2.1, HN'.out.2.2.2.2, by omega⟩, HB', HW'⟩
          case measure => simp [intOf]; omega
        · by_cases hfr : fr ≤ u
          · by_cases hev : u - fr < every
            · have HS' : Hid (Hold M every fr s' (n + 1)) := Lib.hid (by have := HS.out; simpa [counts, hfr, hev] using this)
              clear HS
              have hs0 : 0 ≤ u - fr := by omega
              go_wp2_with fail
              go_roundw
              case rel => exact ⟨j + 1, n + 1, u, s', a', by omega, by go_num, by go_num, rfl, HS', ⟨HN'.out.1, HN'.out.2.1, HN'.out.2.2.1, HN'.out.2.2.2.1, HN'.out.2.2.2.2, by omega⟩, HB', HW'⟩
              case measure => simp [intOf]; omega
            · have HS' : Hid (Hold M every fr s' n) := Lib.hid (by have := HS.out; simpa [counts, hfr, hev] using this)
              clear HS
              have hs0 : 0 ≤ u - fr := by omega
              go_wp2_with fail
              go_roundw
              case rel => exact ⟨j + 1, n, u, s', a', by omega, by go_num, rfl, rfl, HS', ⟨HN'.out.1, HN'.out.2.1, HN'.out.2.2.1, HN'.out.2.2.2.1, HN'.out.2.2.2.2, by omega⟩, HB', HW'⟩
              case measure => simp [intOf]; omega
          · have HS' : Hid (Hold M every fr s' n) := Lib.hid (by have := HS.out; simpa [counts, hfr] using this)
            clear HS
            go_wp2_with fail
            go_roundw
            case rel => exact ⟨j + 1, n, u, s', a', by omega, by go_num, rfl, rfl, HS', ⟨HN'.out.1, HN'.out.2.1, HN'.out.2.2.1, HN'.out.2.2.2.1, HN'.out.2.2.2.2, by omega⟩, HB', HW'⟩
            case measure => simp [intOf]; omega
      · obtain rfl : j = l.length := by omega
        have hfin := HH.out.most
        have hdec : decide ((n : Int) ≤ most % 8) = true := by simp; omega
        go_wp2_with fail
        go_ret
        exact ⟨ret_bool (by first | exact hdec | rfl), HW.out⟩
end Go.Proofs.Ytnaofmiefghhkaa
