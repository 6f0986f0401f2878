/-
  'BudgetRests': the walk.
-/
import Derived.Test.YtnaofmiefghhkaaHoldsWalks
namespace Go.Proofs.Ytnaofmiefghhkaa
open Go.RowKit

set_option maxHeartbeats 2000000 in
theorem budgetRests_walk (most every : Int) (a2 : Option Addr) (len2 cap2 : Nat) (z2 : List Int) (w : World) (hm : (Lit.int .u8 most).wf = true) (he : (Lit.int .u16 every).wf = true) (hz : IsRow .u16 w a2 len2 cap2 z2) :
    Calls Try.prog 5 #[.int .u8 most, .int .u16 every, .slice a2 len2 cap2] w fun e w' => e = .returned (.bool true) ∧ Below w.heap.size w w' := by
  have hM := byte_of_wf hm
  have hE := u16_of_wf he
  obtain ⟨hI, hlen, hc, hmx, hwf⟩ := Ints.of_row hz
  generalize z2.take len2 = l at *
  subst hlen
  have hlm : l.length ≤ 9223372036854775807 := by simp only [maxLen] at hmx; omega
  have HI := Lib.hid hI
  have HWF := Lib.hid hwf
  clear hI hwf
  go_enter Try.func5, Try.ntmps5
  go_wp2_with fail
  have hEw : Word (every + 1) := ⟨by omega, by omega⟩
  refine (new_any (most % 8 + 1) (every + 1) _ (int_wf (by omega) (by omega)) hEw).mono ?_
  rintro e w1 ⟨p, rfl, hp, hB, hb1⟩
  have hMm : (((max 0 (min (most % 8 + 1) 64)).toNat : Nat) : Int) = most % 8 + 1 := by omega
  have hM64 : (max 0 (min (most % 8 + 1) 64)).toNat ≤ 64 := by omega
  generalize (max 0 (min (most % 8 + 1) 64)).toNat = M at *
  have hb1' := Lib.hid hb1
  have hB' := Lib.hid hB
  clear hb1 hB
  go_wp2_with fail
  refine (balive_walk _).mono ?_
  rintro e w2 ⟨rfl, hb2⟩
  have hb2' := Lib.hid (hb1'.out.trans (hb2.mono hb1'.out.size))
  have HB2 := Lib.hid (hB'.out.below hb2)
  clear hb2 hb1' hB'
  by_cases h300 : (300 : Int) < l.length
  · go_wp2_with fail
    refine (balive_walk _).mono ?_
    rintro e w3 ⟨rfl, hb3⟩
    go_wp2_with fail
    go_ret
    exact ⟨rfl, hb2'.out.trans (hb3.mono hb2'.out.size)⟩
  · go_wp2_with fail
    go_loopw [9, 10] (fun v9 v10 wr => ∃ (j : Nat) (t : Int) (s : Bu) (a : Option Addr), j ≤ l.length ∧ v10 = .int .i64 j ∧ v9 = .int .u64 t ∧ Hid (∀ x ∈ s.times, x ≤ s.now) ∧ Hid (s.now ≤ t ∧ 0 ≤ t ∧ t ≤ 65536 * j ∧ s.times.length ≤ 64 ∧ s.granted ≤ j) ∧ Hid (Bud wr w.heap.size p a M (every + 1) s) ∧ Hid (Below w.heap.size w wr)) (fun _ i _ => l.length - (intOf i).toNat)
    case atStart => exact ⟨0, 0, _, _, by omega, rfl, rfl, Lib.hid (by intro x hx; cases hx), Lib.hid ⟨by simp, by simp, by simp, by simp, by simp⟩, HB2, hb2'⟩
    case round =>
      obtain ⟨j, t, s, a, hj, rfl, rfl, HH, HN, HB, HW⟩ := hrel
      by_cases hlt : j < l.length
      · obtain ⟨b, off, rfl, hbl, hcl⟩ := HI.out.at (by omega)
        have hx := (HW.out.cell (p := ⟨b, off + j, none⟩) hbl).trans (hcl j hlt)
        have wx : 0 ≤ l.getD j 0 ∧ l.getD j 0 < 65536 := by
          have := HWF.out _ (List.getElem_mem hlt)
          rw [show l[j] = l.getD j 0 by simp [List.getD, List.getElem?_eq_getElem hlt]] at this
          exact u16_of_wf this
        generalize l.getD j 0 = x at *
        obtain ⟨n1, n2, n3, n4, n5⟩ := HN.out
        obtain ⟨x1, x2⟩ := wx
        have y3 : t ≤ 65536 * 300 := by omega
        have hgr : s.granted ≤ 1000000 := by omega
        have hl2' : s.times.length ≤ 1000000 := by omega
        have hu0 : 0 ≤ t + x := by omega
        have hu1 : t + x < 18446744073709551616 := by omega
        have hle : s.now ≤ t + x := by omega
        have hj2 : t + x ≤ 65536 * ((j + 1 : Nat) : Int) := by omega
        clear hcl n1 n3
        go_wp2_with fail
        generalize t + x = u at *
        have hnow : (ask M (every + 1) s u).now ≤ u := by rw [ask_now]; omega
        have hlen' := ask_len64 (every := every + 1) n4 hM64 u
        have hg' := ask_granted (M := M) (every := every + 1) (s := s) u
        have hle' := ask_le (M := M) (every := every + 1) HH.out u
        refine (ask_any _ p _ _ (every + 1) u s _ HB.out ⟨hu0, hu1⟩ hl2' hgr).mono ?_
        rintro e w4 ⟨he4, ⟨a', hB4⟩, hf4⟩
        subst he4
        generalize ask M (every + 1) s u = s' at *
        generalize grants M (every + 1) s u = gb at *
        have HW' := Lib.hid (HW.out.trans (hf4.below HW.out.size (fun k hk => by omega)))
        have HB' := Lib.hid (hB4.mono HW.out.size)
        have HN' : Hid (s'.now ≤ u ∧ 0 ≤ u ∧ u ≤ 65536 * ((j + 1 : Nat) : Int) ∧ s'.times.length ≤ 64 ∧ s'.granted ≤ j + 1) := ⟨hnow, hu0, hj2, hlen', by omega⟩
        have HL' := Lib.hid hle'
        clear hnow hlen' hg' hf4 hB4 hj2 hle hle'
        go_wp2_with fail
        go_roundw
        case rel => exact ⟨j + 1, u, s', a', by omega, by go_num, rfl, HL', HN', HB', HW'⟩
        case measure => simp [intOf]; omega
      · obtain rfl : j = l.length := by omega
        obtain ⟨n1, n2, n3, n4, n5⟩ := HN.out
        have y3 : t ≤ 65536 * 300 := by omega
        have hT0 : 0 ≤ t + every + 1 := by omega
        have hT1 : t + every + 1 ≤ 65536 * 302 := by omega
        have hR0 := rested_0 (every := every + 1) (t := t + every + 1) HH.out (by omega) (by omega)
        have hgr : s.granted ≤ 300 := by omega
        have HR0 := Lib.hid hR0
        clear hR0 n1 n3 n5
        have ht0 : 0 ≤ t + every := by omega
        go_wp2_with fail
        generalize t + every + 1 = T at *
        have hlen0 := n4
        clear n4 y3 ht0 n2
        have HN2 := Lib.hid (show s.times.length ≤ 64 ∧ s.granted ≤ 300 + 0 from ⟨hlen0, hgr⟩)
        clear hlen0 hgr HN
        go_loopw [11] (fun v11 wq => ∃ (k : Nat) (s : Bu) (a : Option Addr), k ≤ M ∧ v11 = .int .i64 k ∧ Hid (Rested (every + 1) T k s) ∧ Hid (s.times.length ≤ 64 ∧ s.granted ≤ 300 + k) ∧ Hid (Bud wq w.heap.size p a M (every + 1) s) ∧ Hid (Below w.heap.size w wq)) (fun i _ => M - (intOf i).toNat)
        case atStart => exact ⟨0, _, _, by omega, rfl, HR0, HN2, HB, HW⟩
        case round =>
          clear HR0 HN2 HB HW HH
          obtain ⟨k, s, a, hk, rfl, HR, HN, HB, HW⟩ := hrel
          have hgr : s.granted ≤ 1000000 := by have := HN.out.2; omega
          have hl2' : s.times.length ≤ 1000000 := by have := HN.out.1; omega
          by_cases hlt2 : k < M
          · have hdec : decide ((k : Int) < most % 8 + 1) = true := by simp; omega
            obtain ⟨hy, hR'⟩ := rested_yes HR.out (by omega) hlt2
            have hlen' := ask_len64 (every := every + 1) HN.out.1 hM64 T
            have hg' := ask_granted (M := M) (every := every + 1) (s := s) T
            have HR' := Lib.hid hR'
            have HY := Lib.hid hy
            have HN' := Lib.hid (show (ask M (every + 1) s T).times.length ≤ 64 ∧ (ask M (every + 1) s T).granted ≤ 300 + (k + 1) from ⟨hlen', by have := HN.out.2; omega⟩)
            clear hy hR' hlen' hg'
            go_wp2_with fail
            refine (ask_any _ p _ _ (every + 1) T s _ HB.out ⟨hT0, by omega⟩ hl2' hgr).mono ?_
            rintro e w4 ⟨he4, ⟨a', hB4⟩, hf4⟩
            rw [HY.out] at he4
            subst he4
            generalize ask M (every + 1) s T = s' at *
            have HW' := Lib.hid (HW.out.trans (hf4.below HW.out.size (fun k hk => by omega)))
            have HB' := Lib.hid (hB4.mono HW.out.size)
            clear hf4 hB4
            go_wp2_with fail
            go_roundw
            case rel => exact ⟨k + 1, s', a', by omega, by go_num, HR', HN', HB', HW'⟩
            case measure => simp [intOf]; omega
          · obtain rfl : k = M := by omega
            have hdec : decide ((k : Int) < most % 8 + 1) = false := by simp; omega
            obtain ⟨hno, hR1⟩ := rested_no HR.out (by omega)
            obtain ⟨hno2, hnow2, hst2⟩ := rested_late hR1 (by omega)
            rw [show T + (every + 1 - 1) = T + every by omega] at hno2 hnow2 hst2
            have hyes := rested_again (u := T + every + 1) (by rw [hnow2]; omega) (hst2 (T + (every + 1)) (by omega)) (by omega) (by omega) (by omega)
            have hl1 := ask_len64 (every := every + 1) HN.out.1 hM64 T
            have hg1 := ask_granted (M := k) (every := every + 1) (s := s) T
            have HNO := Lib.hid hno
            have HNO2 := Lib.hid hno2
            have HY := Lib.hid hyes
            clear hno hR1 hno2 hnow2 hst2 hyes
            have hT2 : 0 ≤ T + every := by omega
            have hT3 : 0 ≤ T + every + 1 := by omega
            go_wp2_with fail
            refine (ask_any _ p _ _ (every + 1) T s _ HB.out ⟨hT0, by omega⟩ hl2' hgr).mono ?_
            rintro e w4 ⟨he4, ⟨a4, hB4⟩, hf4⟩
            rw [HNO.out] at he4
            subst he4
            generalize hs1 : ask k (every + 1) s T = s1 at *
            have hl2 := ask_len64 (every := every + 1) hl1 hM64 (T + every)
            have hg2 := ask_granted (M := k) (every := every + 1) (s := s1) (T + every)
            have HW4 := Lib.hid (HW.out.trans (hf4.below HW.out.size (fun k hk => by omega)))
            have HB4 := Lib.hid (hB4.mono HW.out.size)
            have HG := Lib.hid (show s1.times.length ≤ 64 ∧ s1.granted ≤ 1000 from ⟨hl1, by have := HN.out.2; omega⟩)
            have HG2 := Lib.hid hl2
            have HG3 := Lib.hid hg2
            clear hl1 hg1 hl2 hg2 hB4 hf4 hs1
            go_wp2_with fail
            refine (ask_any _ p _ _ (every + 1) (T + every) s1 _ HB4.out ⟨hT2, by omega⟩ (by have := HG.out.1; omega) (by have := HG.out.2; omega)).mono ?_
            rintro e w5 ⟨he5, ⟨a5, hB5⟩, hf5⟩
            rw [HNO2.out] at he5
            subst he5
            have HB5 := Lib.hid (hB5.mono HW4.out.size)
            have HW5 := Lib.hid (HW4.out.trans (hf5.below HW4.out.size (fun k hk => by omega)))
            generalize ask k (every + 1) s1 (T + every) = s2 at *
            clear hB5 hf5
            go_wp2_with fail
            refine (ask_any _ p _ _ (every + 1) (T + every + 1) s2 _ HB5.out ⟨hT3, by omega⟩ (by have := HG2.out; omega) (by have := HG.out.2; have := HG3.out; omega)).mono ?_
            rintro e w6 ⟨he6, ⟨a6, hB6⟩, hf6⟩
            rw [HY.out] at he6
            subst he6
            have HW6 := Lib.hid (HW5.out.trans (hf6.below HW5.out.size (fun k hk => by omega)))
            clear hB6 hf6
            go_wp2_with fail
            go_ret
            exact ⟨rfl, HW6.out⟩
end Go.Proofs.Ytnaofmiefghhkaa
