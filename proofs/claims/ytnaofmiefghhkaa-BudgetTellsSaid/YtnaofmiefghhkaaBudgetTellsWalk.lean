/-
  'BudgetTells': the walk.
-/
import Derived.Test.YtnaofmiefghhkaaBudgetLaws
namespace Go.Proofs.Ytnaofmiefghhkaa
open Go.RowKit

set_option maxHeartbeats 4000000 in
theorem budgetTells_walk (most every : Int) (a2 : Option Addr) (len2 cap2 : Nat) (z2 : List Int) (w : World) (hm : (Lit.int .i64 most).wf = true) (he : (Lit.int .u64 every).wf = true) (hz : IsRow .u64 w a2 len2 cap2 z2) :
    Calls Try.prog 3 #[.int .i64 most, .int .u64 every, .slice a2 len2 cap2] w fun e w' => e = .returned (.bool true) ∧ Below w.heap.size w w' := by
  have hE := word_of_wf he
  go_enter Try.func3, Try.ntmps3
  go_wp2_with fail
  refine (new_any most every _ hm hE).mono ?_
  rintro e w1 ⟨p, rfl, hp, hB, hb1⟩
  have hb1' := Lib.hid hb1
  have hB' := Lib.hid hB
  clear hb1 hB
  go_wp2_with fail
  refine (balive_walk _).mono ?_
  rintro e w2 ⟨rfl, hb2⟩
  obtain ⟨hI, hlen, hc, hmx, hwf⟩ := Ints.of_row hz
  generalize z2.take len2 = l at *
  subst hlen
  have hlm : l.length ≤ 9223372036854775807 := by simp only [maxLen] at hmx; omega
  have HI := Lib.hid hI
  have HWF := Lib.hid hwf
  have hb2' := Lib.hid (hb1'.out.trans (hb2.mono hb1'.out.size))
  have HB2 := Lib.hid (hB'.out.below hb2)
  clear hI hwf hb2 hb1' hB'
  by_cases h300 : (300 : Int) < l.length
  · go_wp2_with fail
    refine (balive_walk _).mono ?_
    rintro e w3 ⟨rfl, hb3⟩
    go_wp2_with fail
    go_ret
    exact ⟨rfl, hb2'.out.trans (hb3.mono hb2'.out.size)⟩
  · go_wp2_with fail
    refine (rnew_any most every _ hm hE).mono ?_
    rintro e w3 ⟨q, rfl, hq, hR, hb3⟩
    go_wp2_with fail
    have hb0 : Below w.heap.size w w3 := hb2'.out.trans (hb3.mono hb2'.out.size)
    have HB3 := Lib.hid (HB2.out.below hb3)
    have HR3 := Lib.hid (hR.mono hb2'.out.size)
    have hpq : p ≠ q := by have := HB2.out.lt; omega
    have hq0 : w.heap.size ≤ q := Nat.le_trans hb2'.out.size hq
    have hb0' := Lib.hid hb0
    have hM : (max 0 (min most 64)).toNat ≤ 64 := by omega
    generalize (max 0 (min most 64)).toNat = M at *
    clear hb0 hb3 hR
    go_loopw [9] (fun i wr => ∃ (j : Nat) (s : Bu) (r : Rf) (ab ar : Option Addr), j ≤ l.length ∧ i = .int .i64 j ∧ Hid (Like every s r ∧ s.times.length ≤ 64 ∧ r.l.length ≤ j) ∧ Hid (Bud wr w.heap.size p ab M every s) ∧ Hid (RBud wr w.heap.size q ar M every r) ∧ Hid (Sep p ab q ar) ∧ Hid (Below w.heap.size w wr)) (fun i _ => l.length - (intOf i).toNat)
    case atStart => exact ⟨0, _, _, none, none, by omega, rfl, ⟨like_new every, by simp, by simp⟩, HB3, HR3, ⟨hpq, fun g h => (by cases h), fun g h => (by cases h), fun g h => (by cases h)⟩, hb0'⟩
    case round =>
      obtain ⟨j, s, r, ab, ar, hj, rfl, HL, HB, HR, HS, HW⟩ := hrel
      by_cases hlt : j < l.length
      · obtain ⟨b, off, rfl, hbl, hcl⟩ := HI.out.at (by omega)
        have hx0 := hcl j hlt
        have hx := (HW.out.cell (p := ⟨b, off + j, none⟩) hbl).trans hx0
        have wx : Word (l.getD j 0) := by
          have := HWF.out _ (List.getElem_mem hlt)
          rw [show l[j] = l.getD j 0 by simp [List.getD, List.getElem?_eq_getElem hlt]] at this
          exact word_of_wf this
        generalize l.getD j 0 = x at *
        obtain ⟨hl1, hl2, hl3⟩ := HL.out
        have hg1 := like_grants (most := M) hl1 x
        obtain ⟨gb, hg2⟩ : ∃ gb, rgrants M every r x = gb := ⟨_, rfl⟩
        rw [hg2] at hg1
        have hl4 := like_ask (most := M) hl1 x
        have hl5 : (ask M every s x).times.length ≤ 64 := by
          have := still_len every s x
          unfold ask
          split
          · show (still every s x).length ≤ _; omega
          · rename_i hn; show (still every s x ++ [_]).length ≤ _; simp; omega
        have hl6 : (rask M every r x).l.length ≤ j + 1 := by
          unfold rask
          split
          · show r.l.length ≤ _; omega
          · show (r.l ++ [_]).length ≤ _; simp; omega
        generalize hS' : ask M every s x = s' at *
        generalize hR' : rask M every r x = r' at *
        have hgr : s.granted ≤ 1000000 := by have := hl1.count; omega
        have G1 := Lib.hid hg1
        have G2 := Lib.hid hg2
        have ES := Lib.hid hS'
        have ER := Lib.hid hR'
        have HL' := Lib.hid hl4
        clear hg1 hg2 hS' hR' hl4 hx0 hcl hl1
        have hl2' : s.times.length ≤ 1000000 := by omega
        have hl3' : r.l.length ≤ 1000000 := by omega
        have hw0 := HW.out.size
        have hbr : b < wr.drew.heap.size := by show b < wr.heap.size; omega
        have hbp : ¬ (b = p) := by omega
        have hbq : ¬ (b = q ∨ ar = some ⟨b, 0, none⟩) := by
          rintro (e | e)
          · omega
          · have := HR.out.hi b e; omega
        have HS' : Sep p ab q ar := HS.out
        clear HS
        have HS := Lib.hid HS'
        clear HS'
        go_wp2_with fail
        go_region_law (first
          | (go_simp; go_at_call 16; refine (ask_any _ p _ _ every x s _ HB.out.drew wx hl2' hgr).mono ?_; rintro e w4 ⟨he, ⟨ab', hB4⟩, hf4⟩; have hx4 := (hf4.cell (q := b) (o := off + j) hbr hbp).trans hx; rw [G1.out] at he; rw [ES.out] at hB4; subst he; have HB4 := Lib.hid hB4; have HF4 := Lib.hid hf4; clear hB4 hf4)
          | (go_simp; go_at_call 17; refine (rask_any _ q _ _ every x r _ (both_1 HR.out.drew HS.out HF4.out) wx hl3' (Nat.le_trans hw0 HF4.out.size)).mono ?_; rintro e w5 ⟨he, ⟨ar', hR5, hat⟩, hf5⟩; have hx5 := (hf5.cell (q := b) (o := off + j) (Nat.lt_of_lt_of_le hbr HF4.out.size) hbq).trans hx4; rw [G2.out] at he; rw [ER.out] at hR5; subst he; obtain ⟨c5, hc5, _⟩ := hR5.row; have HR5 := Lib.hid hR5; have HF5 := Lib.hid hf5; have HAT := Lib.hid hat; have HB5 := Lib.hid (both_2 HB4.out HR.out.drew HS.out hf5); clear hR5 hf5 hat)
          | (go_simp; go_at_call 18; refine (granted_any _ p _ _ _ _ _ HB5.out).mono ?_; rintro e w6 ⟨he, rfl⟩; rw [HL'.out.count] at he; subst he))
        all_goals (
          have HSEP : Hid (Sep p ab' q ar') := both_sep HB4.out HR.out.drew HS.out HAT.out
          have HW5 : Hid (Below w.heap.size w w5) := HW.out.trans ((show Below w.heap.size wr wr.drew from ⟨rfl, rfl, rfl, Nat.le_refl _, fun _ _ => rfl⟩).trans (((HF4.out.below hw0 (fun k hk => by omega))).trans (HF5.out.below (Nat.le_trans hw0 HF4.out.size) (fun k hk => by
            rcases hk with hk | hk
            · omega
            · exact (HR.out.hi k hk).1))))
          have HB6 : Hid (Bud w5 w.heap.size p ab' M every s') := HB5.out.mono hw0
          clear HB4 HF4 HF5 HB5
          go_wp2_with fail
          go_roundw
          case rel => exact ⟨j + 1, s', r', ab', ar', by omega, by go_num, ⟨HL'.out, hl5, hl6⟩, HB6, HR5, HSEP, HW5⟩
          case measure => simp [intOf]; omega)
      · obtain rfl : j = l.length := by omega
        go_wp2_with fail
        go_ret
        exact ⟨rfl, HW.out⟩
end Go.Proofs.Ytnaofmiefghhkaa
