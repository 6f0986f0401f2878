/-
  'BudgetForks': the walk.
-/
import Derived.Test.YtnaofmiefghhkaaHoldsWalks
namespace Go.Proofs.Ytnaofmiefghhkaa
open Go.RowKit

set_option maxHeartbeats 4000000 in
theorem budgetForks_walk (most every : Int) (a2 : Option Addr) (len2 cap2 : Nat) (z2 : List Int) (a3 : Option Addr) (len3 cap3 : Nat) (z3 : List Int) (w : World) (hm : (Lit.int .i64 most).wf = true) (he : (Lit.int .u64 every).wf = true) (hz : IsRow .u64 w a2 len2 cap2 z2) (hz3 : IsRow .u64 w a3 len3 cap3 z3) :
    Calls Try.prog 6 #[.int .i64 most, .int .u64 every, .slice a2 len2 cap2, .slice a3 len3 cap3] w fun e w' => e = .returned (.bool true) ∧ Below w.heap.size w w' := by
  have hE := word_of_wf he
  obtain ⟨hI, hlen, hc, hmx, hwf⟩ := Ints.of_row hz
  generalize z2.take len2 = l at *
  subst hlen
  have hlm : l.length ≤ 9223372036854775807 := by simp only [maxLen] at hmx; omega
  obtain ⟨hI3, hlen3, hc3, hmx3, hwf3⟩ := Ints.of_row hz3
  generalize z3.take len3 = m at *
  subst hlen3
  have hlm3 : m.length ≤ 9223372036854775807 := by simp only [maxLen] at hmx3; omega
  have HI := Lib.hid hI
  have HWF := Lib.hid hwf
  have HI3 := Lib.hid hI3
  have HWF3 := Lib.hid hwf3
  clear hI hwf hI3 hwf3
  go_enter Try.func6, Try.ntmps6
  go_wp2_with fail
  refine (new_any most every _ hm hE).mono ?_
  rintro e w1 ⟨p, rfl, hp, hB, hb1⟩
  have hb1' := Lib.hid hb1
  have hB' := Lib.hid hB
  clear hb1 hB
  go_wp2_with fail
  refine (balive_walk _).mono ?_
  rintro e w2 ⟨rfl, hb2⟩
  have hb2' := Lib.hid (hb1'.out.trans (hb2.mono hb1'.out.size))
  have HB2 := Lib.hid (hB'.out.below hb2)
  clear hb2 hb1' hB'
  have go_away : ((100 : Int) < l.length ∨ (100 : Int) < m.length) ∨ ((l.length : Int) ≤ 100 ∧ (m.length : Int) ≤ 100) := by omega
  rcases go_away with h | ⟨h100, h103⟩
  · have HA := Lib.hid (balive_walk w2)
    by_cases h1 : (100 : Int) < l.length
    · go_wp2_with fail
      refine (balive_walk _).mono ?_
      rintro e w3 ⟨rfl, hb3⟩
      go_wp2_with fail
      go_ret
      exact ⟨rfl, hb2'.out.trans (hb3.mono hb2'.out.size)⟩
    · have h3 : (100 : Int) < m.length := by omega
      go_wp2_with fail
      refine (balive_walk _).mono ?_
      rintro e w3 ⟨rfl, hb3⟩
      go_wp2_with fail
      go_ret
      exact ⟨rfl, hb2'.out.trans (hb3.mono hb2'.out.size)⟩
  · go_wp2_with fail
    refine (rnew_any most every _ hm hE).mono ?_
    rintro e w3 ⟨q, rfl, hq, hR, hb3⟩
    go_wp2_with fail
    have hb0 : Below w.heap.size w w3 := hb2'.out.trans (hb3.mono hb2'.out.size)
    have HB3 := Lib.hid (HB2.out.below hb3)
    have HR3 := Lib.hid (hR.mono hb2'.out.size)
    have hpq : p ≠ q := by have := HB2.out.lt; omega
    have hq0 : w.heap.size ≤ q := Nat.le_trans hb2'.out.size hq
    have hb0' := Lib.hid hb0
    have hM : (max 0 (min most 64)).toNat ≤ 64 := by omega
    generalize (max 0 (min most 64)).toNat = M at *
    clear hb0 hb3 hR
    clear HB2 hb2'
    go_loopw [11, 12] (fun v11 v12 wr => ∃ (j : Nat) (s : Bu) (r : Rf) (ab ar : Option Addr), j ≤ l.length ∧ v12 = .int .i64 j ∧ v11 = .int .u64 s.now ∧ Hid (Like every s r ∧ s.times.length ≤ 64 ∧ r.l.length ≤ j) ∧ Hid (Bud wr w.heap.size p ab M every s) ∧ Hid (RBud wr w.heap.size q ar M every r) ∧ Hid (Sep p ab q ar) ∧ Hid (Below w.heap.size w wr)) (fun _ i _ => l.length - (intOf i).toNat)
    case atStart => exact ⟨0, ⟨0, [], 0⟩, _, none, none, by omega, rfl, rfl, ⟨like_new every, by simp, by simp⟩, HB3, HR3, ⟨hpq, fun g h => (by cases h), fun g h => (by cases h), fun g h => (by cases h)⟩, hb0'⟩
    case round =>
      obtain ⟨j, s, r, ab, ar, hj, rfl, rfl, HL, HB, HR, HS, HW⟩ := hrel
      clear HB3 HR3 hb0'
      have hw0 := HW.out.size
      by_cases hlt : j < l.length
      · obtain ⟨b, off, rfl, hbl, hcl⟩ := HI.out.at (by omega)
        have hx0 := hcl j hlt
        have hx := (HW.out.cell (p := ⟨b, off + j, none⟩) hbl).trans hx0
        have wx : Word (l.getD j 0) := by
          have := HWF.out _ (List.getElem_mem hlt)
          rw [show l[j] = l.getD j 0 by simp [List.getD, List.getElem?_eq_getElem hlt]] at this
          exact word_of_wf this
        generalize l.getD j 0 = x at *
        obtain ⟨hl1, hl2, hl3⟩ := HL.out
        have hl4 := Lib.hid (like_ask (most := M) hl1 x)
        have hl5 := Lib.hid (ask_len64 (every := every) hl2 hM x)
        have hl6 : Hid ((rask M every r x).l.length ≤ j + 1) := Lib.hid (by
          unfold rask
          split
          · show r.l.length ≤ _; omega
          · show (r.l ++ [_]).length ≤ _; simp; omega)
        have hnow := Lib.hid (ask_now (M := M) (every := every) (s := s) x)
        have hgr : s.granted ≤ 1000000 := by have := hl1.count; omega
        have hl2' : s.times.length ≤ 1000000 := by omega
        have hl3' : r.l.length ≤ 1000000 := by omega
        have wnow := HB.out.wnow
        have w0 := wnow.1
        have w1' := wnow.2
        have x0 := wx.1
        have x1 := wx.2
        clear hx0 hcl hl1 hl3 hl2
        have hbr : b < wr.heap.size := by omega
        have hbp : ¬ (b = p) := by omega
        have hbq : ¬ (b = q ∨ ar = some ⟨b, 0, none⟩) := by
          rintro (e | e)
          · omega
          · have := HR.out.hi b e; omega
        go_wp2_with fail
        refine (ask_any _ p _ _ every x s _ HB.out wx hl2' hgr).mono ?_
        rintro e w4 ⟨he, ⟨ab', hB4⟩, hf4⟩
        subst he
        generalize grants M every s x = gb at *
        have hx4 := (hf4.cell (q := b) (o := off + j) hbr hbp).trans hx
        have HR4 := Lib.hid (both_1 HR.out HS.out hf4)
        have HB4 := Lib.hid hB4
        have hw4 := Nat.le_trans hw0 hf4.size
        have HW4 := Lib.hid (HW.out.trans (hf4.below hw0 (fun k hk => by omega)))
        have hbr4 : b < w4.heap.size := by omega
        clear hB4 hf4
        go_wp2_with fail
        refine (rask_any _ q _ _ every x r _ HR4.out wx hl3' hw4).mono ?_
        rintro e w5 ⟨he, ⟨ar', hR5, hat⟩, hf5⟩
        subst he
        generalize rgrants M every r x = gb2 at *
        have HB5 := Lib.hid ((both_2 HB4.out HR.out HS.out hf5).mono hw0)
        have HR5 := Lib.hid hR5
        have HSEP : Hid (Sep p ab' q ar') := both_sep HB4.out HR.out HS.out hat
        have HW5 : Hid (Below w.heap.size w w5) := HW4.out.trans (hf5.below hw4 (fun k hk => by
            rcases hk with hk | hk
            · omega
            · exact (HR.out.hi k hk).1))
        generalize ask M every s x = s' at *
        generalize rask M every r x = r' at *
        clear hR5 hat hf5 HB4 HR4
        go_wp2_with fail
        go_roundw
        case rel => exact ⟨j + 1, s', r', ab', ar', by omega, by go_num, by rw [hnow.out], ⟨hl4.out, hl5.out, hl6.out⟩, HB5, HR5, HSEP, HW5⟩
        case measure => simp [intOf]; omega
      · obtain rfl : j = l.length := by omega
        have hl2 : s.times.length ≤ 64 := HL.out.2.1
        have hl3 : r.l.length ≤ 1000000 := by have := HL.out.2.2; omega
        go_wp2_with fail
        refine (fork_any _ p _ _ every s _ HB.out hl2).mono ?_
        rintro e w4 ⟨pf, af, rfl, hpf, hF4, hb4⟩
        have HB4 := Lib.hid (HB.out.below hb4)
        have HR4 := Lib.hid (HR.out.below hb4)
        have HF4 := Lib.hid hF4
        have hs4 := hb4.size
        have HW4 := Lib.hid (HW.out.trans (hb4.mono hw0))
        clear hF4 hb4
        go_wp2_with fail
        refine (fork_any _ p _ _ every s _ HB4.out hl2).mono ?_
        rintro e w5 ⟨pg, ag, rfl, hpg, hG5, hb5⟩
        have HB5 := Lib.hid (HB4.out.below hb5)
        have HR5 := Lib.hid (HR4.out.below hb5)
        have HF5 := Lib.hid (HF4.out.below hb5)
        have HG5 := Lib.hid hG5
        have hs5 := hb5.size
        have HW5 := Lib.hid (HW4.out.trans (hb5.mono HW4.out.size))
        have hlf := HF4.out.lt
        clear hG5 hb5 HB4 HR4
        go_wp2_with fail
        refine (rfork_any _ q _ _ every r _ HR5.out hl3).mono ?_
        rintro e w6 ⟨ps, ac, rfl, hps, hS6, hb6⟩
        have HB6 := Lib.hid (HB5.out.below hb6)
        have HR6 := Lib.hid (HR5.out.below hb6)
        have HF6 := Lib.hid (HF5.out.below hb6)
        have HG6 := Lib.hid (HG5.out.below hb6)
        have HS6 := Lib.hid hS6
        have hs6 := hb6.size
        have HW6 := Lib.hid (HW5.out.trans (hb6.mono HW5.out.size))
        have hlg := HG5.out.lt
        clear hS6 hb6 HB5 HR5
        go_wp2_with fail
        have hL0 := Lib.hid (show Like every s r ∧ s.times.length ≤ 64 ∧ r.l.length ≤ 100 + 0 from ⟨HL.out.1, HL.out.2.1, by have := HL.out.2.2; omega⟩)
        have hsep : Sep pf af ps ac := ⟨by omega, fun g hg => by have := HF5.out.hi g hg; omega, fun g hg => by have := HS6.out.hi g hg; omega, fun g hg hg2 => by have h1 := HF5.out.hi g hg; have h2 := HS6.out.hi g hg2; omega⟩
        have HSEP := Lib.hid hsep
        have HR5' : w5.heap.size ≤ w6.heap.size := hs6
        have hw6 : w.heap.size ≤ w6.heap.size := HW6.out.size
        clear hsep
        have hlp : p < pf := Nat.lt_of_lt_of_le HB.out.lt hpf
        have hlq : q < pf := Nat.lt_of_lt_of_le HR.out.lt hpf
        have HRB : Hid (RowIn w.heap.size pf ab) := Lib.hid (HB.out.hi.mono (Nat.le_refl _) hpf)
        have HRR : Hid (RowIn w.heap.size pf ar) := Lib.hid (HR.out.hi.mono (Nat.le_refl _) hpf)
        have HRC : Hid (RowIn w5.heap.size w6.heap.size ac) := Lib.hid HS6.out.hi
        have HRG : Hid (RowIn w4.heap.size w5.heap.size ag) := Lib.hid HG5.out.hi
        have HFw : Hid (Bud w6 w.heap.size pf af M every s) := Lib.hid (HF6.out.mono hw0)
        have hpw : w.heap.size ≤ pf := Nat.le_trans hw0 hpf
        clear HF5 HG5 HF4 HF6 HB HR HS HW4 HW5 HW hs4 hpf
        go_loopw [16] (fun v16 wq => ∃ (j : Nat) (s2 : Bu) (r2 : Rf) (af2 ac2 : Option Addr), j ≤ m.length ∧ v16 = .int .i64 j ∧ Hid (Like every s2 r2 ∧ s2.times.length ≤ 64 ∧ r2.l.length ≤ 100 + j) ∧ Hid (Bud wq w.heap.size pf af2 M every s2) ∧ Hid (RBud wq w5.heap.size ps ac2 M every r2) ∧ Hid (Sep pf af2 ps ac2) ∧ Hid (Off (fun k => k = pf ∨ k = ps ∨ ac = some ⟨k, 0, none⟩) w6 wq) ∧ Hid (∀ k, k < w6.heap.size → ac2 = some ⟨k, 0, none⟩ → ac = some ⟨k, 0, none⟩) ∧ Hid (Below w.heap.size w wq)) (fun i _ => m.length - (intOf i).toNat)
        case atStart => exact ⟨0, _, _, _, _, by omega, rfl, hL0, HFw, HS6, HSEP, Lib.hid (Off.refl _ _), Lib.hid (fun k _ h => h), HW6⟩
        case round =>
          obtain ⟨j, s2, r2, af2, ac2, hj, rfl, HL2, HF, HC, HP, HO, HK, HW2⟩ := hrel
          have hw2 := HO.out.size
          by_cases hlt2 : j < m.length
          · obtain ⟨b, off, rfl, hbl, hcl⟩ := HI3.out.at (by omega)
            have hx0 := hcl j hlt2
            have hx := (HW2.out.cell (p := ⟨b, off + j, none⟩) hbl).trans hx0
            have wx : Word (m.getD j 0) := by
              have := HWF3.out _ (List.getElem_mem hlt2)
              rw [show m[j] = m.getD j 0 by simp [List.getD, List.getElem?_eq_getElem hlt2]] at this
              exact word_of_wf this
            generalize m.getD j 0 = x at *
            obtain ⟨hm1, hm2, hm3⟩ := HL2.out
            have hg1 := like_grants (most := M) hm1 x
            obtain ⟨gb, hg2⟩ : ∃ gb, rgrants M every r2 x = gb := ⟨_, rfl⟩
            rw [hg2] at hg1
            have hl4 := like_ask (most := M) hm1 x
            have hl5 := ask_len64 (every := every) hm2 hM x
            have hl6 : (rask M every r2 x).l.length ≤ 100 + (j + 1) := by
              unfold rask
              split
              · show r2.l.length ≤ _; omega
              · show (r2.l ++ [_]).length ≤ _; simp; omega
            generalize hS' : ask M every s2 x = s' at *
            generalize hR' : rask M every r2 x = r' at *
            have hgr : s2.granted ≤ 1000000 := by have := hm1.count; omega
            have G1 := Lib.hid hg1
            have G2 := Lib.hid hg2
            have ES := Lib.hid hS'
            have ER := Lib.hid hR'
            have HL' := Lib.hid (show Like every s' r' ∧ s'.times.length ≤ 64 ∧ r'.l.length ≤ 100 + (j + 1) from ⟨hl4, hl5, hl6⟩)
            have hl2' : s2.times.length ≤ 1000000 := by omega
            have hl3' : r2.l.length ≤ 1000000 := by omega
            clear hg1 hg2 hS' hR' hl4 hl5 hl6 hx0 hcl hm1 hm3
            have hwr := HW2.out.size
            have hbr : b < wr.drew.heap.size := by show b < wr.heap.size; omega
            have hbp : ¬ (b = pf) := by omega
            have hbq : ¬ (b = ps ∨ ac2 = some ⟨b, 0, none⟩) := by
              rintro (e | e)
              · omega
              · have := HC.out.hi b e; omega
            have hw5 : w5.heap.size ≤ wr.drew.heap.size := by show w5.heap.size ≤ wr.heap.size; omega
            go_wp2_with fail
            go_region_held3 (fun w' => w'.cell? ⟨b, off + j, none⟩ = some (.int .u64 x)) (first | assumption | simp [go_sem, *]) (first
              | (go_at_call 16; refine (ask_any _ pf _ _ every x s2 _ HF.out.drew wx hl2' hgr).mono ?_; rintro e w7 ⟨he, ⟨af3, hB4⟩, hf4⟩; have hx4 := (hf4.cell (q := b) (o := off + j) hbr hbp).trans hx; rw [G1.out] at he; rw [ES.out] at hB4; subst he; have HB4 := Lib.hid hB4; have HF4 := Lib.hid hf4; clear hB4 hf4)
              | (go_at_call 17; refine (rask_any _ ps _ _ every x r2 _ (both_1 HC.out.drew HP.out HF4.out) wx hl3' (Nat.le_trans hw5 HF4.out.size)).mono ?_; rintro e w8 ⟨he, ⟨ac3, hR5, hat⟩, hf5⟩; have hx5 := (hf5.cell (q := b) (o := off + j) (Nat.lt_of_lt_of_le hbr HF4.out.size) hbq).trans hx4; rw [G2.out] at he; rw [ER.out] at hR5; subst he; have HR5 := Lib.hid hR5; have HF5 := Lib.hid hf5; have HAT := Lib.hid hat; have HB5 := Lib.hid (both_2 HB4.out HC.out.drew HP.out hf5); clear hR5 hf5 hat))
            all_goals (
              have HSEP3 : Hid (Sep pf af3 ps ac3) := both_sep HB4.out HC.out.drew HP.out HAT.out
              have HD : Below wr.heap.size wr wr.drew := ⟨rfl, rfl, rfl, Nat.le_refl _, fun _ _ => rfl⟩
              have HW8 : Hid (Below w.heap.size w w8) := HW2.out.trans ((HD.mono hwr).trans (((HF4.out.below hwr (fun k hk => by omega))).trans (HF5.out.below (Nat.le_trans hwr HF4.out.size) (fun k hk => by
                rcases hk with hk | hk
                · omega
                · have := HC.out.hi k hk; omega))))
              have HB6' : Hid (Bud w8 w.heap.size pf af3 M every s') := HB5.out.mono hwr
              have HO8 : Hid (Off (fun k => k = pf ∨ k = ps ∨ ac = some ⟨k, 0, none⟩) w6 w8) := ((HO.out.trans (Off.of_below HD)).then HF4.out (fun k _ hk => .inl hk)).then HF5.out (fun k hk6 hk => by
                rcases hk with hk | hk
                · exact .inr (.inl hk)
                · exact .inr (.inr (HK.out k hk6 hk)))
              have HK8 : Hid (∀ k, k < w6.heap.size → ac3 = some ⟨k, 0, none⟩ → ac = some ⟨k, 0, none⟩) := by
                refine Lib.hid (fun k hk e => ?_)
                rcases HAT.out with h | h
                · exact HK.out k hk (h ▸ e)
                · have h1 := h k e
                  have h2 := HF4.out.size
                  have h3 : wr.drew.heap.size = wr.heap.size := rfl
                  omega
              clear HB4 HF4 HF5 HB5 HD
              go_wp2_with fail
              go_roundw
              case rel => exact ⟨j + 1, s', r', af3, ac3, by omega, by go_num, HL', HB6', HR5, HSEP3, HO8, HK8, HW8⟩
              case measure => simp [intOf]; omega)
          · obtain rfl : j = m.length := by omega
            have HBw : Hid (Bud wr w.heap.size p ab M every s) := Lib.hid (HB6.out.off HO.out (by
              rintro (e | e | e)
              · omega
              · omega
              · have := HRC.out p e; omega) (fun g hg => by
              have h1 := HRB.out g hg
              rintro (e | e | e)
              · omega
              · omega
              · have := HRC.out g e; omega))
            have HRw : Hid (RBud wr w.heap.size q ar M every r) := Lib.hid (HR6.out.off HO.out (by
              rintro (e | e | e)
              · omega
              · omega
              · have := HRC.out q e; omega) (fun g hg => by
              have h1 := HRR.out g hg
              rintro (e | e | e)
              · omega
              · omega
              · have := HRC.out g e; omega))
            have HGw : Hid (Bud wr w4.heap.size pg ag M every s) := Lib.hid (HG6.out.off HO.out (by
              rintro (e | e | e)
              · omega
              · omega
              · have := HRC.out pg e; omega) (fun g hg => by
              have h1 := HRG.out g hg
              rintro (e | e | e)
              · omega
              · omega
              · have := HRC.out g e; omega))
            obtain ⟨c3, hc3r, _⟩ := HRw.out.row
            have HCT := Lib.hid hL0.out.1.count
            have wnow := HBw.out.wnow
            have hgr : s.granted ≤ 1000000 := by have := HCT.out; omega
            have hl2' : s.times.length ≤ 1000000 := by omega
            have hold : grants M every s 0 = grants M every s s.now := grants_old wnow.1 (Int.le_refl _)
            obtain ⟨gb, hg2⟩ : ∃ gb, grants M every s s.now = gb := ⟨_, rfl⟩
            rw [hg2] at hold
            have G1 := Lib.hid hold
            have G2 := Lib.hid hg2
            have WN := Lib.hid wnow
            have hqr : q < wr.drew.heap.size := HRw.out.lt
            have hqg : ¬ (q = pg) := by omega
            have hqp : ¬ (q = p) := by omega
            have hpg2 : ¬ (p = pg) := by omega
            have hwr := HW2.out.size
            clear hold hg2 wnow HL hL0 HL2
            go_wp2_with fail
            go_region_held3 (fun w' => w'.cell? ⟨q, 3, none⟩ = some (.slice ar r.l.length c3)) (first | assumption | simp [go_sem, *]) (first
              | (go_at_call 18; refine (granted_any _ p _ _ _ _ _ HBw.out.drew).mono ?_; rintro e w7 ⟨he, rfl⟩; rw [HCT.out] at he; subst he)
              | (have hnext := HB7; go_at_call 16; refine (ask_any _ p _ _ every s.now s _ HB7.out WN.out hl2' hgr).mono ?_; rintro e w8 ⟨he, ⟨ab4, hB8⟩, hf8⟩; have hx8 := (hf8.cell (q := q) (o := 3) (Nat.lt_of_lt_of_le hqr HF7.out.size) hqp).trans hx7; rw [G2.out] at he; subst he; have HF8 := Lib.hid hf8; clear hB8 hf8)
              | (go_at_call 16; refine (ask_any _ pg _ _ every 0 s _ HGw.out.drew ⟨by decide, by decide⟩ hl2' hgr).mono ?_; rintro e w7 ⟨he, ⟨ag4, hG7⟩, hf7⟩; have hx7 := (hf7.cell (q := q) (o := 3) hqr hqg).trans hc3r; rw [G1.out] at he; subst he; have HF7 := Lib.hid hf7; have HB7 := Lib.hid (HBw.out.drew.off hf7 hpg2 (fun g hg e => by have h1 := HRB.out g hg; have e2 : g = pg := e; omega)); clear hG7 hf7))
            go_wp2_with fail
            go_ret
            have HD : Below wr.heap.size wr wr.drew := ⟨rfl, rfl, rfl, Nat.le_refl _, fun _ _ => rfl⟩
            exact ⟨ret_bool (by first | rfl | simp), HW2.out.trans ((HD.mono hwr).trans ((HF7.out.below hwr (fun k hk => by omega)).trans (HF8.out.below (Nat.le_trans hwr HF7.out.size) (fun k hk => by omega))))⟩
end Go.Proofs.Ytnaofmiefghhkaa
