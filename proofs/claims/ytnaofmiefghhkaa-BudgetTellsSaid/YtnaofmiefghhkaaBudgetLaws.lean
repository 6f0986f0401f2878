/-
  THE LAWS of chapter 15: walks of the statements.
-/
import Derived.Test.YtnaofmiefghhkaaRask
namespace Go.Proofs.Ytnaofmiefghhkaa
open Go.RowKit

section
variable {w w' : World} {base base' p : Nat} {a : Option Addr} {most : Nat} {every : Int}
theorem Bud.lt {s : Bu} (h : Bud w base p a most every s) : p < w.heap.size := World.block_lt_of_cell? _ _ h.c0
theorem RBud.lt {s : Rf} (h : RBud w base p a most every s) : p < w.heap.size := World.block_lt_of_cell? _ _ h.c0
theorem Bud.hi {s : Bu} (h : Bud w base p a most every s) : RowIn base w.heap.size a := by obtain ⟨c, _, ho⟩ := h.row; exact own_hi ho
theorem RBud.hi {s : Rf} (h : RBud w base p a most every s) : RowIn base w.heap.size a := by obtain ⟨c, _, ho⟩ := h.row; exact own_hi ho
theorem Bud.kept {s : Bu} (h : Bud w base p a most every s) (hp : w'.heap[p]? = w.heap[p]?) (ha : ∀ g, a = some ⟨g, 0, none⟩ → w'.heap[g]? = w.heap[g]?) : Bud w' base p a most every s := by
  obtain ⟨c0, c1, c2, c4, f2, f3, f4, ⟨c, c3, ho⟩, h6, h7, h8⟩ := h
  have hc : ∀ o, w'.cell? ⟨p, o, none⟩ = w.cell? ⟨p, o, none⟩ := fun o => World.cell?_of_block hp
  have hf : ∀ o, w'.frozen? ⟨p, o, none⟩ = w.frozen? ⟨p, o, none⟩ := fun o => World.frozen?_of_block hp
  exact ⟨(hc 0).trans c0, (hc 1).trans c1, (hc 2).trans c2, (hc 4).trans c4, (hf 2).trans f2, (hf 3).trans f3, (hf 4).trans f4, ⟨c, (hc 3).trans c3, own_kept ho ha⟩, h6, h7, h8⟩
theorem RBud.kept {s : Rf} (h : RBud w base p a most every s) (hp : w'.heap[p]? = w.heap[p]?) (ha : ∀ g, a = some ⟨g, 0, none⟩ → w'.heap[g]? = w.heap[g]?) : RBud w' base p a most every s := by
  obtain ⟨c0, c1, c2, f2, f3, ⟨c, c3, ho⟩, h6, h7, h8⟩ := h
  have hc : ∀ o, w'.cell? ⟨p, o, none⟩ = w.cell? ⟨p, o, none⟩ := fun o => World.cell?_of_block hp
  have hf : ∀ o, w'.frozen? ⟨p, o, none⟩ = w.frozen? ⟨p, o, none⟩ := fun o => World.frozen?_of_block hp
  exact ⟨(hc 0).trans c0, (hc 1).trans c1, (hc 2).trans c2, (hf 2).trans f2, (hf 3).trans f3, ⟨c, (hc 3).trans c3, own_kept ho ha⟩, h6, h7, h8⟩
theorem Bud.off {s : Bu} {S : Nat → Prop} (h : Bud w base p a most every s) (hf : Off S w w') (hp : ¬ S p) (ha : ∀ g, a = some ⟨g, 0, none⟩ → ¬ S g) : Bud w' base p a most every s :=
  h.kept (hf.block p h.lt hp) (fun g hg => hf.block g (h.hi g hg).2 (ha g hg))
theorem RBud.off {s : Rf} {S : Nat → Prop} (h : RBud w base p a most every s) (hf : Off S w w') (hp : ¬ S p) (ha : ∀ g, a = some ⟨g, 0, none⟩ → ¬ S g) : RBud w' base p a most every s :=
  h.kept (hf.block p h.lt hp) (fun g hg => hf.block g (h.hi g hg).2 (ha g hg))
theorem Bud.below {s : Bu} (h : Bud w base p a most every s) (hf : Below w.heap.size w w') : Bud w' base p a most every s :=
  h.off (S := fun _ => False) (Off.of_below hf) id (fun _ _ => id)
theorem RBud.below {s : Rf} (h : RBud w base p a most every s) (hf : Below w.heap.size w w') : RBud w' base p a most every s :=
  h.off (S := fun _ => False) (Off.of_below hf) id (fun _ _ => id)
theorem Bud.mono {s : Bu} (h : Bud w base p a most every s) (hb : base' ≤ base) : Bud w base' p a most every s := by
  obtain ⟨c0, c1, c2, c4, f2, f3, f4, ⟨c, c3, ho⟩, h6, h7, h8⟩ := h
  exact ⟨c0, c1, c2, c4, f2, f3, f4, ⟨c, c3, own_mono ho hb⟩, h6, h7, h8⟩
theorem RBud.mono {s : Rf} (h : RBud w base p a most every s) (hb : base' ≤ base) : RBud w base' p a most every s := by
  obtain ⟨c0, c1, c2, f2, f3, ⟨c, c3, ho⟩, h6, h7, h8⟩ := h
  exact ⟨c0, c1, c2, f2, f3, ⟨c, c3, own_mono ho hb⟩, h6, h7, h8⟩
theorem Bud.drew {s : Bu} (h : Bud w base p a most every s) : Bud w.drew base p a most every s := h.kept rfl (fun _ _ => rfl)
theorem RBud.drew {s : Rf} (h : RBud w base p a most every s) : RBud w.drew base p a most every s := h.kept rfl (fun _ _ => rfl)
end
/-- A budget and a reference's budget that share no block. -/
structure Sep (p : Nat) (a : Option Addr) (q : Nat) (b : Option Addr) : Prop where
  pq : p ≠ q
  aq : ∀ g, a = some ⟨g, 0, none⟩ → g ≠ q
  bp : ∀ g, b = some ⟨g, 0, none⟩ → g ≠ p
  ab : ∀ g, a = some ⟨g, 0, none⟩ → ¬ b = some ⟨g, 0, none⟩
section
variable {w w4 w5 : World} {B p q M : Nat} {ab ab' ar ar' : Option Addr} {every : Int}
theorem both_1 {r : Rf} (HR : RBud w B q ar M every r) (HS : Sep p ab q ar) (hf4 : Off (fun k => k = p) w w4) : RBud w4 B q ar M every r :=
  HR.off hf4 (fun e => HS.pq e.symm) (fun g hg e => HS.bp g hg e)
theorem both_2 {r : Rf} {s' : Bu} (hB4 : Bud w4 w.heap.size p ab' M every s') (HR : RBud w B q ar M every r) (HS : Sep p ab q ar) (hf5 : Off (fun k => k = q ∨ ar = some ⟨k, 0, none⟩) w4 w5) : Bud w5 w.heap.size p ab' M every s' :=
  hB4.off hf5 (fun e => e.elim HS.pq (fun e => HS.bp p e rfl)) (fun g hg e => by
    have h1 := hB4.hi g hg
    rcases e with e | e
    · have := HR.lt; omega
    · have := HR.hi g e; omega)
theorem both_sep {r : Rf} {s' : Bu} (hB4 : Bud w4 w.heap.size p ab' M every s') (HR : RBud w B q ar M every r) (HS : Sep p ab q ar) (hat : ar' = ar ∨ RowIn w4.heap.size w5.heap.size ar') : Sep p ab' q ar' := by
  have hp := hB4.lt
  have hq := HR.lt
  refine ⟨HS.pq, fun g hg => by have := hB4.hi g hg; omega, fun g hg => ?_, fun g hg hg2 => ?_⟩
  · rcases hat with h | h
    · exact HS.bp g (h ▸ hg)
    · have := h g hg; omega
  · have h1 := hB4.hi g hg
    rcases hat with h | h
    · have := HR.hi g (h ▸ hg2); omega
    · have := h g hg2; omega
end
set_option maxHeartbeats 2000000 in
theorem balive_walk (w : World) : Calls Try.prog 14 #[] w fun e w' => e = .returned (.bool true) ∧ Below w.heap.size w w' := by
  go_enter Try.func14, Try.ntmps14
  go_wp2_with fail
  refine (new_any 1 10 _ (by decide) ⟨by decide, by decide⟩).mono ?_
  rintro e w1 ⟨p, rfl, hp, hB, hb1⟩
  have hb1' := Lib.hid hb1
  have hB' := Lib.hid hB
  clear hb1 hB
  go_wp2_with fail
  refine (ask_any _ p _ _ 10 5 _ _ hB'.out ⟨by decide, by decide⟩ (by decide) (by decide)).mono ?_
  rintro e w2 ⟨rfl, ⟨a2, hB2⟩, hf2⟩
  have h2 : grants (max 0 (min 1 64) : Int).toNat 10 ⟨0, [], 0⟩ 5 = true := by decide
  have e2 : ask (max 0 (min 1 64) : Int).toNat 10 ⟨0, [], 0⟩ 5 = ⟨5, [5], 1⟩ := rfl
  rw [e2] at hB2
  rw [h2]
  have hB2' := Lib.hid hB2
  have hf2' := Lib.hid hf2
  clear hB2 hf2 h2 e2
  go_wp2_with fail
  refine (ask_any _ p _ _ 10 14 _ _ hB2'.out ⟨by decide, by decide⟩ (by decide) (by decide)).mono ?_
  rintro e w3 ⟨rfl, ⟨a3, hB3⟩, hf3⟩
  have h3 : grants (max 0 (min 1 64) : Int).toNat 10 ⟨5, [5], 1⟩ 14 = false := by decide
  have e3 : ask (max 0 (min 1 64) : Int).toNat 10 ⟨5, [5], 1⟩ 14 = ⟨14, [5], 1⟩ := rfl
  rw [e3] at hB3
  rw [h3]
  have hB3' := Lib.hid hB3
  have hf3' := Lib.hid hf3
  clear hB3 hf3 h3 e3
  go_wp2_with fail
  refine (ask_any _ p _ _ 10 15 _ _ hB3'.out ⟨by decide, by decide⟩ (by decide) (by decide)).mono ?_
  rintro e w4 ⟨rfl, ⟨a4, hB4⟩, hf4⟩
  have h4 : grants (max 0 (min 1 64) : Int).toNat 10 ⟨14, [5], 1⟩ 15 = true := by decide
  have e4 : ask (max 0 (min 1 64) : Int).toNat 10 ⟨14, [5], 1⟩ 15 = ⟨15, [15], 2⟩ := rfl
  rw [e4] at hB4
  rw [h4]
  have hB4' := Lib.hid hB4
  have hf4' := Lib.hid hf4
  clear hB4 hf4 h4 e4
  go_wp2_with fail
  refine (granted_any _ p _ _ _ _ _ hB4'.out).mono ?_
  rintro e w5 ⟨rfl, rfl⟩
  go_wp2_with fail
  go_ret
  refine ⟨rfl, ?_⟩
  have s1 := hb1'.out.size
  have s2 := hf2'.out.size
  have s3 := hf3'.out.size
  exact ((hb1'.out.trans (hf2'.out.below s1 (fun k hk => by omega))).trans (hf3'.out.below (by omega) (fun k hk => by omega))).trans (hf4'.out.below (by omega) (fun k hk => by omega))

theorem budgetTells_walk (most every : Int) (a2 : Option Addr) (len2 cap2 : Nat) (z2 : List Int) (w : World) (hm : (Lit.int .i64 most).wf = true) (he : (Lit.int .u64 every).wf = true) (hz : IsRow .u64 w a2 len2 cap2 z2) :
    Calls Try.prog 3 #[.int .i64 most, .int .u64 every, .slice a2 len2 cap2] w fun e w' => e = .returned (.bool true) ∧ Below w.heap.size w w' := by
  have hE := word_of_wf he
  go_enter Try.func3, Try.ntmps3
  go_wp2_with fail
  refine (new_any most every _ hm hE).mono ?_
  rintro e w1 ⟨p, rfl, hp, hB, hb1⟩
  have hb1' := Lib.hid hb1
  have hB' := Lib.hid hB
  clear hb1 hB
  go_wp2_with fail
  refine (balive_walk _).mono ?_
  rintro e w2 ⟨rfl, hb2⟩
  obtain ⟨hI, hlen, hc, hmx, hwf⟩ := Ints.of_row hz
  generalize z2.take len2 = l at *
  subst hlen
  have hlm : l.length ≤ 9223372036854775807 := by simp only [maxLen] at hmx; omega
  have HI := Lib.hid hI
  have HWF := Lib.hid hwf
  have hb2' := Lib.hid (hb1'.out.trans (hb2.mono hb1'.out.size))
  have HB2 := Lib.hid (hB'.out.below hb2)
  clear hI hwf hb2 hb1' hB'
  by_cases h300 : (300 : Int) < l.length
  · go_wp2_with fail
    refine (balive_walk _).mono ?_
    rintro e w3 ⟨rfl, hb3⟩
    go_wp2_with fail
    go_ret
    exact ⟨rfl, hb2'.out.trans (hb3.mono hb2'.out.size)⟩
  · go_wp2_with fail
    refine (rnew_any most every _ hm hE).mono ?_
    rintro e w3 ⟨q, rfl, hq, hR, hb3⟩
    go_wp2_with fail
    have hb0 : Below w.heap.size w w3 := hb2'.out.trans (hb3.mono hb2'.out.size)
    have HB3 := Lib.hid (HB2.out.below hb3)
    have HR3 := Lib.hid (hR.mono hb2'.out.size)
    have hpq : p ≠ q := by have := HB2.out.lt; omega
    have hq0 : w.heap.size ≤ q := Nat.le_trans hb2'.out.size hq
    have hb0' := Lib.hid hb0
    have hM : (max 0 (min most 64)).toNat ≤ 64 := by omega
    generalize (max 0 (min most 64)).toNat = M at *
    clear hb0 hb3 hR
    go_loopw [9] (fun i wr => ∃ (j : Nat) (s : Bu) (r : Rf) (ab ar : Option Addr), j ≤ l.length ∧ i = .int .i64 j ∧ Hid (Like every s r ∧ s.times.length ≤ 64 ∧ r.l.length ≤ j) ∧ Hid (Bud wr w.heap.size p ab M every s) ∧ Hid (RBud wr w.heap.size q ar M every r) ∧ Hid (Sep p ab q ar) ∧ Hid (Below w.heap.size w wr)) (fun i _ => l.length - (intOf i).toNat)
    case atStart => exact ⟨0, _, _, none, none, by omega, rfl, ⟨like_new every, by simp, by simp⟩, HB3, HR3, ⟨hpq, fun g h => (by cases h), fun g h => (by cases h), fun g h => (by cases h)⟩, hb0'⟩
    case round =>
      obtain ⟨j, s, r, ab, ar, hj, rfl, HL, HB, HR, HS, HW⟩ := hrel
      by_cases hlt : j < l.length
      · obtain ⟨b, off, rfl, hbl, hcl⟩ := HI.out.at (by omega)
        have hx0 := hcl j hlt
        have hx := (HW.out.cell (p := ⟨b, off + j, none⟩) hbl).trans hx0
        have wx : Word (l.getD j 0) := by
          have := HWF.out _ (List.getElem_mem hlt)
          rw [show l[j] = l.getD j 0 by simp [List.getD, List.getElem?_eq_getElem hlt]] at this
          exact word_of_wf this
        generalize l.getD j 0 = x at *
        obtain ⟨hl1, hl2, hl3⟩ := HL.out
        have hg1 := like_grants (most := M) hl1 x
        obtain ⟨gb, hg2⟩ : ∃ gb, rgrants M every r x = gb := ⟨_, rfl⟩
        rw [hg2] at hg1
        have hl4 := like_ask (most := M) hl1 x
        have hl5 : (ask M every s x).times.length ≤ 64 := by
          have := still_len every s x
          unfold ask
          split
          · show (still every s x).length ≤ _; omega
          · rename_i hn; show (still every s x ++ [_]).length ≤ _; simp; omega
        have hl6 : (rask M every r x).l.length ≤ j + 1 := by
          unfold rask
          split
          · show r.l.length ≤ _; omega
          · show (r.l ++ [_]).length ≤ _; simp; omega
        generalize hS' : ask M every s x = s' at *
        generalize hR' : rask M every r x = r' at *
        have hgr : s.granted ≤ 1000000 := by have := hl1.count; omega
        have G1 := Lib.hid hg1
        have G2 := Lib.hid hg2
        have ES := Lib.hid hS'
        have ER := Lib.hid hR'
        have HL' := Lib.hid hl4
        clear hg1 hg2 hS' hR' hl4 hx0 hcl hl1
        have hl2' : s.times.length ≤ 1000000 := by omega
        have hl3' : r.l.length ≤ 1000000 := by omega
        have hw0 := HW.out.size
        have hbr : b < wr.drew.heap.size := by show b < wr.heap.size; omega
        have hbp : ¬ (b = p) := by omega
        have hbq : ¬ (b = q ∨ ar = some ⟨b, 0, none⟩) := by
          rintro (e | e)
          · omega
          · have := HR.out.hi b e; omega
        have HS' : Sep p ab q ar := HS.out
        clear HS
        have HS := Lib.hid HS'
        clear HS'
        go_wp2_with fail
        go_region_held3 (fun w' => w'.cell? ⟨b, off + j, none⟩ = some (.int .u64 x)) (first | assumption | simp [go_sem, *]) (first
          | (go_at_call 16; refine (ask_any _ p _ _ every x s _ HB.out.drew wx hl2' hgr).mono ?_; rintro e w4 ⟨he, ⟨ab', hB4⟩, hf4⟩; have hx4 := (hf4.cell (q := b) (o := off + j) hbr hbp).trans hx; rw [G1.out] at he; rw [ES.out] at hB4; subst he; have HB4 := Lib.hid hB4; have HF4 := Lib.hid hf4; clear hB4 hf4)
          | (go_at_call 17; refine (rask_any _ q _ _ every x r _ (both_1 HR.out.drew HS.out HF4.out) wx hl3' (Nat.le_trans hw0 HF4.out.size)).mono ?_; rintro e w5 ⟨he, ⟨ar', hR5, hat⟩, hf5⟩; have hx5 := (hf5.cell (q := b) (o := off + j) (Nat.lt_of_lt_of_le hbr HF4.out.size) hbq).trans hx4; rw [G2.out] at he; rw [ER.out] at hR5; subst he; obtain ⟨c5, hc5, _⟩ := hR5.row; have HR5 := Lib.hid hR5; have HF5 := Lib.hid hf5; have HAT := Lib.hid hat; have HB5 := Lib.hid (both_2 HB4.out HR.out.drew HS.out hf5); clear hR5 hf5 hat)
          | (go_at_call 18; refine (granted_any _ p _ _ _ _ _ HB5.out).mono ?_; rintro e w6 ⟨he, rfl⟩; rw [HL'.out.count] at he; subst he))
        all_goals (
          have HSEP : Hid (Sep p ab' q ar') := both_sep HB4.out HR.out.drew HS.out HAT.out
          have HW5 : Hid (Below w.heap.size w w5) := HW.out.trans ((show Below w.heap.size wr wr.drew from ⟨rfl, rfl, rfl, Nat.le_refl _, fun _ _ => rfl⟩).trans (((HF4.out.below hw0 (fun k hk => by omega))).trans (HF5.out.below (Nat.le_trans hw0 HF4.out.size) (fun k hk => by
            rcases hk with hk | hk
            · omega
            · exact (HR.out.hi k hk).1))))
          have HB6 : Hid (Bud w5 w.heap.size p ab' M every s') := HB5.out.mono hw0
          clear HB4 HF4 HF5 HB5
          go_wp2_with fail
          go_roundw
          case rel => exact ⟨j + 1, s', r', ab', ar', by omega, by go_num, ⟨HL'.out, hl5, hl6⟩, HB6, HR5, HSEP, HW5⟩
          case measure => simp [intOf]; omega)
      · obtain rfl : j = l.length := by omega
        go_wp2_with fail
        go_ret
        exact ⟨rfl, HW.out⟩
end Go.Proofs.Ytnaofmiefghhkaa
