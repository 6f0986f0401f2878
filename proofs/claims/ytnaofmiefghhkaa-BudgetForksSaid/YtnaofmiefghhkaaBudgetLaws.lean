/-
  WHAT THE LAWS of chapter 15 SHARE: budgets that keep; the examples.
-/
import Derived.Test.YtnaofmiefghhkaaRask
namespace Go.Proofs.Ytnaofmiefghhkaa
open Go.RowKit

section
variable {w w' : World} {base base' p : Nat} {a : Option Addr} {most : Nat} {every : Int}
theorem Bud.lt {s : Bu} (h : Bud w base p a most every s) : p < w.heap.size := World.block_lt_of_cell? _ _ h.c0
theorem RBud.lt {s : Rf} (h : RBud w base p a most every s) : p < w.heap.size := World.block_lt_of_cell? _ _ h.c0
theorem Bud.hi {s : Bu} (h : Bud w base p a most every s) : RowIn base w.heap.size a := by obtain ⟨c, _, ho⟩ := h.row; exact own_hi ho
theorem RBud.hi {s : Rf} (h : RBud w base p a most every s) : RowIn base w.heap.size a := by obtain ⟨c, _, ho⟩ := h.row; exact own_hi ho
theorem Bud.kept {s : Bu} (h : Bud w base p a most every s) (hp : w'.heap[p]? = w.heap[p]?) (ha : ∀ g, a = some ⟨g, 0, none⟩ → w'.heap[g]? = w.heap[g]?) : Bud w' base p a most every s := by
  obtain ⟨c0, c1, c2, c4, f2, f3, f4, ⟨c, c3, ho⟩, h6, h7, h8⟩ := h
  have hc : ∀ o, w'.cell? ⟨p, o, none⟩ = w.cell? ⟨p, o, none⟩ := fun o => World.cell?_of_block hp
  have hf : ∀ o, w'.frozen? ⟨p, o, none⟩ = w.frozen? ⟨p, o, none⟩ := fun o => World.frozen?_of_block hp
  exact ⟨(hc 0).trans c0, (hc 1).trans c1, (hc 2).trans c2, (hc 4).trans c4, (hf 2).trans f2, (hf 3).trans f3, (hf 4).trans f4, ⟨c, (hc 3).trans c3, own_kept ho ha⟩, h6, h7, h8⟩
theorem RBud.kept {s : Rf} (h : RBud w base p a most every s) (hp : w'.heap[p]? = w.heap[p]?) (ha : ∀ g, a = some ⟨g, 0, none⟩ → w'.heap[g]? = w.heap[g]?) : RBud w' base p a most every s := by
  obtain ⟨c0, c1, c2, f2, f3, ⟨c, c3, ho⟩, h6, h7, h8⟩ := h
  have hc : ∀ o, w'.cell? ⟨p, o, none⟩ = w.cell? ⟨p, o, none⟩ := fun o => World.cell?_of_block hp
  have hf : ∀ o, w'.frozen? ⟨p, o, none⟩ = w.frozen? ⟨p, o, none⟩ := fun o => World.frozen?_of_block hp
  exact ⟨(hc 0).trans c0, (hc 1).trans c1, (hc 2).trans c2, (hf 2).trans f2, (hf 3).trans f3, ⟨c, (hc 3).trans c3, own_kept ho ha⟩, h6, h7, h8⟩
theorem Bud.off {s : Bu} {S : Nat → Prop} (h : Bud w base p a most every s) (hf : Off S w w') (hp : ¬ S p) (ha : ∀ g, a = some ⟨g, 0, none⟩ → ¬ S g) : Bud w' base p a most every s :=
  h.kept (hf.block p h.lt hp) (fun g hg => hf.block g (h.hi g hg).2 (ha g hg))
theorem RBud.off {s : Rf} {S : Nat → Prop} (h : RBud w base p a most every s) (hf : Off S w w') (hp : ¬ S p) (ha : ∀ g, a = some ⟨g, 0, none⟩ → ¬ S g) : RBud w' base p a most every s :=
  h.kept (hf.block p h.lt hp) (fun g hg => hf.block g (h.hi g hg).2 (ha g hg))
theorem Bud.below {s : Bu} (h : Bud w base p a most every s) (hf : Below w.heap.size w w') : Bud w' base p a most every s :=
  h.off (S := fun _ => False) (Off.of_below hf) id (fun _ _ => id)
theorem RBud.below {s : Rf} (h : RBud w base p a most every s) (hf : Below w.heap.size w w') : RBud w' base p a most every s :=
  h.off (S := fun _ => False) (Off.of_below hf) id (fun _ _ => id)
theorem Bud.mono {s : Bu} (h : Bud w base p a most every s) (hb : base' ≤ base) : Bud w base' p a most every s := by
  obtain ⟨c0, c1, c2, c4, f2, f3, f4, ⟨c, c3, ho⟩, h6, h7, h8⟩ := h
  exact ⟨c0, c1, c2, c4, f2, f3, f4, ⟨c, c3, own_mono ho hb⟩, h6, h7, h8⟩
theorem RBud.mono {s : Rf} (h : RBud w base p a most every s) (hb : base' ≤ base) : RBud w base' p a most every s := by
  obtain ⟨c0, c1, c2, f2, f3, ⟨c, c3, ho⟩, h6, h7, h8⟩ := h
  exact ⟨c0, c1, c2, f2, f3, ⟨c, c3, own_mono ho hb⟩, h6, h7, h8⟩
theorem Bud.drew {s : Bu} (h : Bud w base p a most every s) : Bud w.drew base p a most every s := h.kept rfl (fun _ _ => rfl)
theorem RBud.drew {s : Rf} (h : RBud w base p a most every s) : RBud w.drew base p a most every s := h.kept rfl (fun _ _ => rfl)
end
/-- A budget and a reference's budget that share no block. -/
structure Sep (p : Nat) (a : Option Addr) (q : Nat) (b : Option Addr) : Prop where
  pq : p ≠ q
  aq : ∀ g, a = some ⟨g, 0, none⟩ → g ≠ q
  bp : ∀ g, b = some ⟨g, 0, none⟩ → g ≠ p
  ab : ∀ g, a = some ⟨g, 0, none⟩ → ¬ b = some ⟨g, 0, none⟩
section
variable {w w4 w5 : World} {B p q M : Nat} {ab ab' ar ar' : Option Addr} {every : Int}
theorem both_1 {r : Rf} (HR : RBud w B q ar M every r) (HS : Sep p ab q ar) (hf4 : Off (fun k => k = p) w w4) : RBud w4 B q ar M every r :=
  HR.off hf4 (fun e => HS.pq e.symm) (fun g hg e => HS.bp g hg e)
theorem both_2 {r : Rf} {s' : Bu} (hB4 : Bud w4 w.heap.size p ab' M every s') (HR : RBud w B q ar M every r) (HS : Sep p ab q ar) (hf5 : Off (fun k => k = q ∨ ar = some ⟨k, 0, none⟩) w4 w5) : Bud w5 w.heap.size p ab' M every s' :=
  hB4.off hf5 (fun e => e.elim HS.pq (fun e => HS.bp p e rfl)) (fun g hg e => by
    have h1 := hB4.hi g hg
    rcases e with e | e
    · have := HR.lt; omega
    · have := HR.hi g e; omega)
theorem both_sep {r : Rf} {s' : Bu} (hB4 : Bud w4 w.heap.size p ab' M every s') (HR : RBud w B q ar M every r) (HS : Sep p ab q ar) (hat : ar' = ar ∨ RowIn w4.heap.size w5.heap.size ar') : Sep p ab' q ar' := by
  have hp := hB4.lt
  have hq := HR.lt
  refine ⟨HS.pq, fun g hg => by have := hB4.hi g hg; omega, fun g hg => ?_, fun g hg hg2 => ?_⟩
  · rcases hat with h | h
    · exact HS.bp g (h ▸ hg)
    · have := h g hg; omega
  · have h1 := hB4.hi g hg
    rcases hat with h | h
    · have := HR.hi g (h ▸ hg2); omega
    · have := h g hg2; omega
end
set_option maxHeartbeats 2000000 in
theorem balive_walk (w : World) : Calls Try.prog 14 #[] w fun e w' => e = .returned (.bool true) ∧ Below w.heap.size w w' := by
  go_enter Try.func14, Try.ntmps14
  go_wp2_with fail
  refine (new_any 1 10 _ (by decide) ⟨by decide, by decide⟩).mono ?_
  rintro e w1 ⟨p, rfl, hp, hB, hb1⟩
  have hb1' := Lib.hid hb1
  have hB' := Lib.hid hB
  clear hb1 hB
  go_wp2_with fail
  refine (ask_any _ p _ _ 10 5 _ _ hB'.out ⟨by decide, by decide⟩ (by decide) (by decide)).mono ?_
  rintro e w2 ⟨rfl, ⟨a2, hB2⟩, hf2⟩
  have h2 : grants (max 0 (min 1 64) : Int).toNat 10 ⟨0, [], 0⟩ 5 = true := by decide
  have e2 : ask (max 0 (min 1 64) : Int).toNat 10 ⟨0, [], 0⟩ 5 = ⟨5, [5], 1⟩ := rfl
  rw [e2] at hB2
  rw [h2]
  have hB2' := Lib.hid hB2
  have hf2' := Lib.hid hf2
  clear hB2 hf2 h2 e2
  go_wp2_with fail
  refine (ask_any _ p _ _ 10 14 _ _ hB2'.out ⟨by decide, by decide⟩ (by decide) (by decide)).mono ?_
  rintro e w3 ⟨rfl, ⟨a3, hB3⟩, hf3⟩
  have h3 : grants (max 0 (min 1 64) : Int).toNat 10 ⟨5, [5], 1⟩ 14 = false := by decide
  have e3 : ask (max 0 (min 1 64) : Int).toNat 10 ⟨5, [5], 1⟩ 14 = ⟨14, [5], 1⟩ := rfl
  rw [e3] at hB3
  rw [h3]
  have hB3' := Lib.hid hB3
  have hf3' := Lib.hid hf3
  clear hB3 hf3 h3 e3
  go_wp2_with fail
  refine (ask_any _ p _ _ 10 15 _ _ hB3'.out ⟨by decide, by decide⟩ (by decide) (by decide)).mono ?_
  rintro e w4 ⟨rfl, ⟨a4, hB4⟩, hf4⟩
  have h4 : grants (max 0 (min 1 64) : Int).toNat 10 ⟨14, [5], 1⟩ 15 = true := by decide
  have e4 : ask (max 0 (min 1 64) : Int).toNat 10 ⟨14, [5], 1⟩ 15 = ⟨15, [15], 2⟩ := rfl
  rw [e4] at hB4
  rw [h4]
  have hB4' := Lib.hid hB4
  have hf4' := Lib.hid hf4
  clear hB4 hf4 h4 e4
  go_wp2_with fail
  refine (granted_any _ p _ _ _ _ _ hB4'.out).mono ?_
  rintro e w5 ⟨rfl, rfl⟩
  go_wp2_with fail
  go_ret
  refine ⟨rfl, ?_⟩
  have s1 := hb1'.out.size
  have s2 := hf2'.out.size
  have s3 := hf3'.out.size
  exact ((hb1'.out.trans (hf2'.out.below s1 (fun k hk => by omega))).trans (hf3'.out.below (by omega) (fun k hk => by omega))).trans (hf4'.out.below (by omega) (fun k hk => by omega))
end Go.Proofs.Ytnaofmiefghhkaa
