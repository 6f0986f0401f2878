/-
  THE WALKS of package budget (chapter 15) and of the reference's budget.
-/
import Derived.Test.YtnaofmiefghhkaaAppend2
import Derived.Test.YtnaofmiefghhkaaBudgetPlain
import Derived.Test.YtnaofmiefghhkaaClockWalks
import Derived.Deep.QuietTactic
import Derived.BigQuiet
import Derived.Deep.RegionHeld3
import Derived.Deep.AppendLies
import Derived.Deep.RegionLaw
namespace Go.Proofs.Ytnaofmiefghhkaa
open Go.RowKit

/-- Of what was there, the blocks of S alone may have turned. -/
structure Off (S : Nat → Prop) (w w' : World) : Prop where
  os : w'.os = w.os
  tape : w'.tape = w.tape
  output : w'.output = w.output
  size : w.heap.size ≤ w'.heap.size
  block : ∀ k, k < w.heap.size → ¬ S k → w'.heap[k]? = w.heap[k]?
section
variable {p B : Nat} {S T : Nat → Prop} {w w' w'' : World}
theorem Off.of_below (h : Below w.heap.size w w') : Off S w w' := ⟨h.os, h.tape, h.output, h.size, fun k hk _ => h.block k hk⟩
theorem Off.refl (S : Nat → Prop) (w : World) : Off S w w := Off.of_below (Below.refl _ _)
theorem Off.trans (h : Off S w w') (h' : Off S w' w'') : Off S w w'' :=
  ⟨h'.os.trans h.os, h'.tape.trans h.tape, h'.output.trans h.output, Nat.le_trans h.size h'.size, fun k hk hp => (h'.block k (by have := h.size; omega) hp).trans (h.block k hk hp)⟩
theorem Off.mono (h : Off S w w') (hS : ∀ k, k < w.heap.size → S k → T k) : Off T w w' :=
  ⟨h.os, h.tape, h.output, h.size, fun k hk hp => h.block k hk (fun e => hp (hS k hk e))⟩
theorem Off.setCell (h : Off S w w') (hS : S p) (o : Nat) (u : Value) : Off S w (w'.setCell ⟨p, o, none⟩ u) :=
  ⟨h.os, h.tape, h.output, by simp [World.setCell]; exact h.size, fun k hk hp => (Below.heap_setCell _ _ _ _ (fun e => hp (by have e2 : k = p := e; rw [e2]; exact hS))).trans (h.block k hk hp)⟩
theorem Off.alloc (h : Off S w w') (o : Obj) : Off S w (w'.alloc o) :=
  h.trans (Off.of_below ((Below.refl _ _).alloc (Nat.le_refl _) o))
theorem Off.drew (h : Off S w w') (n : Nat) : Off S w (w'.drewN n) := ⟨h.os, h.tape, h.output, h.size, h.block⟩
theorem Off.grown (h : Off S w w') {row : Option Nat} (hg : w'.grownBy w'' row) (hr : ∀ k, row = some k → k < w.heap.size → S k) : Off S w w'' :=
  ⟨hg.os.trans h.os, hg.tape.trans h.tape, hg.output.trans h.output, Nat.le_trans h.size hg.size, fun k hk hp => (hg.block k (by have := h.size; omega) (fun e => hp (hr k e.symm hk))).trans (h.block k hk hp)⟩
/-- What came after another: what the second turned of what was there when the first began. -/
theorem Off.then (h : Off S w w') (h' : Off T w' w'') (hT : ∀ k, k < w.heap.size → T k → S k) : Off S w w'' :=
  ⟨h'.os.trans h.os, h'.tape.trans h.tape, h'.output.trans h.output, Nat.le_trans h.size h'.size, fun k hk hp => (h'.block k (by have := h.size; omega) (fun e => hp (hT k hk e))).trans (h.block k hk hp)⟩
/-- After a store into a block of S: what came after it turned nothing that was there. -/
theorem Off.of_set (hS : S p) (o : Nat) (u : Value) (h : Below w.heap.size (w.setCell ⟨p, o, none⟩ u) w') : Off S w w' :=
  (Off.setCell (Off.refl _ _) hS o u).trans ⟨h.os, h.tape, h.output, h.size, fun k hk _ => h.block k (by simpa [World.setCell] using hk)⟩
theorem Off.below (h : Off S w w') (hB : B ≤ w.heap.size) (hp : ∀ k, S k → B ≤ k) : Below B w w' :=
  ⟨h.os, h.tape, h.output, h.size, fun k hk => h.block k (by omega) (fun e => by have := hp k e; omega)⟩
theorem Off.cell (h : Off S w w') {q o : Nat} (hq : q < w.heap.size) (hS : ¬ S q) : w'.cell? ⟨q, o, none⟩ = w.cell? ⟨q, o, none⟩ := World.cell?_of_block (h.block q hq hS)
theorem Off.frozen (h : Off S w w') {q o : Nat} (hq : q < w.heap.size) (hS : ¬ S q) : w'.frozen? ⟨q, o, none⟩ = w.frozen? ⟨q, o, none⟩ := World.frozen?_of_block (h.block q hq hS)
/-- A row that the call owns is as it was, where its block is. -/
theorem own_kept {b : Nat} {e : TypeId} {size n c : Nat} {a : Option Addr} {xs : List Value} (h : w.ownsRow b e size (.slice a n c) n xs) (hk : ∀ g, a = some ⟨g, 0, none⟩ → w'.heap[g]? = w.heap[g]?) : w'.ownsRow b e size (.slice a n c) n xs := by
  obtain ⟨h1, h2⟩ := h
  refine ⟨h1, ?_⟩
  rcases h2 with ⟨hv, h0⟩ | ⟨g, cap, cur, hv, hg, hh, r⟩
  · exact .inl ⟨hv, h0⟩
  · refine .inr ⟨g, cap, cur, hv, hg, ?_, r⟩
    injection hv with e1
    rw [hk g e1]; exact hh
end
/-- Where a row lies: nowhere, or in a block from lo on and below hi. -/
def RowIn (lo hi : Nat) (a : Option Addr) : Prop := ∀ g, a = some ⟨g, 0, none⟩ → lo ≤ g ∧ g < hi
theorem RowIn.mono {lo hi lo' hi' : Nat} {a : Option Addr} (h : RowIn lo hi a) (h1 : lo' ≤ lo) (h2 : hi ≤ hi') : RowIn lo' hi' a := fun g hg => by obtain ⟨_, _⟩ := h g hg; omega

/-- A budget at block p: its row of times at a, of the call's own (from 'base' on). -/
structure Bud (w : World) (base p : Nat) (a : Option Addr) (most : Nat) (every : Int) (s : Bu) : Prop where
  c0 : w.cell? ⟨p, 0, none⟩ = some (.int .i64 most)
  c1 : w.cell? ⟨p, 1, none⟩ = some (.int .u64 every)
  c2 : w.cell? ⟨p, 2, none⟩ = some (.int .u64 s.now)
  c4 : w.cell? ⟨p, 4, none⟩ = some (.int .i64 s.granted)
  f2 : w.frozen? ⟨p, 2, none⟩ = false
  f3 : w.frozen? ⟨p, 3, none⟩ = false
  f4 : w.frozen? ⟨p, 4, none⟩ = false
  row : ∃ c, w.cell? ⟨p, 3, none⟩ = some (.slice a s.times.length c) ∧ w.ownsRow base 22 1 (.slice a s.times.length c) s.times.length (s.times.map (Value.int .u64))
  away : ∀ g, a = some ⟨g, 0, none⟩ → g ≠ p
  wnow : Word s.now
  words : ∀ x ∈ s.times, Word x

theorem own_mono {w : World} {b b' : Nat} {e : TypeId} {size n : Nat} {v : Value} {xs : List Value} (h : w.ownsRow b e size v n xs) (hb : b' ≤ b) : w.ownsRow b' e size v n xs := by
  obtain ⟨h1, h2⟩ := h
  refine ⟨h1, ?_⟩
  rcases h2 with h2 | ⟨g, cap, cur, hv, hg, r⟩
  · exact .inl h2
  · exact .inr ⟨g, cap, cur, hv, by omega, r⟩
theorem own_ne {w : World} {b p : Nat} {e : TypeId} {size n m c : Nat} {a : Option Addr} {xs : List Value} (h : w.ownsRow b e size (.slice a m c) n xs) (hp : p < b) : ∀ g, a = some ⟨g, 0, none⟩ → g ≠ p := by
  intro g hg
  rcases h.2 with ⟨e, _⟩ | ⟨g', cap, cur, e, hg', _⟩
  · injection e with e1; subst hg; cases e1
  · injection e with e1; subst hg; injection e1 with e1; injection e1 with e1; omega
theorem own_base {w : World} {b : Nat} {e : TypeId} {size n : Nat} {v : Value} {xs : List Value} (h : w.ownsRow b e size v n xs) : ∀ k, v.ownBlock = some k → b ≤ k := by
  intro k hk
  rcases h.2 with ⟨rfl, _⟩ | ⟨g', cap, cur, rfl, hg', _⟩
  · simp [Value.ownBlock] at hk
  · simp [Value.ownBlock] at hk; omega
/-- Behind an append to a row of the call's own: an elder block is as it was. -/
theorem far {w w' : World} {b p o : Nat} {e : TypeId} {size n : Nat} {v : Value} {xs : List Value} (h : w.ownsRow b e size v n xs) (hg : w.grownBy w' v.ownBlock) (hp : p < b) (hb : b ≤ w.heap.size) : w'.cell? ⟨p, o, none⟩ = w.cell? ⟨p, o, none⟩ ∧ w'.frozen? ⟨p, o, none⟩ = w.frozen? ⟨p, o, none⟩ :=
  have hne : some p ≠ v.ownBlock := fun e => by have := own_base h p e.symm; omega
  ⟨hg.cell_far _ (by show p < _; omega) hne, hg.frozen_far _ (by show p < _; omega) hne⟩
theorem own_hi {w : World} {b : Nat} {e : TypeId} {n c : Nat} {a : Option Addr} {xs : List Value} (h : w.ownsRow b e 1 (.slice a n c) n xs) : RowIn b w.heap.size a := by
  intro g hg
  rcases h.2 with ⟨e, _⟩ | ⟨g', cap, cur, e, hg', hh, _⟩
  · injection e with e1; subst hg; cases e1
  · injection e with e1; subst hg; injection e1 with e1; injection e1 with e1; subst e1
    refine ⟨hg', ?_⟩
    rcases Nat.lt_or_ge g w.heap.size with hlt | hge
    · exact hlt
    · rw [Array.getElem?_eq_none hge] at hh; cases hh
def part (every M : Int) (l : List Int) (j : Nat) : List Int := (l.take j).filter (alive every M)
theorem part_len (every M : Int) (l : List Int) (j : Nat) : (part every M l j).length ≤ j := by
  unfold part
  have h1 := List.length_filter_le (alive every M) (l.take j)
  have h2 := List.length_take_le j l
  omega
theorem part_yes {every M : Int} {l : List Int} {j : Nat} (h : j < l.length) (hx : alive every M (l.getD j 0) = true) : part every M l (j + 1) = part every M l j ++ [l.getD j 0] := by
  unfold part; rw [take_snoc h, List.filter_append]; generalize l.getD j 0 = x at *; simp [hx]
theorem part_no {every M : Int} {l : List Int} {j : Nat} (h : j < l.length) (hx : alive every M (l.getD j 0) = false) : part every M l (j + 1) = part every M l j := by
  unfold part; rw [take_snoc h, List.filter_append]; generalize l.getD j 0 = x at *; simp [hx]
theorem part_all (every M : Int) (l : List Int) : part every M l l.length = l.filter (alive every M) := by unfold part; rw [List.take_of_length_le (Nat.le_refl _)]

theorem word_info : (Try.prog.info? 22).map (fun i => (i.zero, i.size, i.bytes)) = some (some (.int .u64 0), 1, 8) := by kernel_rfl

set_option maxHeartbeats 2000000 in
theorem ask_any (base p : Nat) (a : Option Addr) (most : Nat) (every t : Int) (s : Bu) (w : World) (h : Bud w base p a most every s) (ht : Word t) (hlen : s.times.length ≤ 1000000) (hgr : s.granted ≤ 1000000) :
    Calls Try.prog 16 #[.pointer (some ⟨p, 0, none⟩), .int .u64 t] w fun e w' => e = .returned (.bool (grants most every s t)) ∧ (∃ a', Bud w' w.heap.size p a' most every (ask most every s t)) ∧ Off (fun k => k = p) w w' := by
  have hp : p < w.heap.size := World.block_lt_of_cell? _ _ h.c0
  obtain ⟨c0, c1, c2, c4, f2, f3, f4, ⟨c, c3, hown⟩, hne, wnow, words⟩ := h
  have hn : Word (max s.now t) := by obtain ⟨_, _⟩ := wnow; obtain ⟨_, _⟩ := ht; exact ⟨by omega, by omega⟩
  obtain ⟨a', c', hv, hI, hg0⟩ := Ints.of_own hown
  injection hv with hv1 hv2 hv3
  subst hv1
  subst hv3
  clear hv2
  have HOWN := Lib.hid hown
  have HNE := Lib.hid hne
  have HI := Lib.hid hI
  have WD := Lib.hid words
  have HG := Lib.hid hg0
  clear hown hne hI words hg0
  go_enter Try.func16, Try.ntmps16
  go_wp2_with fail
  go_loopw [5, 24] (fun v i wr => ∃ (j : Nat) (a5 : Option Addr) (c5 : Nat), j ≤ s.times.length ∧ i = .int .i64 j ∧ v = .slice a5 (part every (max s.now t) s.times j).length c5 ∧
      Hid (wr.ownsRow w.heap.size 22 1 (.slice a5 (part every (max s.now t) s.times j).length c5) (part every (max s.now t) s.times j).length ((part every (max s.now t) s.times j).map (Value.int .u64))) ∧
      Hid (Below w.heap.size (w.setCell ⟨p, 2, none⟩ (.int .u64 (max s.now t))) wr)) (fun _ i _ => s.times.length - (intOf i).toNat)
  case atStart => exact ⟨0, none, 0, by omega, rfl, by simp [part], ⟨by simp [part], .inl ⟨by simp [part], by simp [part]⟩⟩, Below.refl _ _⟩
  case round =>
    obtain ⟨j, a5, c5, hj, rfl, rfl, hown, hb⟩ := hrel
    have hpl := part_len every (max s.now t) s.times j
    have k1 := (hb.out.cell (p := ⟨p, 1, none⟩) hp).trans (World.cell?_setCell_other _ _ _ _ (by simp))
    have k2 : wr.cell? ⟨p, 2, none⟩ = some (.int .u64 (max s.now t)) := (hb.out.cell (p := ⟨p, 2, none⟩) hp).trans (by simp [go_sem, c2])
    rw [c1] at k1
    by_cases hlt : j < s.times.length
    · obtain ⟨g, rfl, hbg⟩ := HG.out (by intro hh; rw [hh] at hlt; simp at hlt)
      obtain ⟨b, off, hbo, hbl, hc⟩ := HI.out.at (by omega)
      injection hbo with hbo
      injection hbo with hb1 hb2
      subst hb1 hb2
      have hgp := HNE.out g rfl
      have hx0 := hc j hlt
      rw [Nat.zero_add] at hx0
      have hx := (hb.out.cell (p := ⟨g, j, none⟩) hbl).trans ((World.cell?_setCell_other _ _ _ _ (fun e => by injection e; omega)).trans hx0)
      have wx := WD.out _ (List.getElem_mem hlt)
      have ex : s.times[j] = s.times.getD j 0 := by simp [List.getD, List.getElem?_eq_getElem hlt]
      rw [ex] at wx
      have py := part_yes (every := every) (M := max s.now t) hlt
      have pn := part_no (every := every) (M := max s.now t) hlt
      have HO := hown
      generalize s.times.getD j 0 = x at *
      generalize part every (max s.now t) s.times j = L at *
      generalize max s.now t = M at *
      have PY := Lib.hid py
      have PN := Lib.hid pn
      clear py pn hx0 hc ex
      by_cases hal : alive every M x = true
      · have hdec : decide (subI M x < every) = true := hal
        have E := Lib.hid (PY.out hal)
        clear hal PY PN
        go_wp2_with fail
        go_quiet ((go_at_call 24; exact Calls.quiet_of_same ((since_any M x hn wx _).mono fun e w' h => ⟨h.1, h.2.symm⟩)))
        obtain ⟨i0, hi0, hz0, hz1, hz2⟩ := info_parts word_info
        have own1 : ((wr.drewN nq).alloc (.cells #[.int .u64 x] 22)).ownsRow w.heap.size 22 1 (.slice a5 L.length c5) L.length (L.map (Value.int .u64)) := (show (wr.drewN nq).ownsRow w.heap.size 22 1 (.slice a5 L.length c5) L.length (L.map (Value.int .u64)) from hown.out).alloc _
        have hws := hb.out.size
        simp [World.setCell] at hws
        obtain ⟨v', w5, hrun, hown2, hgr, hat⟩ := run_append_ints (P := Try.prog) (k := .u64) (ty := 23) w.heap.size 23 22 i0 8 Try.underlying23 hi0 hz0 hz1 hz2 (.slice a5 L.length c5) L own1 (wr.heap.size + 1) (some ⟨wr.heap.size, 0, none⟩) 1 [x]
          (.inr ⟨wr.heap.size, 0, rfl, by omega, fun t ht => by simp at ht; subst ht; exact World.cell?_alloc_at _ _ _ _ rfl⟩) (by simp only [maxLen, List.length_singleton]; omega) (by simp only [List.length_singleton]; omega) (Nat.le_trans hws (by show wr.heap.size ≤ (wr.heap.push _).size; simp))
        obtain ⟨a2, c2', hv2, _, _⟩ := Ints.of_own hown2
        subst hv2
        have hbel : Below w.heap.size ((wr.drewN nq).alloc (.cells #[.int .u64 x] 22)) w5 := (Below.refl _ _).grown hgr (Nat.le_trans hws (by show wr.heap.size ≤ (wr.heap.push _).size; simp)) (fun g hg => by
          rcases hown.out.2 with ⟨e, _⟩ | ⟨g', cap', cur, e, hg', _⟩
          · injection e with e1; subst e1; simp [Value.ownBlock] at hg
          · injection e with e1; subst e1; simp [Value.ownBlock] at hg; omega)
        have HR := Lib.hid hrun
        have OWN := Lib.hid hown2
        have BEL := Lib.hid hbel
        clear own1 hrun hown2 hgr hat hbel hi0 hz0 hz1 hz2 HO
        go_wp2_with (at_builtin; refine wpList_append_run rfl _ _ _ rfl rfl rfl HR.out ?_)
        go_roundw
        case rel => exact ⟨j + 1, a2, c2', by omega, by go_num, by rw [E.out]; simp, by rw [E.out]; exact OWN, ((below_drewN hb.out nq).alloc hws _).trans BEL.out⟩
        case measure => simp [intOf]; omega
      · have hal := Bool.eq_false_iff.2 hal
        have hdec : decide (subI M x < every) = false := hal
        have E := Lib.hid (PN.out hal)
        clear hal PY PN
        go_wp2_with fail
        go_quiet ((go_at_call 24; exact Calls.quiet_of_same ((since_any M x hn wx _).mono fun e w' h => ⟨h.1, h.2.symm⟩)))
        go_wp2_with fail
        go_roundw
        case rel => exact ⟨j + 1, a5, c5, by omega, by go_num, by rw [E.out], by rw [E.out]; exact hown, below_drewN hb.out nq⟩
        case measure => simp [intOf]; omega
    · obtain rfl : j = s.times.length := by omega
      have ep := part_all every (max s.now t) s.times
      have k0 := (hb.out.cell (p := ⟨p, 0, none⟩) hp).trans ((World.cell?_setCell_other _ _ _ _ (by simp)).trans c0)
      have k3 := (hb.out.cell (p := ⟨p, 3, none⟩) hp).trans ((World.cell?_setCell_other _ _ _ _ (by simp)).trans c3)
      have k4 := (hb.out.cell (p := ⟨p, 4, none⟩) hp).trans ((World.cell?_setCell_other _ _ _ _ (by simp)).trans c4)
      have g2 := (hb.out.frozen (p := ⟨p, 2, none⟩) hp).trans ((World.frozen?_setCell _ _ _ _).trans f2)
      have g3 := (hb.out.frozen (p := ⟨p, 3, none⟩) hp).trans ((World.frozen?_setCell _ _ _ _).trans f3)
      have g4 := (hb.out.frozen (p := ⟨p, 4, none⟩) hp).trans ((World.frozen?_setCell _ _ _ _).trans f4)
      rw [ep] at hown hpl ⊢
      have hst : (s.times.filter (alive every (max s.now t))) = still every s t := rfl
      rw [hst] at hown hpl ⊢
      have hgrants : grants most every s t = !decide (most ≤ (still every s t).length) := rfl
      have hask : ask most every s t = if most ≤ (still every s t).length then ⟨max s.now t, still every s t, s.granted⟩ else ⟨max s.now t, still every s t ++ [max s.now t], s.granted + 1⟩ := rfl
      have GR := Lib.hid hgrants
      have AS := Lib.hid hask
      clear ep hst hgrants hask
      generalize max s.now t = M at *
      have hLM : ∀ x ∈ still every s t, x ∈ s.times := fun x hx => (List.mem_filter.1 hx).1
      generalize still every s t = L at *
      have LM := Lib.hid hLM
      clear hLM
      by_cases hfull : most ≤ L.length
      · have hdec : decide ((most : Int) ≤ (L.length : Int)) = true := by simp; omega
        go_wp2_with fail
        go_quiet (fail)
        go_wp2_with fail
        go_ret
        refine ⟨ret_bool (by rw [GR.out]; simp [hfull]), ?_, ?_⟩
        · rw [AS.out, if_pos hfull]
          have own2 := ownsRow_setCell_below hown.out (a := ⟨p, 3, none⟩) hp (.slice a5 L.length c5)
          exact ⟨a5, by simp [go_sem, k0], by simp [go_sem, k1], by simp [go_sem, k2], by simp [go_sem, k4], by simp [go_sem, g2], by simp [go_sem, g3], by simp [go_sem, g4], ⟨c5, by simp [go_sem, k3], own2⟩, own_ne hown.out hp, hn, fun x hx => WD.out x (LM.out x hx)⟩
        · exact ((Off.of_set (S := fun k => k = p) rfl 2 _ hb.out).drew nq).setCell rfl 3 _
      · have hdec : decide ((most : Int) ≤ (L.length : Int)) = false := by simp; omega
        go_wp2_with fail
        go_quiet (fail)
        go_wp2_with fail
        have hws := hb.out.size
        simp [World.setCell] at hws
        have hnp := own_ne hown.out hp
        have own2 : ((wr.setCell ⟨p, 3, none⟩ (.slice a5 L.length c5)).drewN nq).ownsRow w.heap.size 22 1 (.slice a5 L.length c5) L.length (L.map (Value.int .u64)) := ownsRow_setCell_below hown.out (a := ⟨p, 3, none⟩) hp (.slice a5 L.length c5)
        have hbw : Below (w.heap.size) (w.setCell ⟨p, 2, none⟩ (.int .u64 M)) wr := hb.out
        have NR : Off (fun k => k = p) w ((wr.setCell ⟨p, 3, none⟩ (.slice a5 L.length c5)).drewN nq) := ((Off.of_set (S := fun k => k = p) rfl 2 _ hb.out).setCell rfl 3 _).drew nq
        have q0 : ((wr.setCell ⟨p, 3, none⟩ (.slice a5 L.length c5)).drewN nq).cell? ⟨p, 0, none⟩ = some (.int .i64 most) := by simp [go_sem, k0]
        have q1 : ((wr.setCell ⟨p, 3, none⟩ (.slice a5 L.length c5)).drewN nq).cell? ⟨p, 1, none⟩ = some (.int .u64 every) := by simp [go_sem, k1]
        have q2 : ((wr.setCell ⟨p, 3, none⟩ (.slice a5 L.length c5)).drewN nq).cell? ⟨p, 2, none⟩ = some (.int .u64 M) := by simp [go_sem, k2]
        have q3 : ((wr.setCell ⟨p, 3, none⟩ (.slice a5 L.length c5)).drewN nq).cell? ⟨p, 3, none⟩ = some (.slice a5 L.length c5) := by simp [go_sem, k3]
        have q4 : ((wr.setCell ⟨p, 3, none⟩ (.slice a5 L.length c5)).drewN nq).cell? ⟨p, 4, none⟩ = some (.int .i64 s.granted) := by simp [go_sem, k4]
        have r2 : ((wr.setCell ⟨p, 3, none⟩ (.slice a5 L.length c5)).drewN nq).frozen? ⟨p, 2, none⟩ = false := by simp [go_sem, g2]
        have r3 : ((wr.setCell ⟨p, 3, none⟩ (.slice a5 L.length c5)).drewN nq).frozen? ⟨p, 3, none⟩ = false := by simp [go_sem, g3]
        have r4 : ((wr.setCell ⟨p, 3, none⟩ (.slice a5 L.length c5)).drewN nq).frozen? ⟨p, 4, none⟩ = false := by simp [go_sem, g4]
        have hsz : w.heap.size ≤ ((wr.setCell ⟨p, 3, none⟩ (.slice a5 L.length c5)).drewN nq).heap.size := by simp [World.setCell]; exact hws
        generalize hW2 : (wr.setCell ⟨p, 3, none⟩ (.slice a5 L.length c5)).drewN nq = W2 at *
        clear hW2 k0 k1 k2 k3 k4 g2 g3 g4 hown hb hbw hws
        have hp2 : p < W2.heap.size := by omega
        obtain ⟨i0, hi0, hz0, hz1, hz2⟩ := info_parts word_info
        have own1 : (W2.drew.alloc (.cells #[.int .u64 M] 22)).ownsRow w.heap.size 22 1 (.slice a5 L.length c5) L.length (L.map (Value.int .u64)) := (show W2.drew.ownsRow w.heap.size 22 1 (.slice a5 L.length c5) L.length (L.map (Value.int .u64)) from own2).alloc _
        have hx1 : Ints .u64 (W2.drew.alloc (.cells #[.int .u64 M] 22)) (W2.heap.size + 1) (some ⟨W2.heap.size, 0, none⟩) [M] := .inr ⟨W2.heap.size, 0, rfl, by omega, fun t ht => by simp at ht; subst ht; exact World.cell?_alloc_at _ _ _ _ rfl⟩
        have hb1 : w.heap.size ≤ (W2.drew.alloc (.cells #[.int .u64 M] 22)).heap.size := Nat.le_trans hsz (by show W2.heap.size ≤ (W2.heap.push _).size; simp)
        have hl1 : L.length + [M].length ≤ maxLen := by simp only [maxLen, List.length_singleton]; omega
        have hl2 : (L.length + [M].length) * 8 ≤ 140737488355328 := by simp only [List.length_singleton]; omega
        have hbW : Below W2.heap.size W2 (W2.drew.alloc (.cells #[.int .u64 M] 22)) := (show Below W2.heap.size W2 W2.drew from ⟨rfl, rfl, rfl, Nat.le_refl _, fun _ _ => rfl⟩).alloc (Nat.le_refl _) _
        have NR1 : Off (fun k => k = p) w (W2.drew.alloc (.cells #[.int .u64 M] 22)) := (NR.drew 1).alloc _
        have key : ∀ v5 w5, w5.ownsRow w.heap.size 22 1 v5 (L ++ [M]).length ((L ++ [M]).map (Value.int .u64)) → (W2.drew.alloc (.cells #[.int .u64 M] 22)).grownBy w5 (Value.slice a5 L.length c5).ownBlock → ∃ a6 c6, v5 = .slice a6 (L ++ [M]).length c6 ∧
            w5.cell? ⟨p, 0, none⟩ = some (.int .i64 most) ∧ w5.cell? ⟨p, 1, none⟩ = some (.int .u64 every) ∧ w5.cell? ⟨p, 2, none⟩ = some (.int .u64 M) ∧ w5.cell? ⟨p, 3, none⟩ = some (.slice a5 L.length c5) ∧ w5.cell? ⟨p, 4, none⟩ = some (.int .i64 s.granted) ∧
            w5.frozen? ⟨p, 2, none⟩ = false ∧ w5.frozen? ⟨p, 3, none⟩ = false ∧ w5.frozen? ⟨p, 4, none⟩ = false ∧ Off (fun k => k = p) w w5 := by
          intro v5 w5 h1 h2
          obtain ⟨a6, c6, rfl, _, _⟩ := Ints.of_own h1
          have hb' := fun o => far (o := o) own1 h2 hp hb1
          exact ⟨a6, c6, rfl, (hb' 0).1.trans ((hbW.cell (p := ⟨p, 0, none⟩) hp2).trans q0), (hb' 1).1.trans ((hbW.cell (p := ⟨p, 1, none⟩) hp2).trans q1), (hb' 2).1.trans ((hbW.cell (p := ⟨p, 2, none⟩) hp2).trans q2), (hb' 3).1.trans ((hbW.cell (p := ⟨p, 3, none⟩) hp2).trans q3), (hb' 4).1.trans ((hbW.cell (p := ⟨p, 4, none⟩) hp2).trans q4),
            (hb' 2).2.trans ((hbW.frozen (p := ⟨p, 2, none⟩) hp2).trans r2), (hb' 3).2.trans ((hbW.frozen (p := ⟨p, 3, none⟩) hp2).trans r3), (hb' 4).2.trans ((hbW.frozen (p := ⟨p, 4, none⟩) hp2).trans r4), NR1.grown h2 (fun k hk hk' => by have := own_base own1 k hk; omega)⟩
        have OW := Lib.hid own1
        have HX := Lib.hid hx1
        have KEY := Lib.hid key
        clear own1 hx1 own2 key hbW NR NR1 hnp
        go_region_law (refine step_append_ints rfl (.tmp 62) (.tmp 67) 23 rfl w.heap.size 22 i0 8 Try.underlying23 hi0 hz0 hz1 hz2 (.slice a5 L.length c5) L (by simp [Act.eval]) OW.out (W2.heap.size + 1) (some ⟨W2.heap.size, 0, none⟩) 1 [M] (by simp [Act.eval]) HX.out hl1 hl2 hb1 ?_; intro v5 w5 hv1 hv2 hv3; obtain ⟨a6, c6, rfl, u0, u1, u2, u3, u4, y2, y3, y4, NR5⟩ := KEY.out v5 w5 hv1 hv2)
        all_goals (
          go_wp2_with fail
          go_ret
          refine ⟨ret_bool (by rw [GR.out]; simp [hfull]), ?_, ?_⟩
          · rw [AS.out, if_neg hfull]
            have own3 := ownsRow_setCell_below (ownsRow_setCell_below hv1 (a := ⟨p, 3, none⟩) hp (.slice a6 (L.length + 1) c6)) (a := ⟨p, 4, none⟩) hp (.int .i64 (s.granted + 1))
            refine ⟨a6, by simp [go_sem, u0], by simp [go_sem, u1], by simp [go_sem, u2], by simp [go_sem, u4], by simp [go_sem, y2], by simp [go_sem, y3], by simp [go_sem, y4], ⟨c6, by simp [go_sem, u3], own3⟩, own_ne hv1 hp, hn, fun x hx => ?_⟩
            rcases List.mem_append.1 hx with h | h
            · exact WD.out x (LM.out x h)
            · simp at h; subst h; exact hn
          · exact (NR5.setCell rfl 3 _).setCell rfl 4 _)

theorem granted_any (base p : Nat) (a : Option Addr) (most : Nat) (every : Int) (s : Bu) (w : World) (h : Bud w base p a most every s) :
    Calls Try.prog 18 #[.pointer (some ⟨p, 0, none⟩)] w fun e w' => e = .returned (.int .i64 s.granted) ∧ w = w' := by
  have c4 := h.c4
  clear h
  go_enter Try.func18, Try.ntmps18
  go_wp2_with fail
  go_ret
  exact ⟨rfl, rfl⟩
theorem new_any (most every : Int) (w : World) (hm : (Lit.int .i64 most).wf = true) (_he : Word every) :
    Calls Try.prog 13 #[.int .i64 most, .int .u64 every] w fun e w' => ∃ p, e = .returned (.pointer (some ⟨p, 0, none⟩)) ∧ w.heap.size ≤ p ∧ Bud w' w.heap.size p none (max 0 (min most 64)).toNat every ⟨0, [], 0⟩ ∧ Below w.heap.size w w' := by
  have hb := int_of_wf hm
  go_enter Try.func13, Try.ntmps13
  go_wp2_with fail
  go_ret
  have e0 : (((max 0 (min most 64)).toNat : Nat) : Int) = max 0 (min most 64) := by omega
  refine ⟨w.heap.size, rfl, Nat.le_refl _, ⟨?_, ?_, ?_, ?_, ?_, ?_, ?_, ⟨0, ?_, ⟨rfl, .inl ⟨rfl, rfl⟩⟩⟩, (fun g hg => by cases hg), ⟨by decide, by decide⟩, (fun x hx => by cases hx)⟩, (Below.refl _ _).alloc (Nat.le_refl _) _⟩
  · rw [e0]; exact World.cell?_alloc_at _ _ _ _ rfl
  all_goals simp [go_sem]
/-- The reference's budget at block p, its row at a. -/
structure RBud (w : World) (base p : Nat) (a : Option Addr) (most : Nat) (every : Int) (s : Rf) : Prop where
  c0 : w.cell? ⟨p, 0, none⟩ = some (.int .i64 most)
  c1 : w.cell? ⟨p, 1, none⟩ = some (.int .u64 every)
  c2 : w.cell? ⟨p, 2, none⟩ = some (.int .u64 s.last)
  f2 : w.frozen? ⟨p, 2, none⟩ = false
  f3 : w.frozen? ⟨p, 3, none⟩ = false
  row : ∃ c, w.cell? ⟨p, 3, none⟩ = some (.slice a s.l.length c) ∧ w.ownsRow base 22 1 (.slice a s.l.length c) s.l.length (s.l.map (Value.int .u64))
  away : ∀ g, a = some ⟨g, 0, none⟩ → g ≠ p
  wlast : Word s.last
  words : ∀ x ∈ s.l, Word x
theorem rnew_any (most every : Int) (w : World) (hm : (Lit.int .i64 most).wf = true) (_he : Word every) :
    Calls Try.prog 15 #[.int .i64 most, .int .u64 every] w fun e w' => ∃ p, e = .returned (.pointer (some ⟨p, 0, none⟩)) ∧ w.heap.size ≤ p ∧ RBud w' w.heap.size p none (max 0 (min most 64)).toNat every ⟨0, []⟩ ∧ Below w.heap.size w w' := by
  have hb := int_of_wf hm
  go_enter Try.func15, Try.ntmps15
  go_wp2_with fail
  go_ret
  have e0 : (((max 0 (min most 64)).toNat : Nat) : Int) = max 0 (min most 64) := by omega
  refine ⟨w.heap.size, rfl, Nat.le_refl _, ⟨?_, ?_, ?_, ?_, ?_, ⟨0, ?_, ⟨rfl, .inl ⟨rfl, rfl⟩⟩⟩, (fun g hg => by cases hg), ⟨by decide, by decide⟩, (fun x hx => by cases hx)⟩, (Below.refl _ _).alloc (Nat.le_refl _) _⟩
  · rw [e0]; exact World.cell?_alloc_at _ _ _ _ rfl
  all_goals simp [go_sem]
theorem fork_any (base p : Nat) (a : Option Addr) (most : Nat) (every : Int) (s : Bu) (w : World) (h : Bud w base p a most every s) (hlen : s.times.length ≤ 64) :
    Calls Try.prog 19 #[.pointer (some ⟨p, 0, none⟩)] w fun e w' => ∃ q a', e = .returned (.pointer (some ⟨q, 0, none⟩)) ∧ w.heap.size ≤ q ∧ Bud w' w.heap.size q a' most every s ∧ Below w.heap.size w w' := by
  obtain ⟨c0, c1, c2, c4, f2, f3, f4, ⟨c, c3, hown⟩, hne, wnow, words⟩ := h
  obtain ⟨a', c', hv, hI, hg0⟩ := Ints.of_own hown
  injection hv with hv1 hv2 hv3
  subst hv1
  subst hv3
  clear hv2
  have hbW : Below w.heap.size w (w.alloc (.cells #[.int .i64 most, .int .u64 every, .int .u64 s.now, .slice a s.times.length c, .int .i64 s.granted] 53)) := (Below.refl _ _).alloc (Nat.le_refl _) _
  have hI3 := hI.below hbW
  have hlt3 : w.heap.size < (w.alloc (.cells #[.int .i64 most, .int .u64 every, .int .u64 s.now, .slice a s.times.length c, .int .i64 s.granted] 53)).heap.size := by show _ < (w.heap.push _).size; simp
  obtain ⟨i0, hi0, hz0, hz1, hz2⟩ := info_parts word_info
  obtain ⟨v', w5, hrun, hown2, hgr, hat⟩ := run_append_ints (P := Try.prog) (k := .u64) (ty := 23) (w := w.alloc (.cells #[.int .i64 most, .int .u64 every, .int .u64 s.now, .slice a s.times.length c, .int .i64 s.granted] 53)) (w.alloc (.cells #[.int .i64 most, .int .u64 every, .int .u64 s.now, .slice a s.times.length c, .int .i64 s.granted] 53)).heap.size 23 22 i0 8 Try.underlying23 hi0 hz0 hz1 hz2 (.slice none 0 0) [] ⟨by simp, .inl ⟨rfl, rfl⟩⟩ w.heap.size a c s.times hI3 (by simp only [maxLen, List.length_nil]; omega) (by simp only [List.length_nil]; omega) (Nat.le_refl _)
  rw [List.nil_append] at hown2
  obtain ⟨a2, c2', hv2, _, _⟩ := Ints.of_own hown2
  subst hv2
  have hb5 : Below (w.alloc (.cells #[.int .i64 most, .int .u64 every, .int .u64 s.now, .slice a s.times.length c, .int .i64 s.granted] 53)).heap.size (w.alloc (.cells #[.int .i64 most, .int .u64 every, .int .u64 s.now, .slice a s.times.length c, .int .i64 s.granted] 53)) w5 := (Below.refl _ _).grown hgr (Nat.le_refl _) (fun g hg => by simp [Value.ownBlock] at hg)
  have HR := Lib.hid hrun
  have OWN := Lib.hid hown2
  have hcell := fun o u (h : (w.alloc (.cells #[.int .i64 most, .int .u64 every, .int .u64 s.now, .slice a s.times.length c, .int .i64 s.granted] 53)).cell? ⟨w.heap.size, o, none⟩ = some u) => (hb5.cell (p := ⟨w.heap.size, o, none⟩) hlt3).trans h
  have hfro := fun o (h : (w.alloc (.cells #[.int .i64 most, .int .u64 every, .int .u64 s.now, .slice a s.times.length c, .int .i64 s.granted] 53)).frozen? ⟨w.heap.size, o, none⟩ = false) => (hb5.frozen (p := ⟨w.heap.size, o, none⟩) hlt3).trans h
  have k0 : w5.cell? ⟨w.heap.size, 0, none⟩ = some (.int .i64 most) := hcell 0 _ (World.cell?_alloc_at _ _ _ _ rfl)
  have k1 : w5.cell? ⟨w.heap.size, 1, none⟩ = some (.int .u64 every) := hcell 1 _ (World.cell?_alloc_at _ _ _ _ rfl)
  have k2 : w5.cell? ⟨w.heap.size, 2, none⟩ = some (.int .u64 s.now) := hcell 2 _ (World.cell?_alloc_at _ _ _ _ rfl)
  have k3 : w5.cell? ⟨w.heap.size, 3, none⟩ = some (.slice a s.times.length c) := hcell 3 _ (World.cell?_alloc_at _ _ _ _ rfl)
  have k4 : w5.cell? ⟨w.heap.size, 4, none⟩ = some (.int .i64 s.granted) := hcell 4 _ (World.cell?_alloc_at _ _ _ _ rfl)
  have y2 := hfro 2 (by simp [go_sem])
  have y3 := hfro 3 (by simp [go_sem])
  have y4 := hfro 4 (by simp [go_sem])
  have WD := Lib.hid words
  have HB := Lib.hid (hbW.trans (hb5.mono (Nat.le_of_lt hlt3)))
  have HL := Lib.hid hlt3
  clear hown hne hI words hg0 hbW hI3 hlt3 hi0 hz0 hz1 hz2 hrun hown2 hgr hat hb5 hcell hfro
  have hp : p < w.heap.size := World.block_lt_of_cell? _ _ c0
  go_enter Try.func19, Try.ntmps19
  go_wp2_with (at_builtin; refine wpList_append_run rfl _ _ _ rfl rfl rfl HR.out ?_)
  go_ret
  refine ⟨w.heap.size, a2, rfl, Nat.le_refl _, ⟨by simp [go_sem, k0], by simp [go_sem, k1], by simp [go_sem, k2], by simp [go_sem, k4], by simp [go_sem, y2], by simp [go_sem, y3], by simp [go_sem, y4], ⟨c2', by simp [go_sem, k3], own_mono (ownsRow_setCell_below OWN.out (a := ⟨w.heap.size, 3, none⟩) HL.out _) (Nat.le_of_lt HL.out)⟩, own_ne OWN.out HL.out, wnow, WD.out⟩, HB.out.setCell (Nat.le_refl _) _⟩
theorem rfork_any (base p : Nat) (a : Option Addr) (most : Nat) (every : Int) (s : Rf) (w : World) (h : RBud w base p a most every s) (hlen : s.l.length ≤ 1000000) :
    Calls Try.prog 20 #[.pointer (some ⟨p, 0, none⟩)] w fun e w' => ∃ q a', e = .returned (.pointer (some ⟨q, 0, none⟩)) ∧ w.heap.size ≤ q ∧ RBud w' w.heap.size q a' most every s ∧ Below w.heap.size w w' := by
  obtain ⟨c0, c1, c2, f2, f3, ⟨c, c3, hown⟩, hne, wnow, words⟩ := h
  obtain ⟨a', c', hv, hI, hg0⟩ := Ints.of_own hown
  injection hv with hv1 hv2 hv3
  subst hv1
  subst hv3
  clear hv2
  have HI := Lib.hid hI
  have WD := Lib.hid words
  have hp : p < w.heap.size := World.block_lt_of_cell? _ _ c0
  obtain ⟨i0, hi0, hz0, hz1, hz2⟩ := info_parts word_info
  have own1 : w.drew.ownsRow w.heap.size 22 1 (.slice none 0 0) ([] : List Int).length (([] : List Int).map (Value.int .u64)) := ⟨by simp, .inl ⟨rfl, rfl⟩⟩
  have hI1 : Ints .u64 w.drew w.heap.size a s.l := hI
  have key : ∀ v5 w5, w5.ownsRow w.heap.size 22 1 v5 ([] ++ s.l).length (([] ++ s.l).map (Value.int .u64)) → w.drew.grownBy w5 (Value.slice none 0 0).ownBlock → ∃ a6 c6, v5 = .slice a6 s.l.length c6 ∧ p < w5.heap.size ∧
      w5.cell? ⟨p, 0, none⟩ = some (.int .i64 most) ∧ w5.cell? ⟨p, 1, none⟩ = some (.int .u64 every) ∧ w5.cell? ⟨p, 2, none⟩ = some (.int .u64 s.last) ∧ w5.cell? ⟨p, 3, none⟩ = some (.slice a s.l.length c) ∧
      Hid (w5.ownsRow w.heap.size 22 1 (.slice a6 s.l.length c6) s.l.length (s.l.map (Value.int .u64))) ∧ Hid (Below w.heap.size w w5) ∧ Hid (RowIn 0 w5.heap.size a6) := by
    intro v5 w5 h1 h2
    rw [List.nil_append] at h1
    obtain ⟨a6, c6, rfl, _, _⟩ := Ints.of_own h1
    have hb : Below w.heap.size w w5 := (show Below w.heap.size w w.drew from ⟨rfl, rfl, rfl, Nat.le_refl _, fun _ _ => rfl⟩).grown h2 (Nat.le_refl _) (fun g hg => by simp [Value.ownBlock] at hg)
    exact ⟨a6, c6, rfl, by have := hb.size; omega, (hb.cell (p := ⟨p, 0, none⟩) hp).trans c0, (hb.cell (p := ⟨p, 1, none⟩) hp).trans c1, (hb.cell (p := ⟨p, 2, none⟩) hp).trans c2, (hb.cell (p := ⟨p, 3, none⟩) hp).trans c3, h1, hb, (own_hi h1).mono (Nat.zero_le _) (Nat.le_refl _)⟩
  have OW := Lib.hid own1
  have HX := Lib.hid hI1
  have KEY := Lib.hid key
  clear hown hne hI words hg0 own1 hI1 key
  have hl1 : ([] : List Int).length + s.l.length ≤ maxLen := by simp only [maxLen, List.length_nil]; omega
  have hl2 : (([] : List Int).length + s.l.length) * 8 ≤ 140737488355328 := by simp only [List.length_nil]; omega
  go_enter Try.func20, Try.ntmps20
  go_wp2_with fail
  go_region_held3 (fun w' => w'.cell? ⟨p, 0, none⟩ = some (.int .i64 most) ∧ w'.cell? ⟨p, 1, none⟩ = some (.int .u64 every) ∧ w'.cell? ⟨p, 2, none⟩ = some (.int .u64 s.last) ∧ w'.cell? ⟨p, 3, none⟩ = some (.slice a s.l.length c)) (simp [go_sem, *]) (first | (refine step_append_ints rfl _ (.tmp 18) 23 rfl w.heap.size 22 i0 8 Try.underlying23 hi0 hz0 hz1 hz2 (.slice none 0 0) [] (by simp [Act.eval]) OW.out w.heap.size a c s.l (by simp [Act.eval]) HX.out hl1 hl2 (Nat.le_refl _) ?_; intro v5 w5 hv1 hv2 hv3; obtain ⟨a6, c6, rfl, hp5, u0, u1, u2, u3, HOW, HBE, HHI⟩ := KEY.out v5 w5 hv1 hv2))
  go_wp2_with fail
  go_ret
  refine ⟨w5.heap.size, a6, rfl, HBE.out.size, ⟨World.cell?_alloc_at _ _ _ _ rfl, World.cell?_alloc_at _ _ _ _ rfl, World.cell?_alloc_at _ _ _ _ rfl, by simp [go_sem], by simp [go_sem], ⟨c6, World.cell?_alloc_at _ _ _ _ rfl, HOW.out.alloc _⟩, fun g hg => by have := HHI.out g hg; omega, wnow, WD.out⟩, HBE.out.alloc HBE.out.size _⟩
end Go.Proofs.Ytnaofmiefghhkaa
