import Derived.Test.YtnaofmiefghhkaaBudgetWalks
namespace Go.Proofs.Ytnaofmiefghhkaa
open Go.RowKit
theorem drewN_two (w : World) (a b : Nat) : (w.drewN a).drewN b = w.drewN (a + b) := by simp [World.drewN, Nat.add_assoc]
/-- Behind an append to a row: a block that is not the row's is as it was. -/
theorem far_ne {w w' : World} {p o n c : Nat} {a : Option Addr} {b : Nat} {e : TypeId} {size : Nat} {xs : List Value} (hown : w.ownsRow b e size (.slice a n c) n xs) (hne : ∀ g, a = some ⟨g, 0, none⟩ → g ≠ p) (hg : w.grownBy w' (Value.slice a n c).ownBlock) (hp : p < w.heap.size) : w'.cell? ⟨p, o, none⟩ = w.cell? ⟨p, o, none⟩ ∧ w'.frozen? ⟨p, o, none⟩ = w.frozen? ⟨p, o, none⟩ := by
  have hn : some p ≠ (Value.slice a n c).ownBlock := by
    intro e
    rcases hown.2 with ⟨e1, _⟩ | ⟨g', cap, cur, e1, _⟩
    · injection e1 with e2; subst e2; simp [Value.ownBlock] at e
    · injection e1 with e2; subst e2; simp [Value.ownBlock] at e; exact hne g' rfl e.symm
  exact ⟨hg.cell_far _ hp hn, hg.frozen_far _ hp hn⟩
theorem own_block {w : World} {n c : Nat} {a : Option Addr} {b : Nat} {e : TypeId} {size : Nat} {xs : List Value} (hown : w.ownsRow b e size (.slice a n c) n xs) : ∀ k, (Value.slice a n c).ownBlock = some k → a = some ⟨k, 0, none⟩ := by
  intro k hk
  rcases hown.2 with ⟨e1, _⟩ | ⟨g', cap, cur, e1, _⟩
  · injection e1 with e2; subst e2; simp [Value.ownBlock] at hk
  · injection e1 with e2; subst e2; simp [Value.ownBlock] at hk; rw [hk]

set_option maxHeartbeats 2000000 in
theorem rask_any (base p : Nat) (a : Option Addr) (most : Nat) (every t : Int) (s : Rf) (w : World) (h : RBud w base p a most every s) (ht : Word t) (hlen : s.l.length ≤ 1000000) (hbp : base ≤ w.heap.size) :
    Calls Try.prog 17 #[.pointer (some ⟨p, 0, none⟩), .int .u64 t] w fun e w' => e = .returned (.bool (rgrants most every s t)) ∧ (∃ a', RBud w' base p a' most every (rask most every s t) ∧ (a' = a ∨ RowIn w.heap.size w'.heap.size a')) ∧ Off (fun k => k = p ∨ a = some ⟨k, 0, none⟩) w w' := by
  have hp : p < w.heap.size := World.block_lt_of_cell? _ _ h.c0
  obtain ⟨c0, c1, c2, f2, f3, ⟨c, c3, hown⟩, hne, wlast, words⟩ := h
  have hn : Word (max s.last t) := by obtain ⟨_, _⟩ := wlast; obtain ⟨_, _⟩ := ht; exact ⟨by omega, by omega⟩
  have own0 : (w.setCell ⟨p, 2, none⟩ (.int .u64 (max s.last t))).ownsRow base 22 1 (.slice a s.l.length c) s.l.length (s.l.map (Value.int .u64)) := own_kept hown (fun g hg => Below.heap_setCell _ _ _ _ (hne g hg))
  obtain ⟨a', c', hv, hI, hg0⟩ := Ints.of_own own0
  injection hv with hv1 hv2 hv3
  subst hv1
  subst hv3
  clear hv2
  have hOff : Off (fun k => k = p ∨ a = some ⟨k, 0, none⟩) w (w.setCell ⟨p, 2, none⟩ (.int .u64 (max s.last t))) := (Off.refl _ _).setCell (.inl rfl) _ _
  have hsz : w.heap.size ≤ (w.setCell ⟨p, 2, none⟩ (.int .u64 (max s.last t))).heap.size := hOff.size
  have q0 : (w.setCell ⟨p, 2, none⟩ (.int .u64 (max s.last t))).cell? ⟨p, 0, none⟩ = some (.int .i64 most) := by simp [go_sem, c0]
  have q1 : (w.setCell ⟨p, 2, none⟩ (.int .u64 (max s.last t))).cell? ⟨p, 1, none⟩ = some (.int .u64 every) := by simp [go_sem, c1]
  have q2 : (w.setCell ⟨p, 2, none⟩ (.int .u64 (max s.last t))).cell? ⟨p, 2, none⟩ = some (.int .u64 (max s.last t)) := by simp [go_sem, c2]
  have q3 : (w.setCell ⟨p, 2, none⟩ (.int .u64 (max s.last t))).cell? ⟨p, 3, none⟩ = some (.slice a s.l.length c) := by simp [go_sem, c3]
  have r2 : (w.setCell ⟨p, 2, none⟩ (.int .u64 (max s.last t))).frozen? ⟨p, 2, none⟩ = false := by simp [go_sem, f2]
  have r3 : (w.setCell ⟨p, 2, none⟩ (.int .u64 (max s.last t))).frozen? ⟨p, 3, none⟩ = false := by simp [go_sem, f3]
  have HNE := Lib.hid hne
  have WD := Lib.hid words
  clear hown hne words
  go_enter Try.func17, Try.ntmps17
  go_wp2_with fail
  have ep := part_all every (max s.last t) s.l
  have hgrants : rgrants most every s t = !decide (most ≤ (s.l.filter (alive every (max s.last t))).length) := rfl
  have hask : rask most every s t = if most ≤ (s.l.filter (alive every (max s.last t))).length then ⟨max s.last t, s.l⟩ else ⟨max s.last t, s.l ++ [max s.last t]⟩ := rfl
  have GR := Lib.hid hgrants
  have AS := Lib.hid hask
  have EP := Lib.hid ep
  clear ep hgrants hask
  generalize hW : w.setCell ⟨p, 2, none⟩ (.int .u64 (max s.last t)) = W1 at *
  generalize max s.last t = M at *
  clear hW
  have hp1 : p < W1.heap.size := by omega
  have OWN := Lib.hid own0
  have HI := Lib.hid hI
  have HG := Lib.hid hg0
  have HOFF := Lib.hid hOff
  clear own0 hI hg0 hOff
  go_loopw [5, 6] (fun v i wr => ∃ (j n : Nat), j ≤ s.l.length ∧ i = .int .i64 j ∧ v = .int .i64 (part every M s.l j).length ∧ Hid (wr = W1.drewN n)) (fun _ i _ => s.l.length - (intOf i).toNat)
  case atStart => exact ⟨0, 0, by omega, rfl, by simp [part], Lib.hid rfl⟩
  case round =>
    obtain ⟨j, n, hj, rfl, rfl, HWR⟩ := hrel
    have k0 : wr.cell? ⟨p, 0, none⟩ = some (.int .i64 most) := by rw [HWR.out]; exact q0
    have k1 : wr.cell? ⟨p, 1, none⟩ = some (.int .u64 every) := by rw [HWR.out]; exact q1
    have k2 : wr.cell? ⟨p, 2, none⟩ = some (.int .u64 M) := by rw [HWR.out]; exact q2
    have k3 : wr.cell? ⟨p, 3, none⟩ = some (.slice a s.l.length c) := by rw [HWR.out]; exact q3
    have hpl := part_len every M s.l j
    by_cases hlt : j < s.l.length
    · obtain ⟨g, rfl, hbg⟩ := HG.out (by intro hh; rw [hh] at hlt; simp at hlt)
      obtain ⟨b, off, hbo, hbl, hc⟩ := HI.out.at (by omega)
      injection hbo with hbo
      injection hbo with hb1 hb2
      subst hb1 hb2
      have hx0 := hc j hlt
      rw [Nat.zero_add] at hx0
      have hx : wr.cell? ⟨g, j, none⟩ = some (.int .u64 (s.l.getD j 0)) := by rw [HWR.out]; exact hx0
      have wx := WD.out _ (List.getElem_mem hlt)
      have ex : s.l[j] = s.l.getD j 0 := by simp [List.getD, List.getElem?_eq_getElem hlt]
      rw [ex] at wx
      have py := part_yes (every := every) (M := M) hlt
      have pn := part_no (every := every) (M := M) hlt
      generalize s.l.getD j 0 = x at *
      generalize part every M s.l j = L at *
      have PY := Lib.hid py
      have PN := Lib.hid pn
      clear py pn hc ex hx0
      by_cases hal : alive every M x = true
      · have hdec : decide (subI M x < every) = true := hal
        have E := Lib.hid (PY.out hal)
        clear hal PY PN
        go_wp2_with fail
        go_quiet ((go_at_call 25; exact Calls.quiet_of_same ((sub1_any M x hn wx _).mono fun e w' h => ⟨h.1, h.2.symm⟩)))
        go_wp2_with fail
        go_roundw
        case rel => exact ⟨j + 1, _, by omega, by go_num, by rw [E.out]; simp, Lib.hid (by rw [HWR.out]; exact drewN_two _ _ _)⟩
        case measure => simp [intOf]; omega
      · have hal := Bool.eq_false_iff.2 hal
        have hdec : decide (subI M x < every) = false := hal
        have E := Lib.hid (PN.out hal)
        clear hal PY PN
        go_wp2_with fail
        go_quiet ((go_at_call 25; exact Calls.quiet_of_same ((sub1_any M x hn wx _).mono fun e w' h => ⟨h.1, h.2.symm⟩)))
        go_wp2_with fail
        go_roundw
        case rel => exact ⟨j + 1, _, by omega, by go_num, by rw [E.out], Lib.hid (by rw [HWR.out]; exact drewN_two _ _ _)⟩
        case measure => simp [intOf]; omega
    · obtain rfl : j = s.l.length := by omega
      rw [EP.out] at hpl ⊢
      generalize (s.l.filter (alive every M)).length = N at *
      have g2 : wr.frozen? ⟨p, 2, none⟩ = false := by rw [HWR.out]; exact r2
      have g3 : wr.frozen? ⟨p, 3, none⟩ = false := by rw [HWR.out]; exact r3
      have own2 : wr.ownsRow base 22 1 (.slice a s.l.length c) s.l.length (s.l.map (Value.int .u64)) := by rw [HWR.out]; exact OWN.out
      have offr : Off (fun k => k = p ∨ a = some ⟨k, 0, none⟩) w wr := by rw [HWR.out]; exact HOFF.out.drew n
      have hszr : W1.heap.size = wr.heap.size := by rw [HWR.out]; rfl
      by_cases hfull : most ≤ N
      · have hdec : decide ((most : Int) ≤ (N : Int)) = true := by simp; omega
        have OWN2 := Lib.hid own2
        have OFFR := Lib.hid offr
        clear own2 offr
        go_wp2_with fail
        go_ret
        refine ⟨ret_bool (by rw [GR.out]; simp [hfull]), ⟨a, ?_, .inl rfl⟩, OFFR.out⟩
        rw [AS.out, if_pos hfull]
        exact ⟨k0, k1, k2, g2, g3, ⟨c, k3, OWN2.out⟩, HNE.out, hn, WD.out⟩
      · have hdec : decide ((most : Int) ≤ (N : Int)) = false := by simp; omega
        have hpr : p < wr.heap.size := by omega
        obtain ⟨i0, hi0, hz0, hz1, hz2⟩ := info_parts word_info
        have own1 : (wr.drew.alloc (.cells #[.int .u64 M] 22)).ownsRow base 22 1 (.slice a s.l.length c) s.l.length (s.l.map (Value.int .u64)) := (show wr.drew.ownsRow base 22 1 (.slice a s.l.length c) s.l.length (s.l.map (Value.int .u64)) from own2).alloc _
        have hx1 : Ints .u64 (wr.drew.alloc (.cells #[.int .u64 M] 22)) (wr.heap.size + 1) (some ⟨wr.heap.size, 0, none⟩) [M] := .inr ⟨wr.heap.size, 0, rfl, by omega, fun t ht => by simp at ht; subst ht; exact World.cell?_alloc_at _ _ _ _ rfl⟩
        have hsz1 : (wr.drew.alloc (.cells #[.int .u64 M] 22)).heap.size = wr.heap.size + 1 := by show (wr.heap.push _).size = _; simp
        have hb1 : base ≤ (wr.drew.alloc (.cells #[.int .u64 M] 22)).heap.size := by omega
        have hl1 : s.l.length + [M].length ≤ maxLen := by simp only [maxLen, List.length_singleton]; omega
        have hl2 : (s.l.length + [M].length) * 8 ≤ 140737488355328 := by simp only [List.length_singleton]; omega
        have hbW : Below wr.heap.size wr (wr.drew.alloc (.cells #[.int .u64 M] 22)) := (show Below wr.heap.size wr wr.drew from ⟨rfl, rfl, rfl, Nat.le_refl _, fun _ _ => rfl⟩).alloc (Nat.le_refl _) _
        have NR1 : Off (fun k => k = p ∨ a = some ⟨k, 0, none⟩) w (wr.drew.alloc (.cells #[.int .u64 M] 22)) := (offr.drew 1).alloc _
        have key : ∀ v5 w5, w5.ownsRow base 22 1 v5 (s.l ++ [M]).length ((s.l ++ [M]).map (Value.int .u64)) → (wr.drew.alloc (.cells #[.int .u64 M] 22)).grownBy w5 (Value.slice a s.l.length c).ownBlock →
            (v5.ownBlock = (Value.slice a s.l.length c).ownBlock ∨ v5.ownBlock = some (wr.drew.alloc (.cells #[.int .u64 M] 22)).heap.size) → ∃ a6 c6, v5 = .slice a6 (s.l ++ [M]).length c6 ∧
            w5.cell? ⟨p, 0, none⟩ = some (.int .i64 most) ∧ w5.cell? ⟨p, 1, none⟩ = some (.int .u64 every) ∧ w5.cell? ⟨p, 2, none⟩ = some (.int .u64 M) ∧ w5.cell? ⟨p, 3, none⟩ = some (.slice a s.l.length c) ∧
            w5.frozen? ⟨p, 2, none⟩ = false ∧ w5.frozen? ⟨p, 3, none⟩ = false ∧ Off (fun k => k = p ∨ a = some ⟨k, 0, none⟩) w w5 ∧ (a6 = a ∨ RowIn w.heap.size w5.heap.size a6) ∧ (∀ g, a6 = some ⟨g, 0, none⟩ → g ≠ p) := by
          intro v5 w5 h1 h2 h3
          obtain ⟨a6, c6, rfl, _, hg6⟩ := Ints.of_own h1
          have hb' := fun o => far_ne (o := o) own1 HNE.out h2 (by omega)
          have hhi := own_hi h1
          obtain ⟨g6, hg6, _⟩ := hg6 (by simp)
          have hat : a6 = a ∨ RowIn w.heap.size w5.heap.size a6 := by
            subst hg6
            rcases h3 with h3 | h3
            · exact .inl (own_block own1 g6 h3.symm).symm
            · right
              intro g hg
              have e1 : g6 = (wr.drew.alloc (.cells #[.int .u64 M] 22)).heap.size := by simpa [Value.ownBlock] using h3
              have e2 := hhi g hg
              injection hg with hg
              injection hg with hg
              exact ⟨by omega, e2.2⟩
          refine ⟨a6, c6, rfl, (hb' 0).1.trans ((hbW.cell (p := ⟨p, 0, none⟩) hpr).trans k0), (hb' 1).1.trans ((hbW.cell (p := ⟨p, 1, none⟩) hpr).trans k1), (hb' 2).1.trans ((hbW.cell (p := ⟨p, 2, none⟩) hpr).trans k2), (hb' 3).1.trans ((hbW.cell (p := ⟨p, 3, none⟩) hpr).trans k3),
            (hb' 2).2.trans ((hbW.frozen (p := ⟨p, 2, none⟩) hpr).trans g2), (hb' 3).2.trans ((hbW.frozen (p := ⟨p, 3, none⟩) hpr).trans g3), NR1.grown h2 (fun k hk hk' => .inr (own_block own1 k hk)), hat, ?_⟩
          intro g hg
          rcases hat with hat | hat
          · exact HNE.out g (hat ▸ hg)
          · have := hat g hg; omega
        have OW := Lib.hid own1
        have HX := Lib.hid hx1
        have KEY := Lib.hid key
        clear own1 hx1 own2 key hbW NR1 offr hsz1
        go_wp2_with fail
        go_region_law (refine step_append_ints rfl (.tmp 54) (.tmp 59) 23 rfl base 22 i0 8 Try.underlying23 hi0 hz0 hz1 hz2 (.slice a s.l.length c) s.l (by simp [Act.eval]) OW.out (wr.heap.size + 1) (some ⟨wr.heap.size, 0, none⟩) 1 [M] (by simp [Act.eval]) HX.out hl1 hl2 hb1 ?_; intro v5 w5 hv1 hv2 hv3; obtain ⟨a6, c6, rfl, u0, u1, u2, u3, y2, y3, NR5, AT5, NE5⟩ := KEY.out v5 w5 hv1 hv2 hv3)
        all_goals (
          go_wp2_with fail
          go_ret
          have own3 : (w5.setCell ⟨p, 3, none⟩ (.slice a6 (s.l.length + 1) c6)).ownsRow base 22 1 (.slice a6 (s.l ++ [M]).length c6) (s.l ++ [M]).length ((s.l ++ [M]).map (Value.int .u64)) := own_kept hv1 (fun g hg => Below.heap_setCell _ _ _ _ (NE5 g hg))
          refine ⟨ret_bool (by rw [GR.out]; simp [hfull]), ⟨a6, ?_, ?_⟩, NR5.setCell (.inl rfl) 3 _⟩
          · rw [AS.out, if_neg hfull]
            refine ⟨by simp [go_sem, u0], by simp [go_sem, u1], by simp [go_sem, u2], by simp [go_sem, y2], by simp [go_sem, y3], ⟨c6, by simp [go_sem, u3], own3⟩, NE5, hn, fun x hx => ?_⟩
            rcases List.mem_append.1 hx with h | h
            · exact WD.out x h
            · simp at h; subst h; exact hn
          · rcases AT5 with h | h
            · exact .inl h
            · exact .inr (by simpa [World.setCell] using h))
end Go.Proofs.Ytnaofmiefghhkaa
