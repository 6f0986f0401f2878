/-
  THE WALK of law DrawForks.
-/
import Derived.Test.YtommldjoehjijaaSourceWalks
import Derived.Deep.RegionHeld3
namespace Go.Proofs.Ytommldjoehjijaa
open Go.RowKit

theorem fork_any (B p : Nat) (zs : List Int) (k : Nat) (w : World) (h : Src w B p zs k) (hm : zs.length * 8 ≤ 140737488355328) :
    Calls Try.prog 29 #[.pointer (some ⟨p, 0, none⟩)] w fun e w' => ∃ q, e = .returned (.pointer (some ⟨q, 0, none⟩)) ∧ w.heap.size ≤ q ∧ Src w' q q zs k ∧ Below w.heap.size w w' := by
  have hlt := h.lt
  have H := Lib.hid h
  obtain ⟨hle, c1, f0, f1, a, c, c0, hI⟩ := h
  have HI := Lib.hid hI
  clear hI
  go_enter Try.func29, Try.ntmps29
  go_wp2_with fail
  refine (new_any B a c zs _ HI.out hm).mono ?_; rintro e w1 ⟨q, rfl, hq, hsrc, hb⟩
  have c1' := (hb.cell (p := ⟨p, 1, none⟩) hlt).trans c1
  have s1 := hsrc.c1
  have s2 := hsrc.f1
  have SQ := Lib.hid hsrc
  clear hsrc
  go_wp2_with fail
  go_ret
  refine ⟨q, rfl, hq, ?_, hb.setCell hq _⟩
  obtain ⟨t1, t2, t3, t4, b, cc, u0, u1⟩ := SQ.out
  refine ⟨t1, by simp [go_sem, t2], (World.frozen?_setCell _ _ _ _).trans t3, (World.frozen?_setCell _ _ _ _).trans t4, b, cc, by simp [go_sem, u0], ?_⟩
  rcases u1 with rfl | ⟨g, off, rfl, hg, hcell⟩
  · exact .inl rfl
  · exact .inr ⟨g, off, rfl, hg, fun j hj => (World.cell?_setCell_other _ _ _ _ (fun e => by injection e; omega)).trans (hcell j hj)⟩

theorem taken_cell (p : Nat) (k : Nat) (w : World) (c1 : w.cell? ⟨p, 1, none⟩ = some (.int .i64 k)) :
    Calls Try.prog 22 #[.pointer (some ⟨p, 0, none⟩)] w fun e w' => e = .returned (.int .i64 k) ∧ w = w' := by
  go_enter Try.func22, Try.ntmps22
  go_wp2_with fail
  go_ret
  exact ⟨rfl, rfl⟩
/-- What a source that m were taken of gives next, k times. -/
def drawn (zs : List Int) (m k : Nat) : List Int := (List.range k).map fun j => nextV zs (m + j)
theorem drawn_len (zs : List Int) (m k : Nat) : (drawn zs m k).length = k := by simp [drawn]
theorem drawn_succ (zs : List Int) (m k : Nat) : drawn zs m k ++ [nextV zs (m + k)] = drawn zs m (k + 1) := by simp [drawn, List.range_succ]
theorem drawn_at {zs : List Int} {m n k : Nat} (h : k < n) : (drawn zs m n).getD k 0 = nextV zs (m + k) := by simp [drawn, List.getD, h]

set_option maxHeartbeats 1000000 in
theorem drawForks_walk (a : Option Addr) (len cap : Nat) (zs : List Int) (m n : Int) (w : World) (hr : IsRow .u64 w a len cap zs) (hs : cap * 8 ≤ 140737488351232) (wm : (Lit.int .u8 m).wf = true) (wn : (Lit.int .u8 n).wf = true) :
    Calls Try.prog 11 #[.slice a len cap, .int .u8 m, .int .u8 n] w fun e w' => e = .returned (.bool true) ∧ Below w.heap.size w w' := by
  obtain ⟨h, hl, hlc, _, _⟩ := Ints.of_row hr
  obtain ⟨m0, m1⟩ := byte_of_wf wm
  obtain ⟨n0, n1⟩ := byte_of_wf wn
  generalize zs.take len = l at *
  subst hl
  obtain ⟨m, rfl⟩ := Int.eq_ofNat_of_zero_le m0
  obtain ⟨n, rfl⟩ := Int.eq_ofNat_of_zero_le n0
  have hm : l.length ≤ 9223372036854775807 := by omega
  have HI := Lib.hid h
  clear h hr wm wn zs m0 n0
  go_enter Try.func11, Try.ntmps11
  go_wp2_with fail
  refine (new_any _ a cap l _ HI.out (by omega)).mono ?_; rintro e w1 ⟨p, rfl, hp, hsrc, hb1⟩
  have SP := Lib.hid hsrc
  clear hsrc
  go_wp2_with fail
  refine (draw_alive _).mono ?_; rintro e w2 ⟨rfl, hb2⟩
  have hbb := hb1.trans (hb2.mono hb1.size)
  have SP2 := Lib.hid (SP.out.below hb2 SP.out.lt)
  clear SP
  go_wp2_with fail
  go_loopw [8] (fun i wr => ∃ k : Nat, k ≤ m ∧ i = .int .i64 k ∧ Hid (Src wr p p l k) ∧ Below w.heap.size w wr) (fun i _ => m - (intOf i).toNat)
  case atStart =>
    exact ⟨0, by omega, rfl, SP2, hbb⟩
  case round =>
    obtain ⟨k, hk, rfl, sp, hB⟩ := hrel
    by_cases hlt : k < m
    · go_wp2_with fail
      refine (next_any p p l k _ sp.out (by omega) hm).mono ?_; rintro e w' ⟨rfl, rfl⟩
      go_wp2_with fail
      go_roundw
      case rel => exact ⟨k + 1, by omega, by go_num, sp.out.step, hB.setCell hp _⟩
      case measure => simp [intOf]; omega
    · obtain rfl : k = m := by omega
      clear hk
      go_wp2_with fail
      refine (fork_any p p l k _ sp.out (by omega)).mono ?_; rintro e w3 ⟨q, rfl, hq, hsq, hb3⟩
      have SQ := Lib.hid hsq
      have SP3 := Lib.hid (sp.out.below hb3 sp.out.lt)
      have hB3 := hB.trans (hb3.mono hB.size)
      have hql := hsq.lt
      have hpq : p < q := by have := sp.out.lt; omega
      clear hsq
      go_wp2_with fail
      have hw3 := hB3.size
      go_loopw [10, 11] (fun v i wr => ∃ j : Nat, j ≤ n ∧ i = .int .i64 j ∧ Hid (wr.ownsRow w3.heap.size 22 1 v j ((drawn l k j).map (Value.int .u64))) ∧ (∃ a' c', v = .slice a' j c') ∧ Hid (Src wr q q l (k + j)) ∧ Hid (Src wr p p l k) ∧ Below w.heap.size w wr ∧ w3.heap.size ≤ wr.heap.size) (fun _ i _ => n - (intOf i).toNat)
      case atStart =>
        exact ⟨0, by omega, rfl, ⟨by simp [drawn], .inl ⟨rfl, by simp⟩⟩, ⟨_, _, rfl⟩, SQ, SP3, hB3, Nat.le_refl _⟩
      case round =>
        obtain ⟨j, hj, rfl, hown, ⟨ax, cx, rfl⟩, sq, sp, hB, hsz⟩ := hrel
        by_cases hlt2 : j < n
        · -- one more word is drawn of the fork, and appended
          have hq1 := sq.out.lt
          obtain ⟨i0, hi0, hz0, hz1, hz2⟩ := info_parts word_info
          have own1 : ((wr.setCell ⟨q, 1, none⟩ (.int .i64 (((k + j : Nat) : Int) + 1))).alloc (.cells #[.int .u64 (nextV l (k + j))] 22)).ownsRow w3.heap.size 22 1 (.slice ax j cx) (drawn l k j).length ((drawn l k j).map (Value.int .u64)) := by
            rw [drawn_len]
            exact (ownsRow_setCell_below hown.out hql _).alloc _
          obtain ⟨v', w5, hrun, hown2, hgr, hat⟩ := run_append_ints (P := Try.prog) (k := .u64) w3.heap.size 38 38 22 i0 8 Try.underlying38 hi0 hz0 hz1 hz2 (.slice ax j cx) (drawn l k j) own1 (wr.heap.size + 1) (some ⟨wr.heap.size, 0, none⟩) 1 [nextV l (k + j)]
            (.inr ⟨wr.heap.size, 0, rfl, by omega, fun t ht => by simp at ht; subst ht; rw [World.cell?_alloc_at _ _ _ _ (by simp)]; rfl⟩) (by rw [drawn_len]; simp only [maxLen, List.length_singleton]; omega) (by rw [drawn_len]; simp only [List.length_singleton]; omega) (by simp; omega)
          rw [drawn_succ] at hown2
          rw [drawn_len] at hown2
          obtain ⟨a2, c2, hv2, _, _⟩ := Ints.of_own (zs := drawn l k (j + 1)) (by rw [drawn_len]; exact hown2)
          rw [drawn_len] at hv2
          subst hv2
          have hbel : Below w3.heap.size ((wr.setCell ⟨q, 1, none⟩ (.int .i64 (((k + j : Nat) : Int) + 1))).alloc (.cells #[.int .u64 (nextV l (k + j))] 22)) w5 := (Below.refl _ _).grown hgr (by simp; omega) (fun g hg => by
            rcases hown.out.2 with ⟨e, _⟩ | ⟨g', cap', cur, e, hg', _⟩
            · injection e with e1; subst e1; simp [Value.ownBlock] at hg
            · injection e with e1; subst e1; simp [Value.ownBlock] at hg; omega)
          have HR := Lib.hid hrun
          have OWN := Lib.hid hown2
          have BEL := Lib.hid hbel
          have hws := hbel.size
          simp at hws
          clear own1 hrun hown2 hgr hat hbel hi0 hz0 hz1 hz2
          go_wp2_with fail
          refine (next_any q q l (k + j) _ sq.out (by omega) hm).mono ?_; rintro e w' ⟨rfl, rfl⟩
          go_wp2_with (at_builtin; refine wpList_append_run rfl _ _ _ rfl rfl rfl HR.out ?_)
          go_roundw
          case rel =>
            refine ⟨j + 1, by omega, by go_num, OWN, ⟨a2, c2, rfl⟩, ?_, ?_, ?_, by omega⟩
            · exact (sq.out.step.alloc _).below BEL.out hql
            · exact ((sp.out.far (by omega) (by omega) _).alloc _).below BEL.out (by omega)
            · exact ((hB.setCell (by show w.heap.size ≤ q; omega) _).alloc (by simp; omega) _).trans (BEL.out.mono hw3)
          case measure => simp [intOf]; omega
        · obtain rfl : j = n := by omega
          have hx : ∀ g, ax = some ⟨g, 0, none⟩ → ∀ t, t < j → wr.cell? ⟨g, t, none⟩ = some (.int .u64 (nextV l (k + t))) := by
            intro g hg t ht
            subst hg
            have := hown.out.cells (g := g) rfl t (.int .u64 (nextV l (k + t))) (by simp [drawn, ht])
            rwa [Go.WideShapes.add_plain, Nat.zero_add] at this
          have hg : 0 < j → ∃ g, ax = some ⟨g, 0, none⟩ ∧ w3.heap.size ≤ g := by
            intro hj0
            rcases hown.out.2 with ⟨e, h0⟩ | ⟨g', cap', cur, e, hg', _⟩
            · omega
            · injection e with e1; exact ⟨g', e1, hg'⟩
          have HX := Lib.hid hx
          have HG := Lib.hid hg
          clear hx hg hj hlt2
          go_wp2_with fail
          go_loopw [12] (fun i wr => ∃ t : Nat, t ≤ j ∧ i = .int .i64 t ∧ Hid (∀ g, ax = some ⟨g, 0, none⟩ → ∀ t, t < j → wr.cell? ⟨g, t, none⟩ = some (.int .u64 (nextV l (k + t)))) ∧ Hid (wr.cell? ⟨q, 1, none⟩ = some (.int .i64 ((k + j : Nat) : Int))) ∧ Hid (Src wr p p l (k + t)) ∧ Below w.heap.size w wr) (fun i _ => j - (intOf i).toNat)
          case atStart => exact ⟨0, by omega, rfl, HX, sq.out.c1, sp, hB⟩
          case round =>
            clear HX sq sp hB hown hsz
            obtain ⟨t, ht, rfl, hx, sq, sp, hB⟩ := hrel
            by_cases hlt3 : t < j
            · obtain ⟨g, rfl, hg⟩ := HG.out (by omega)
              have e1 := hx.out g rfl t hlt3
              go_wp2_with fail
              go_region_held3 (fun w' => w'.cell? ⟨g, t, none⟩ = some (.int .u64 (nextV l (k + t)))) (simp [go_sem, *])
                (first
                  | (go_at_call 20; refine (next_any p p l (k + t) _ (by first | exact sp.out | exact sp.out.drew | exact sp.out.drewN _) (by omega) hm).mono ?_; rintro e w' ⟨rfl, rfl⟩))
              go_wp2_with fail
              go_roundw
              case rel =>
                have st := sp.out.step
                rw [Int.natCast_add] at st
                refine ⟨t + 1, by omega, by go_num, ?_, (World.cell?_setCell_other _ _ _ _ (fun e => by injection e; omega)).trans sq.out, st.drew, (hB.setCell (by show w.heap.size ≤ p; omega) _).drew⟩
                intro g1 e1 t2 h2
                exact (World.cell?_setCell_other _ _ _ _ (fun e => by injection e1 with e1; injection e1 with e1; injection e; omega)).trans (hx.out g1 e1 t2 h2)
              case measure => simp [intOf]; omega
            · obtain rfl : t = j := by omega
              have hd : decide ((t : Int) < (t : Int)) = false := by simp
              go_wp2_with fail
              refine (taken_any p p l (k + t) _ sp.out).mono ?_; rintro e w' ⟨rfl, rfl⟩
              go_wp2_with fail
              refine (taken_cell q (k + t) _ sq.out).mono ?_; rintro e w' ⟨rfl, rfl⟩
              go_wp2_with fail
              refine (taken_any p p l (k + t) _ sp.out).mono ?_; rintro e w' ⟨rfl, rfl⟩
              go_wp2_with fail
              go_ret
              exact ⟨rfl, hB⟩
end Go.Proofs.Ytommldjoehjijaa
