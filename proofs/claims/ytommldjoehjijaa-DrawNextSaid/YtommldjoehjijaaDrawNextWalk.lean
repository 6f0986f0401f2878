/-
  THE WALK of law DrawNext.
-/
import Derived.Test.YtommldjoehjijaaSourceWalks
namespace Go.Proofs.Ytommldjoehjijaa
open Go.RowKit

set_option maxHeartbeats 1000000 in
theorem drawNext_walk (a : Option Addr) (len cap : Nat) (zs : List Int) (n : Int) (w : World) (hr : IsRow .u64 w a len cap zs) (hs : cap * 8 ≤ 140737488351232) (wn : (Lit.int .u8 n).wf = true) :
    Calls Try.prog 8 #[.slice a len cap, .int .u8 n] w fun e w' => e = .returned (.bool true) ∧ Below w.heap.size w w' := by
  obtain ⟨h, hl, hlc, _, _⟩ := Ints.of_row hr
  obtain ⟨n0, n1⟩ := byte_of_wf wn
  generalize zs.take len = l at *
  subst hl
  have hm : l.length ≤ 9223372036854775807 := by omega
  have HI := Lib.hid h
  clear h hr wn zs
  go_enter Try.func8, Try.ntmps8
  go_wp2_with fail
  refine (new_any _ a cap l _ HI.out (by omega)).mono ?_; rintro e w1 ⟨p, rfl, hp, hsrc, hb1⟩
  have SP := Lib.hid hsrc
  clear hsrc
  go_wp2_with fail
  refine (draw_alive _).mono ?_; rintro e w2 ⟨rfl, hb2⟩
  have hs2 := hb2.size
  have hbb := hb1.trans (hb2.mono hb1.size)
  have SP2 := Lib.hid (SP.out.below hb2 SP.out.lt)
  have hp1 := SP.out.lt
  clear SP
  go_wp2_with fail
  go_loopw [7] (fun i wr => ∃ k : Nat, (k : Int) ≤ n ∧ i = .int .i64 k ∧ Hid (Src wr p p l k) ∧ Hid (Src wr w.heap.size w2.heap.size l k) ∧ Below w.heap.size w wr) (fun i _ => (n - intOf i).toNat)
  case atStart =>
    refine ⟨0, by omega, rfl, ?_, ?_, ?_⟩
    · exact SP2.out.of (fun o => World.cell?_alloc_lt _ _ _ (by show p < _; omega)) (fun o => World.frozen?_alloc_old _ _ _ (by show p ≠ _; omega)) (fun b o hb => World.cell?_alloc_lt _ _ _ (by show b < _; omega))
    · refine ⟨hbb.size, by simp, by simp [go_sem], by simp [go_sem], a, cap, by simp, ?_⟩
      exact (HI.out.below hbb).below ((Below.refl _ _).alloc hbb.size _)
    · exact hbb.alloc hbb.size _
  case round =>
    obtain ⟨k, hk, rfl, sp, sq, hB⟩ := hrel
    by_cases hlt : (k : Int) < n
    · go_wp2_with fail
      refine (next_any p p l k _ sp.out (by omega) hm).mono ?_; rintro e w' ⟨rfl, rfl⟩
      go_wp2_with fail
      refine (next1_any w.heap.size w2.heap.size l k _ (sq.out.far hp (by omega) _) (by omega) hm).mono ?_; rintro e w' ⟨rfl, rfl⟩
      go_wp2_with fail
      go_roundw
      case rel => exact ⟨k + 1, by omega, by go_num, sp.out.step.far (by omega) (by omega) _, (sq.out.far hp (by omega) _).step, (hB.setCell hp _).setCell hbb.size _⟩
      case measure => simp [intOf]; omega
    · have hd : decide ((k : Int) < n) = false := by simp; omega
      have c1 := sq.out.c1
      go_wp2_with fail
      go_quiet ((go_at_call 22; exact Calls.quiet_of_same ((taken_any p p l k _ (sp.out.drewN _)).mono fun e w' h => ⟨h.1, h.2.symm⟩)))
      go_wp2_with fail
      go_ret
      exact ⟨rfl, below_drewN hB _⟩
end Go.Proofs.Ytommldjoehjijaa
