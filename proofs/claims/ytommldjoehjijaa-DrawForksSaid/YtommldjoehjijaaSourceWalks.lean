/-
  THE WALKS of package draw's sources (chapter 5) and of the reference's: words that are drawn one by one.
-/
import Derived.Test.YtommldjoehjijaaAppend
import Derived.Test.YtommldjoehjijaaDrawWalks
import Derived.Deep.QuietTactic
import Derived.BigQuiet
namespace Go.Proofs.Ytommldjoehjijaa
open Go.RowKit

/-- A source at block p: its words zs lie below block B, k were taken. -/
structure Src (w : World) (B p : Nat) (zs : List Int) (k : Nat) : Prop where
  le : B ≤ p
  c1 : w.cell? ⟨p, 1, none⟩ = some (.int .i64 k)
  f0 : w.frozen? ⟨p, 0, none⟩ = false
  f1 : w.frozen? ⟨p, 1, none⟩ = false
  words : ∃ a c, w.cell? ⟨p, 0, none⟩ = some (.slice a zs.length c) ∧ Ints .u64 w B a zs

def nextV (zs : List Int) (k : Nat) : Int := if k < zs.length then zs.getD k 0 else mixI k

section
variable {w w' : World} {B p : Nat} {zs : List Int} {k : Nat}
theorem Src.lt (h : Src w B p zs k) : p < w.heap.size := World.block_lt_of_cell? _ _ h.c1
theorem Src.of (h : Src w B p zs k) (h1 : ∀ o, w'.cell? ⟨p, o, none⟩ = w.cell? ⟨p, o, none⟩) (h2 : ∀ o, w'.frozen? ⟨p, o, none⟩ = w.frozen? ⟨p, o, none⟩) (h3 : ∀ b o, b < B → w'.cell? ⟨b, o, none⟩ = w.cell? ⟨b, o, none⟩) : Src w' B p zs k := by
  obtain ⟨a, c, hc, hI⟩ := h.words
  refine ⟨h.le, (h1 1).trans h.c1, (h2 0).trans h.f0, (h2 1).trans h.f1, a, c, (h1 0).trans hc, ?_⟩
  rcases hI with rfl | ⟨b, off, rfl, hb, hcell⟩
  · exact .inl rfl
  · exact .inr ⟨b, off, rfl, hb, fun j hj => (h3 b _ hb).trans (hcell j hj)⟩
theorem Src.below {C : Nat} (h : Src w B p zs k) (hb : Below C w w') (hp : p < C) : Src w' B p zs k :=
  h.of (fun o => hb.cell (p := ⟨p, o, none⟩) hp) (fun o => hb.frozen (p := ⟨p, o, none⟩) hp) (fun b o hlt => hb.cell (p := ⟨b, o, none⟩) (by have := h.le; show b < C; omega))
theorem Src.alloc (h : Src w B p zs k) (o : Obj) : Src (w.alloc o) B p zs k := h.below ((Below.refl w.heap.size w).alloc (Nat.le_refl _) o) h.lt
theorem Src.drew (h : Src w B p zs k) : Src w.drew B p zs k := h.of (fun _ => rfl) (fun _ => rfl) (fun _ _ _ => rfl)
theorem Src.drewN (h : Src w B p zs k) (m : Nat) : Src (w.drewN m) B p zs k := h.of (fun _ => rfl) (fun _ => rfl) (fun _ _ _ => rfl)
theorem Src.far (h : Src w B p zs k) {q o : Nat} (hq : B ≤ q) (hne : q ≠ p) (u : Value) : Src (w.setCell ⟨q, o, none⟩ u) B p zs k :=
  h.of (fun o' => World.cell?_setCell_other _ _ _ _ (fun e => by injection e; omega)) (fun o' => World.frozen?_setCell _ _ _ _) (fun b o' hlt => World.cell?_setCell_other _ _ _ _ (fun e => by injection e; omega))
theorem Src.step (h : Src w B p zs k) : Src (w.setCell ⟨p, 1, none⟩ (.int .i64 ((k : Int) + 1))) B p zs (k + 1) := by
  obtain ⟨a, c, hc, hI⟩ := h.words
  have h1 := h.c1
  have hle := h.le
  refine ⟨h.le, ?_, (World.frozen?_setCell _ _ _ _).trans h.f0, (World.frozen?_setCell _ _ _ _).trans h.f1, a, c, ?_, ?_⟩
  · simp [go_sem, h1]
  · simp [go_sem, hc]
  · rcases hI with rfl | ⟨b, off, rfl, hb, hcell⟩
    · exact .inl rfl
    · exact .inr ⟨b, off, rfl, hb, fun j hj => (World.cell?_setCell_other _ _ _ _ (fun e => by injection e; omega)).trans (hcell j hj)⟩
end

theorem next_any (B p : Nat) (zs : List Int) (k : Nat) (w : World) (h : Src w B p zs k) (hk : k ≤ 1000000) (hm : zs.length ≤ 9223372036854775807) :
    Calls Try.prog 20 #[.pointer (some ⟨p, 0, none⟩)] w fun e w' => e = .returned (.int .u64 (nextV zs k)) ∧ w.setCell ⟨p, 1, none⟩ (.int .i64 ((k : Int) + 1)) = w' := by
  obtain ⟨hle, c1, f0, f1, a, c, c0, hI⟩ := h
  by_cases hlt : k < zs.length
  · obtain ⟨b, off, rfl, hb, hc⟩ := hI.at (by omega)
    have e1 := hc k hlt
    have hbp : b < p := by omega
    have ev : nextV zs k = zs.getD k 0 := by unfold nextV; rw [if_pos hlt]
    have EV := Lib.hid ev
    clear hc ev hI
    generalize zs.getD k 0 = x at *
    go_enter Try.func20, Try.ntmps20
    go_wp2_with fail
    go_ret
    exact ⟨ret_int EV.out.symm, rfl⟩
  · have ev : nextV zs k = mixI k := by unfold nextV; rw [if_neg hlt]
    have EV := Lib.hid ev
    clear ev hI
    go_enter Try.func20, Try.ntmps20
    go_wp2_with fail
    refine (mix_any _ ⟨by omega, by omega⟩ _).mono ?_; rintro e w' ⟨rfl, rfl⟩
    go_wp2_with fail
    go_ret
    exact ⟨ret_int EV.out.symm, rfl⟩
theorem next1_any (B p : Nat) (zs : List Int) (k : Nat) (w : World) (h : Src w B p zs k) (hk : k ≤ 1000000) (hm : zs.length ≤ 9223372036854775807) :
    Calls Try.prog 21 #[.pointer (some ⟨p, 0, none⟩)] w fun e w' => e = .returned (.int .u64 (nextV zs k)) ∧ w.setCell ⟨p, 1, none⟩ (.int .i64 ((k : Int) + 1)) = w' := by
  obtain ⟨hle, c1, f0, f1, a, c, c0, hI⟩ := h
  by_cases hlt : k < zs.length
  · obtain ⟨b, off, rfl, hb, hc⟩ := hI.at (by omega)
    have e1 := hc k hlt
    have hbp : b < p := by omega
    have ev : nextV zs k = zs.getD k 0 := by unfold nextV; rw [if_pos hlt]
    have EV := Lib.hid ev
    clear hc ev hI
    generalize zs.getD k 0 = x at *
    go_enter Try.func21, Try.ntmps21
    go_wp2_with fail
    go_ret
    exact ⟨ret_int EV.out.symm, rfl⟩
  · have ev : nextV zs k = mixI k := by unfold nextV; rw [if_neg hlt]
    have EV := Lib.hid ev
    clear ev hI
    go_enter Try.func21, Try.ntmps21
    go_wp2_with fail
    refine (mix1_any _ ⟨by omega, by omega⟩ _).mono ?_; rintro e w' ⟨rfl, rfl⟩
    go_wp2_with fail
    go_ret
    exact ⟨ret_int EV.out.symm, rfl⟩
theorem taken_any (B p : Nat) (zs : List Int) (k : Nat) (w : World) (h : Src w B p zs k) :
    Calls Try.prog 22 #[.pointer (some ⟨p, 0, none⟩)] w fun e w' => e = .returned (.int .i64 k) ∧ w = w' := by
  have c1 := h.c1
  go_enter Try.func22, Try.ntmps22
  go_wp2_with fail
  go_ret
  exact ⟨rfl, rfl⟩

theorem word_info : (Try.prog.info? 22).map (fun i => (i.zero, i.size, i.bytes)) = some (some (.int .u64 0), 1, 8) := by kernel_rfl
theorem new_any (B : Nat) (a : Option Addr) (c : Nat) (zs : List Int) (w : World) (h : Ints .u64 w B a zs) (hm : zs.length * 8 ≤ 140737488355328) :
    Calls Try.prog 19 #[.slice a zs.length c] w fun e w' => ∃ p, e = .returned (.pointer (some ⟨p, 0, none⟩)) ∧ w.heap.size ≤ p ∧ Src w' p p zs 0 ∧ Below w.heap.size w w' := by
  obtain ⟨i0, hi0, hz0, hz1, hz2⟩ := info_parts word_info
  obtain ⟨a', c', w1, hrun, hI, hb, _⟩ := run_copy_ints (P := Try.prog) 38 38 22 i0 8 Try.underlying38 hi0 hz0 hz1 hz2 B a c zs h (by simp only [maxLen]; omega) hm
  have HI := Lib.hid hI
  have HB := Lib.hid hb
  have HR := Lib.hid hrun
  clear hI hb hi0 hz0 hz1 hz2 hrun h
  go_enter Try.func19, Try.ntmps19
  go_wp2_with (at_builtin; refine wpList_append_run rfl _ _ _ rfl rfl rfl HR.out ?_)
  go_ret
  refine ⟨_, rfl, HB.out.size, ⟨Nat.le_refl _, by simp [go_sem], by simp [go_sem], by simp [go_sem], a', c', by simp [go_sem], ?_⟩, HB.out.alloc HB.out.size _⟩
  rcases HI.out with rfl | ⟨b, off, rfl, hlt, hc⟩
  · exact .inl rfl
  · exact .inr ⟨b, off, rfl, hlt, fun j hj => (World.cell?_alloc_lt _ _ _ hlt).trans (hc j hj)⟩
end Go.Proofs.Ytommldjoehjijaa
