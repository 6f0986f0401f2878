/-
  A SLICE OF INTEGERS AS A LIST: 'Ints k w B a zs': the slice value '.slice a zs.length c' holds the numbers zs and lies below block B (an empty one lies nowhere).
-/
import Derived.Test.YtnaofmiefghhkaaBase
import Derived.Lib.Hide
import Derived.OpenShut
namespace Go.Proofs.Ytnaofmiefghhkaa
open Go.RowKit

def Ints (k : IntKind) (w : World) (B : Nat) (a : Option Addr) (zs : List Int) : Prop :=
  zs = [] ∨ ∃ b off, a = some ⟨b, off, none⟩ ∧ b < B ∧ ∀ j, j < zs.length → w.cell? ⟨b, off + j, none⟩ = some (.int k (zs.getD j 0))

section
variable {k : IntKind} {w w' : World} {B B' : Nat} {a : Option Addr} {zs : List Int}
theorem Ints.nil_ : Ints k w B a [] := .inl rfl
theorem Ints.at (h : Ints k w B a zs) (hp : 0 < zs.length) : ∃ b off, a = some ⟨b, off, none⟩ ∧ b < B ∧ ∀ j, j < zs.length → w.cell? ⟨b, off + j, none⟩ = some (.int k (zs.getD j 0)) := by
  rcases h with rfl | h
  · simp at hp
  · exact h
theorem Ints.below (h : Ints k w B a zs) (hb : Below B w w') : Ints k w' B a zs := by
  rcases h with rfl | ⟨b, off, rfl, hB, hc⟩
  · exact .inl rfl
  · exact .inr ⟨b, off, rfl, hB, fun j hj => (hb.cell (p := ⟨b, off + j, none⟩) hB).trans (hc j hj)⟩
theorem Ints.mono (h : Ints k w B a zs) (hB : B ≤ B') : Ints k w B' a zs := by
  rcases h with rfl | ⟨b, off, rfl, hb, hc⟩
  · exact .inl rfl
  · exact .inr ⟨b, off, rfl, by omega, hc⟩
theorem Ints.of_row {len cap : Nat} (h : IsRow k w a len cap zs) : Ints k w w.heap.size a (zs.take len) ∧ (zs.take len).length = len ∧ len ≤ cap ∧ cap ≤ maxLen ∧ ∀ n ∈ zs.take len, (Lit.int k n).wf = true := by
  rcases h with ⟨rfl, rfl, rfl, rfl⟩ | ⟨x, rfl, hl, hm, hz, hc, hw⟩
  · exact ⟨.inl rfl, rfl, Nat.le_refl _, by simp [maxLen], fun n hn => by simp at hn⟩
  · have hlen : (zs.take len).length = len := by rw [List.length_take]; omega
    refine ⟨?_, hlen, hl, hm, fun n hn => hw n (List.mem_of_mem_take hn)⟩
    by_cases h0 : len = 0
    · subst h0; exact .inl (by simp)
    · obtain ⟨b, off, rfl, hcell⟩ := ints_at hc (by omega)
      refine .inr ⟨b, off, rfl, World.block_lt_of_cell? _ _ (hcell 0 (by omega)), fun j hj => ?_⟩
      rw [hlen] at hj
      have e : (zs.take len).getD j 0 = zs.getD j 0 := by simp [List.getD, hj]
      rw [e]
      exact hcell j (by omega)
end
theorem take_snoc {zs : List Int} {j : Nat} (h : j < zs.length) : zs.take (j + 1) = zs.take j ++ [zs.getD j 0] := by
  rw [List.take_succ_eq_append_getElem h]; simp [List.getD, List.getElem?_eq_getElem h]
theorem ret_int' {k : IntKind} {a b : Int} (h : a = b) : Ending.returned (.int k a) = .returned (.int k b) := by rw [h]
end Go.Proofs.Ytnaofmiefghhkaa
