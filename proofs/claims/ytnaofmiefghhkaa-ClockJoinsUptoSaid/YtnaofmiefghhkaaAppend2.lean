/-
  APPEND, OVER SLICES OF INTEGERS: what 'append(v, l...)' gives, v nil or of the call's own, l any slice of integers that lies somewhere: as a fact on the operation's run, for a walk to use.
-/
import Derived.Test.YtnaofmiefghhkaaInts
import Derived.Maps.AppendAt
import Derived.Laws.AppendOwnNone
import Derived.Laws.OwnMore
import Derived.OwnWalk
namespace Go.Proofs.Ytnaofmiefghhkaa
open Go.RowKit

section
variable {P : Program} {k : IntKind} {w w' : World} {B base : Nat} {a : Option Addr} {zs : List Int}

/-- A row of integers that the call owns, as a list: what it is and where it lies. -/
theorem Ints.of_own {e : TypeId} {v : Value} (h : w.ownsRow base e 1 v zs.length (zs.map (Value.int k))) : ∃ a' c', v = .slice a' zs.length c' ∧ Ints k w w.heap.size a' zs ∧ (zs ≠ [] → ∃ g, a' = some ⟨g, 0, none⟩ ∧ base ≤ g) := by
  obtain ⟨_, hc⟩ := id h
  rcases hc with ⟨rfl, hn⟩ | ⟨g, cap, cur, rfl, hg, hh, hn, hcap, hsz, htake⟩
  · have hz : zs = [] := by simpa using hn
    subst hz
    exact ⟨_, _, rfl, Ints.nil_, fun hne => absurd rfl hne⟩
  · refine ⟨_, _, rfl, ?_, fun _ => ⟨g, rfl, hg⟩⟩
    by_cases hz : zs = []
    · exact .inl hz
    · have hlt : g < w.heap.size := by
        rcases Nat.lt_or_ge g w.heap.size with hlt | hge
        · exact hlt
        · rw [Array.getElem?_eq_none hge] at hh; cases hh
      refine .inr ⟨g, 0, rfl, hlt, fun j hj => ?_⟩
      have := h.cells (g := g) rfl j (.int k (zs.getD j 0)) (by simp [List.getD, List.getElem?_eq_getElem hj])
      rw [Go.WideShapes.add_plain] at this
      exact this

/-- 'append(v, l...)': v nil or of the call's own. -/
theorem run_append_ints {ty : TypeId} (base : Nat) (t e : TypeId) (i : TypeInfo) (bytes : Nat) (ht : P.underlying t = some (.slice e)) (hi : P.info? e = some i) (hz : i.zero = some (.int k 0))
    (hsize : i.size = 1) (hby : i.bytes = bytes) (v : Value) (xs : List Int) (hown : w.ownsRow base e 1 v xs.length (xs.map (Value.int k)))
    (B : Nat) (a : Option Addr) (c : Nat) (zs : List Int) (hr : Ints k w B a zs) (h63 : xs.length + zs.length ≤ maxLen) (hbytes : (xs.length + zs.length) * bytes ≤ 140737488355328) (hbase : base ≤ w.heap.size) :
    ∃ v' w', (Builtin.append_ #[t, t] ty #[v, .slice a zs.length c]).run P w = .ok v' w' ∧ w'.ownsRow base e 1 v' (xs ++ zs).length ((xs ++ zs).map (Value.int k)) ∧ w.grownBy w' v.ownBlock ∧ (v'.ownBlock = v.ownBlock ∨ v'.ownBlock = some w.heap.size) := by
  have key : ∀ (ad : Addr), (∀ j u, (zs.map (Value.int k))[j]? = some u → w.cell? (ad.add j) = some u) →
      ∃ v' w', (Builtin.append_ #[t, t] ty #[v, .slice (some ad) zs.length c]).run P w = .ok v' w' ∧ w'.ownsRow base e 1 v' (xs ++ zs).length ((xs ++ zs).map (Value.int k)) ∧ w.grownBy w' v.ownBlock ∧ (v'.ownBlock = v.ownBlock ∨ v'.ownBlock = some w.heap.size) := by
    intro ad hc
    obtain ⟨v', w', hrun, h2, h3, _, h5⟩ := run_append_own_at (P := P) w base t ty e i (.int k 0) 1 bytes ht hi hz hsize hby rfl (by omega) v xs.length (xs.map (Value.int k)) hown ad zs.length c (zs.map (Value.int k)) (by simp) hc
      (fun u hu => by obtain ⟨n, _, rfl⟩ := List.mem_map.1 hu; rfl) h63 hbytes hbase
    exact ⟨v', w', hrun, by rw [List.length_append, List.map_append]; exact h2, h3, h5⟩
  rcases hr with rfl | ⟨b, off, rfl, _, hc⟩
  · rcases a with _ | ad
    · refine ⟨v, w, ?_, by simpa using hown, World.grownBy.refl w _, .inl rfl⟩
      rcases hown.2 with ⟨rfl, hn⟩ | ⟨g, cap, cur, rfl, _, _, hnc, _⟩
      · simp [Builtin.append_, run_underlying ht, sizeOf, typeInfo, hi, Builtin.lenOf, Builtin.firstCells]
      · simp [Builtin.append_, run_underlying ht, sizeOf, typeInfo, hi, Builtin.lenOf, Builtin.firstCells, hnc, storeCells]
    · exact key ad (fun j u hu => by simp at hu)
  · refine key _ (fun j u hu => ?_)
    rw [Go.WideShapes.add_plain]
    have hj : j < zs.length := by
      rcases Nat.lt_or_ge j zs.length with h | h
      · exact h
      · rw [List.getElem?_eq_none (by simpa using h)] at hu; cases hu
    rw [hc j hj, ← hu]
    simp [List.getD, List.getElem?_eq_getElem hj]

/-- 'append([]T(nil), l...)': a copy in new memory. -/
theorem run_copy_ints {ty : TypeId} (t e : TypeId) (i : TypeInfo) (bytes : Nat) (ht : P.underlying t = some (.slice e)) (hi : P.info? e = some i) (hz : i.zero = some (.int k 0))
    (hsize : i.size = 1) (hby : i.bytes = bytes) (B : Nat) (a : Option Addr) (c : Nat) (zs : List Int) (hr : Ints k w B a zs) (h63 : zs.length ≤ maxLen) (hbytes : zs.length * bytes ≤ 140737488355328) :
    ∃ a' c' w', (Builtin.append_ #[t, t] ty #[.slice none 0 0, .slice a zs.length c]).run P w = .ok (.slice a' zs.length c') w' ∧ Ints k w' w'.heap.size a' zs ∧ Below w.heap.size w w' ∧ (zs ≠ [] → ∃ g, a' = some ⟨g, 0, none⟩ ∧ w.heap.size ≤ g) := by
  obtain ⟨v', w', hrun, hown, hg, _⟩ := run_append_ints (P := P) (w := w) (ty := ty) w.heap.size t e i bytes ht hi hz hsize hby (.slice none 0 0) [] ⟨by simp, .inl ⟨rfl, rfl⟩⟩ B a c zs hr (by simpa using h63) (by simpa using hbytes) (Nat.le_refl _)
  rw [List.nil_append] at hown
  obtain ⟨a', c', rfl, hI, hat⟩ := Ints.of_own hown
  exact ⟨a', c', w', hrun, hI, (Below.refl _ _).grown hg (Nat.le_refl _) (by simp [Value.ownBlock]), hat⟩
end

section
variable {P : Program} {w w' : World} {ops : Array Oper} {rest : List Oper} {o : Oper} {a : Act} {K : Act → World → Prop} {Q : Exit → Act → World → Prop} {v l v' : Value}
/-- An append whose run is known, as a step of the walk. -/
theorem wp_append_run (s x : Operand) (t : TypeId) (ho : o.op = .call { callee := .builtin .append, args := #[s, x], argTypes := #[t, t] }) (hs : a.eval s = v) (hx : a.eval x = l)
    (hrun : (Builtin.append_ #[t, t] o.type #[v, l]).run P w = .ok v' w') (h : K (a.put o.dst v') w') : o.wp P a w K Q := by
  unfold Oper.wp execOp
  simp only [ho, resolve, invoke, builtin, Sem.run_bind, Sem.run_pure, Result.andThen_ok, List.map_toArray, List.map_cons, List.map_nil, hs, hx, hrun]
  exact h
theorem wpList_append_run (hgd : o.guard = none) (s x : Operand) (t : TypeId) (ho : o.op = .call { callee := .builtin .append, args := #[s, x], argTypes := #[t, t] }) (hs : a.eval s = v) (hx : a.eval x = l)
    (hrun : (Builtin.append_ #[t, t] o.type #[v, l]).run P w = .ok v' w') (h : wpList P ops Q rest (a.put o.dst v') w') : wpList P ops Q (o :: rest) a w :=
  wpList_plain hgd fun _ hK => wp_append_run s x t ho hs hx hrun (hK _ _ h)
/-- An append of integers, as a step of a region that draws its order. -/
theorem step_append_ints {k : IntKind} {E : Prop} (hgd : o.guard = none) (s x : Operand) (t : TypeId) (ho : o.op = .call { callee := .builtin .append, args := #[s, x], argTypes := #[t, t] })
    (base : Nat) (e : TypeId) (i : TypeInfo) (bytes : Nat) (ht : P.underlying t = some (.slice e)) (hi : P.info? e = some i) (hz : i.zero = some (.int k 0))
    (hsize : i.size = 1) (hby : i.bytes = bytes) (v : Value) (xs : List Int) (hs : a.eval s = v) (hown : w.ownsRow base e 1 v xs.length (xs.map (Value.int k)))
    (B : Nat) (ad : Option Addr) (c : Nat) (zs : List Int) (hx : a.eval x = .slice ad zs.length c) (hr : Ints k w B ad zs) (h63 : xs.length + zs.length ≤ maxLen) (hbytes : (xs.length + zs.length) * bytes ≤ 140737488355328) (hbase : base ≤ w.heap.size)
    (h : ∀ v' w', w'.ownsRow base e 1 v' (xs ++ zs).length ((xs ++ zs).map (Value.int k)) → w.grownBy w' v.ownBlock → (v'.ownBlock = v.ownBlock ∨ v'.ownBlock = some w.heap.size) → K (a.put o.dst v') w') :
    if Region.wanted o (yielded ops a.tmps) = true then Oper.wp P o a w K Q else E := by
  have hw : Region.wanted o (yielded ops a.tmps) = true := by simp [Region.wanted, hgd]
  rw [if_pos hw]
  obtain ⟨v', w', hrun, h2, h3, h4⟩ := run_append_ints (P := P) (ty := o.type) base t e i bytes ht hi hz hsize hby v xs hown B ad c zs hr h63 hbytes hbase
  exact wp_append_run s x t ho hs hx hrun (h v' w' h2 h3 h4)
end
end Go.Proofs.Ytnaofmiefghhkaa
