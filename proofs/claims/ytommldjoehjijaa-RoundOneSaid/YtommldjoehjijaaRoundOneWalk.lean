/-
  THE WALK of law RoundOne: a loop over pairs of uint16.
-/
import Derived.Test.YtommldjoehjijaaRoundWalks
import Derived.Lib.Hide
import Derived.Deep.Slices
import Derived.OpenShut
namespace Go.Proofs.Ytommldjoehjijaa
open Go.RowKit Go.WideShapes Go.ChangeShapes

theorem begin_go (a b pn next : Int) (w : World) (h : a ≤ pn) (hpn : pn < next) (h0 : 0 ≤ pn) (hx : next ≤ 30000) (hb : 0 ≤ b) (hb' : b ≤ 1000) :
    Calls Try.prog 13 #[.agg #[.int .u64 a, .int .u64 b], .int .u64 pn, .int .u64 next] w fun e w' => e = .returned (.tuple #[.agg #[.int .u64 next, .int .u64 (b + 1)], .bool true]) ∧ ∃ c1 c2 c3, w' = ((w.alloc (.cells c1 24)).alloc (.cells c2 24)).alloc (.cells c3 24) := by
  have e1 : endOf pn next = next := by unfold endOf; rw [if_neg (by omega)]
  have e2 : inc b = b + 1 := by unfold inc; rw [if_pos (by omega)]
  have := begin_yes a b pn next w h ⟨by omega, by omega⟩ ⟨by omega, by omega⟩
  rw [e1, e2] at this
  exact this

set_option maxHeartbeats 2000000 in
theorem roundOne_some (b off len cap : Nat) (p q : Nat → Int) (w : World) (hl : len ≤ 500)
    (hc : ∀ i, i < len → w.cell? ⟨b, off + i * 2, none⟩ = some (.int .u16 (p i)) ∧ w.cell? ⟨b, off + i * 2 + 1, none⟩ = some (.int .u16 (q i)) ∧ 0 ≤ p i ∧ p i < 65536 ∧ 0 ≤ q i ∧ q i < 65536) :
    Calls Try.prog 4 #[.slice (some ⟨b, off, none⟩) len cap] w fun e w' => e = .returned (.bool true) ∧ Below w.heap.size w w' := by
  have HC := Lib.hid hc
  clear hc
  have hd : decide ((500 : Int) < (len : Int)) = false := by simp; omega
  go_enter Try.func4, Try.ntmps4
  go_wp2_with fail
  refine (round_alive _).mono ?_; rintro e w1 ⟨rfl, hg⟩
  go_wp2_with fail
  have hg1 := hg.size
  go_loopw [4, 5, 6, 21] (fun next last n i wr => ∃ (k : Nat) (x l c : Int), k ≤ len ∧ i = .int .i64 k ∧ next = .int .u64 x ∧ last = .int .u64 l ∧ n = .int .u64 c ∧ 0 ≤ l ∧ l ≤ x ∧ x ≤ 30 * k ∧ 0 ≤ c ∧ c ≤ k ∧
      Below w.heap.size w wr ∧ w1.heap.size < wr.heap.size ∧ wr.cell? ⟨w1.heap.size, 0, none⟩ = some (.int .u64 l) ∧ wr.cell? ⟨w1.heap.size, 1, none⟩ = some (.int .u64 c) ∧ (∀ o, wr.frozen? ⟨w1.heap.size, o, none⟩ = false)) (fun _ _ _ i _ => len - (intOf i).toNat)
  case atStart =>
    exact ⟨0, 0, 0, 0, Nat.zero_le _, rfl, rfl, rfl, rfl, by omega, by omega, by omega, by omega, by omega, by go_grown, by simp, by simp, by simp, fun o => by simp [go_sem]⟩
  case round =>
    obtain ⟨k, x, l, c, hk, rfl, rfl, rfl, rfl, l0, lx, xk, c0, ck, hb, hs, s0, s1, sf⟩ := hrel
    have sf0 := sf 0
    have sf1 := sf 1
    have SF := Lib.hid sf
    clear sf
    by_cases hlt : k < len
    · obtain ⟨e1, e2, e3, e4, e5, e6⟩ := HC.out k hlt
      have f1 := (hb.cell (p := ⟨b, off + k * 2, none⟩) (World.block_lt_of_cell? _ _ e1)).trans e1
      have f2 := (hb.cell (p := ⟨b, off + k * 2 + 1, none⟩) (World.block_lt_of_cell? _ _ e2)).trans e2
      have hkk : k < 500 := by omega
      obtain ⟨z0, z1, z2, z3, z4, z5, z6, z7, z8, _⟩ := past16 hs
      clear e1 e2
      generalize p k = P at *
      generalize q k = Q at *
      have hP : 0 ≤ P % 30 ∧ P % 30 < 30 := by omega
      obtain ⟨m1, m2⟩ := hP
      by_cases hge : x + P % 30 ≤ Q
      · go_wp2_with fail
        go_roundw
        case rel => exact ⟨k + 1, _, _, _, by omega, by go_num, rfl, rfl, rfl, by omega, by omega, by omega, by omega, by omega, hb, hs, s0, s1, SF.out⟩
        case measure => simp [intOf]; omega
      · have hq : Q < x + P % 30 := by omega
        have hge' : decide (x + P % 30 ≤ Q) = false := by simp; omega
        clear hge
        by_cases hlp : l ≤ Q
        · have hd2 : decide (Q < l) = false := by simp; omega
          go_wp2_with (first | (go_at_call 13; refine (begin_go l c Q (x + P % 30) _ hlp hq e5 (by omega) c0 (by omega)).mono ?_; rintro e w' ⟨rfl, c1, c2, c3, rfl⟩))
          all_goals
            go_roundw
            case rel => exact ⟨k + 1, _, _, _, by omega, by go_num, rfl, rfl, rfl, by omega, by omega, by omega, by omega, by omega, by go_grown, by simp; omega, by simp [go_sem, *], by simp [go_sem, *], fun o => by simp [go_sem, *]; exact SF.out o⟩
            case measure => simp [intOf]; omega
        · have hd2 : decide (l ≤ Q) = false := by simp; omega
          go_wp2_with (first | (go_at_call 13; refine (begin_no l c Q (x + P % 30) _ (by omega)).mono ?_; rintro e w' ⟨rfl, c1, c2, c3, rfl⟩))
          all_goals
            go_roundw
            case rel => exact ⟨k + 1, _, _, _, by omega, by go_num, rfl, rfl, rfl, by omega, by omega, by omega, by omega, by omega, by go_grown, by simp; omega, by simp [go_sem, *], by simp [go_sem, *], fun o => by simp [go_sem, *]; exact SF.out o⟩
            case measure => simp [intOf]; omega
    · go_wp2_with fail
      go_ret
      exact ⟨rfl, hb⟩
theorem roundOne_long (a : Option Addr) (len cap : Nat) (w : World) (hl : 500 < len) (hm : len ≤ 9223372036854775807) :
    Calls Try.prog 4 #[.slice a len cap] w fun e w' => e = .returned (.bool true) ∧ Below w.heap.size w w' := by
  have hd : decide ((500 : Int) < (len : Int)) = true := by simp; omega
  go_enter Try.func4, Try.ntmps4
  go_wp2_with fail
  refine (round_alive _).mono ?_; rintro e w1 ⟨rfl, hg⟩
  go_wp2_with fail
  refine (round_alive _).mono ?_; rintro e w2 ⟨rfl, hg2⟩
  go_wp2_with fail
  go_ret
  exact ⟨rfl, hg.trans (hg2.mono hg.size)⟩
theorem roundOne_zero (a : Option Addr) (cap : Nat) (w : World) :
    Calls Try.prog 4 #[.slice a 0 cap] w fun e w' => e = .returned (.bool true) ∧ Below w.heap.size w w' := by
  go_enter Try.func4, Try.ntmps4
  go_wp2_with fail
  refine (round_alive _).mono ?_; rintro e w1 ⟨rfl, hg⟩
  have hg1 := hg.size
  go_wp2_with fail
  go_rounds 1
  go_ret
  exact ⟨rfl, by go_grown⟩

/-- A slice of pairs of uint16 that came in, opened. -/
theorem pairs_of {H : Type} {enc : TypeId × Value → H} {w : World} {v : Value} {d : DataW H} {ps : List MemPlace} {b0 : Nat} (hv : Value.okWide Try.prog w .any b0 30 v) (hk : DataW.Trod enc Try.prog w 0 (fun _ => true) true 30 v d ps) :
    ∃ (a : Option Addr) (len cap : Nat), v = .slice a len cap ∧ len ≤ 9223372036854775807 ∧ (len = 0 ∨ ∃ (b off : Nat) (p q : Nat → Int), a = some ⟨b, off, none⟩ ∧
      ∀ i, i < len → w.cell? ⟨b, off + i * 2, none⟩ = some (.int .u16 (p i)) ∧ w.cell? ⟨b, off + i * 2 + 1, none⟩ = some (.int .u16 (q i)) ∧ 0 ≤ p i ∧ p i < 65536 ∧ 0 ≤ q i ∧ q i < 65536) := by
  obtain ⟨a, len, cap, rfl⟩ := okWide_slice Try.underlying30 hv
  obtain ⟨fuel, hf⟩ := hk
  refine ⟨a, len, cap, rfl, ?_⟩
  rcases Deep.open_slice Try.underlying30 hf with ⟨hcs, _⟩ | ⟨x, l, c, m, n, D, Pl, hcs, hb, hl, hm, hmm, _, hx⟩
  · simp [Value.cells] at hcs
    obtain ⟨rfl, rfl, rfl⟩ := hcs
    exact ⟨by omega, .inl rfl⟩
  · simp [Value.cells] at hcs
    obtain ⟨rfl, rfl, rfl⟩ := hcs
    unfold maxLen at hm
    refine ⟨by omega, ?_⟩
    by_cases h0 : len = 0
    · exact .inl h0
    right
    have hC : Try.prog.cellsOf 32 = 2 := by kernel_rfl
    have hC1 : Try.prog.cellsOf 31 = 1 := by kernel_rfl
    have hlm : len ≤ m := by simp at hmm; omega
    obtain ⟨b, off, spot⟩ := x
    have el : ∀ i, i < len → ∃ pq : Int × Int, w.cell? ((⟨b, off, spot⟩ : Addr).add (i * 2)) = some (.int .u16 pq.1) ∧ w.cell? (((⟨b, off, spot⟩ : Addr).add (i * 2)).add 1) = some (.int .u16 pq.2) ∧ 0 ≤ pq.1 ∧ pq.1 < 65536 ∧ 0 ≤ pq.2 ∧ pq.2 < 65536 := by
      intro i hi
      obtain ⟨cs, h1, h2⟩ := hx i (by omega)
      rw [hC] at h1
      obtain ⟨_, hlen, hcell⟩ := World.cells?_some h1
      obtain ⟨xs, m', _, _, _, hxs, hel⟩ := DataW.trod_array Try.underlying32 h2
      match cs, hlen with
      | [c0, c1], _ =>
        have e0 := hel 0 (by omega)
        have e1 := hel 1 (by omega)
        rw [hC1] at e0 e1
        simp at e0 e1
        rw [List.getElem?_eq_getElem (by omega)] at e0 e1
        obtain ⟨p, hp, _, wp⟩ := DataW.trod_int Try.underlying31 e0
        obtain ⟨q, hq, _, wq⟩ := DataW.trod_int Try.underlying31 e1
        simp at hp hq
        subst hp hq
        have k0 := hcell 0 (by omega)
        have k1 := hcell 1 (by omega)
        simp [Addr.add] at k0 k1
        have b0 := u16_of_wf wp
        have b1 := u16_of_wf wq
        exact ⟨(p, q), by simpa [Addr.add] using k0, by simpa [Addr.add] using k1, b0.1, b0.2, b1.1, b1.2⟩
    obtain ⟨f, hfn⟩ := Deep.choose_lt (α := Int × Int) (p := fun i pq => w.cell? ((⟨b, off, spot⟩ : Addr).add (i * 2)) = some (.int .u16 pq.1) ∧ w.cell? (((⟨b, off, spot⟩ : Addr).add (i * 2)).add 1) = some (.int .u16 pq.2) ∧ 0 ≤ pq.1 ∧ pq.1 < 65536 ∧ 0 ≤ pq.2 ∧ pq.2 < 65536) el
    have hspot : spot = none := by simpa [Addr.add] using World.cell?_spot (hfn 0 (by omega)).1
    subst hspot
    refine ⟨b, off, fun i => (f i).1, fun i => (f i).2, rfl, fun i hi => ?_⟩
    obtain ⟨g1, g2, g3⟩ := hfn i hi
    rw [Go.WideShapes.add_plain] at g1 g2
    rw [Go.WideShapes.add_plain] at g2
    exact ⟨g1, g2, g3⟩

theorem roundOne_walk {H : Type} {enc : TypeId × Value → H} (v : Value) (d : DataW H) (ps : List MemPlace) (w : World) {b0 : Nat} (hv : Value.okWide Try.prog w .any b0 30 v) (hk : DataW.Trod enc Try.prog w 0 (fun _ => true) true 30 v d ps) :
    Calls Try.prog 4 #[v] w fun e w' => e = .returned (.bool true) ∧ Below w.heap.size w w' := by
  obtain ⟨a, len, cap, rfl, hm, h⟩ := pairs_of hv hk
  rcases h with rfl | ⟨b, off, p, q, rfl, hc⟩
  · exact roundOne_zero a cap w
  · by_cases hl : len ≤ 500
    · exact roundOne_some b off len cap p q w hl hc
    · exact roundOne_long _ len cap w (by omega) hm
end Go.Proofs.Ytommldjoehjijaa
