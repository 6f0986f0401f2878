/-
  THE WALKS of package clock (chapter 4) and of the reference's functions.
-/
import Derived.Test.YtlapahbnjndagaaSatWalks
import Derived.Test.YtlapahbnjndagaaInts
namespace Go.Proofs.Ytlapahbnjndagaa
open Go.RowKit

theorem after_any (a b : Int) (ha : Word a) (hb : Word b) (w : World) :
    Calls Try.prog 34 #[.int .u64 a, .int .u64 b] w fun e w' => e = .returned (.int .u64 (addI a b)) ∧ w = w' := by
  go_enter Try.func34, Try.ntmps34
  go_wp2_with fail
  refine (add_any _ _ ha hb _).mono ?_; rintro e w' ⟨rfl, rfl⟩
  go_wp2_with fail
  go_ret
  exact ⟨rfl, rfl⟩
def dueB (now at_ : Int) : Bool := (at_ != 18446744073709551615) && decide (at_ ≤ now)
def backI (d n most : Int) : Int := min (shlI d n) most
theorem back_any (d n most : Int) (hd : Word d) (hn : n ≤ 9223372036854775807) (w : World) :
    Calls Try.prog 35 #[.int .u64 d, .int .i64 n, .int .u64 most] w fun e w' => e = .returned (.int .u64 (backI d n most)) ∧ w = w' := by
  go_enter Try.func35, Try.ntmps35
  go_wp2_with fail
  refine (shl_any _ _ hd hn _).mono ?_; rintro e w' ⟨rfl, rfl⟩
  go_wp2_with fail
  go_ret
  exact ⟨rfl, rfl⟩
theorem back1_any (d n most : Int) (hd : Word d) (hn : n ≤ 9223372036854775807) (w : World) :
    Calls Try.prog 36 #[.int .u64 d, .int .i64 n, .int .u64 most] w fun e w' => e = .returned (.int .u64 (backI d n most)) ∧ w = w' := by
  go_enter Try.func36, Try.ntmps36
  go_wp2_with fail
  refine (shl1_any _ _ hd hn _).mono ?_; rintro e w' ⟨rfl, rfl⟩
  go_wp2_with fail
  go_ret
  exact ⟨rfl, rfl⟩

/-- The least of a list; the greatest word of none. -/
def firstL (zs : List Int) : Int := zs.foldl min 18446744073709551615
theorem firstL_snoc (zs : List Int) (x : Int) : firstL (zs ++ [x]) = min (firstL zs) x := by unfold firstL; rw [List.foldl_append]; rfl

end Go.Proofs.Ytlapahbnjndagaa
