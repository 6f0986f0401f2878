/-
  No cell of these rows narrows 'for every input' (looked for: loops, veiled, ifaces, maps, wideKeys, modest, calm, conditions, laid).
  DERIVED. THE GIVEN ROWS OF THIS SEAT. 10 by the template 'for every input the law returns true; each argument reads behind the call as it read before'; 0 by the template 'total and deterministic' (their statements: YtnaofmiefghhkaaTotals.lean).
  GIVEN WITH THE SEED: the statements are not yours to turn. If you find one false, say at which input.
  Laid BY PROGRAM, IN A SANDBOX (cutbox-rows.mjs): the forced cells as the released guide's own fill.sh prints them over the translation 6c52e00011608dcf… (all of the seat's roots in one cut). By AI agents, Wed Nov 11 2026. No macro, syntax, notation, axiom, sorry.
-/
import Derived.Test.YtnaofmiefghhkaaChecked
import GoSem.Claim
import GoSem.ClaimJoined
import GoSem.ClaimMapViews
import Derived.JoinedTies
import Derived.KernelRfl
namespace Go.Proofs.Ytnaofmiefghhkaa
/- THE CELL 'sum', in the pinned program and in every row, IS THE sha256 OF THE DUMP (.gsa) THAT YtnaofmiefghhkaaProg.lean LOADS. Nothing in Lean hashes anything: it is a label: what it is worth is what the hold of that sum in a sandbox is worth. -/
noncomputable def Try.pinned : Pinned := { name := "ytnaofmiefghhkaa", sum := "6c52e00011608dcf5f7e685c4d906cca1e4e87a5fb78dd4758d6c36d07d3e027", checked := Try.checked }
namespace Rows
def none {H : Type} : Left H := { results := [], args := [] }

/-- 'splittallylaw15.BudgetTells': WHATEVER THE INPUT: true; the input reads as it did. -/
def budgetTellsSpec : ChangeSpec := { name := "budgetTells", fn := fun _ => fun
  | [d1, d2, d3] => { results := [.lit (.bool true)], args := [d1, d2, d3] }
  | _ => none }
def budgetTellsRow : OpenClaim := { program := "ytnaofmiefghhkaa", sum := "6c52e00011608dcf5f7e685c4d906cca1e4e87a5fb78dd4758d6c36d07d3e027", func := "splittally/splittallylaw15.BudgetTells", spec := "budgetTells", apart := false }
def BudgetTellsSaid : Prop := budgetTellsRow.holds Try.pinned (OpenSpec.ofChange budgetTellsSpec)

/-- ITS FALSE NEIGHBOUR: 'it returns false'. Refute it at one input. -/
def budgetTellsWrong : ChangeSpec := { name := "budgetTells", fn := fun _ => fun
  | [d1, d2, d3] => { results := [.lit (.bool false)], args := [d1, d2, d3] }
  | _ => none }
def BudgetTellsWrongFalsely : Prop := budgetTellsRow.holds Try.pinned (OpenSpec.ofChange budgetTellsWrong)

/-- 'splittallylaw15.BudgetHolds': WHATEVER THE INPUT: true; the input reads as it did. -/
def budgetHoldsSpec : ChangeSpec := { name := "budgetHolds", fn := fun _ => fun
  | [d1, d2, d3, d4] => { results := [.lit (.bool true)], args := [d1, d2, d3, d4] }
  | _ => none }
def budgetHoldsRow : OpenClaim := { program := "ytnaofmiefghhkaa", sum := "6c52e00011608dcf5f7e685c4d906cca1e4e87a5fb78dd4758d6c36d07d3e027", func := "splittally/splittallylaw15.BudgetHolds", spec := "budgetHolds", apart := false }
def BudgetHoldsSaid : Prop := budgetHoldsRow.holds Try.pinned (OpenSpec.ofChange budgetHoldsSpec)

/-- ITS FALSE NEIGHBOUR: 'it returns false'. Refute it at one input. -/
def budgetHoldsWrong : ChangeSpec := { name := "budgetHolds", fn := fun _ => fun
  | [d1, d2, d3, d4] => { results := [.lit (.bool false)], args := [d1, d2, d3, d4] }
  | _ => none }
def BudgetHoldsWrongFalsely : Prop := budgetHoldsRow.holds Try.pinned (OpenSpec.ofChange budgetHoldsWrong)

/-- 'splittallylaw15.BudgetRests': WHATEVER THE INPUT: true; the input reads as it did. -/
def budgetRestsSpec : ChangeSpec := { name := "budgetRests", fn := fun _ => fun
  | [d1, d2, d3] => { results := [.lit (.bool true)], args := [d1, d2, d3] }
  | _ => none }
def budgetRestsRow : OpenClaim := { program := "ytnaofmiefghhkaa", sum := "6c52e00011608dcf5f7e685c4d906cca1e4e87a5fb78dd4758d6c36d07d3e027", func := "splittally/splittallylaw15.BudgetRests", spec := "budgetRests", apart := false }
def BudgetRestsSaid : Prop := budgetRestsRow.holds Try.pinned (OpenSpec.ofChange budgetRestsSpec)

/-- ITS FALSE NEIGHBOUR: 'it returns false'. Refute it at one input. -/
def budgetRestsWrong : ChangeSpec := { name := "budgetRests", fn := fun _ => fun
  | [d1, d2, d3] => { results := [.lit (.bool false)], args := [d1, d2, d3] }
  | _ => none }
def BudgetRestsWrongFalsely : Prop := budgetRestsRow.holds Try.pinned (OpenSpec.ofChange budgetRestsWrong)

/-- 'splittallylaw15.BudgetForks': WHATEVER THE INPUT: true; the input reads as it did. -/
def budgetForksSpec : ChangeSpec := { name := "budgetForks", fn := fun _ => fun
  | [d1, d2, d3, d4] => { results := [.lit (.bool true)], args := [d1, d2, d3, d4] }
  | _ => none }
def budgetForksRow : OpenClaim := { program := "ytnaofmiefghhkaa", sum := "6c52e00011608dcf5f7e685c4d906cca1e4e87a5fb78dd4758d6c36d07d3e027", func := "splittally/splittallylaw15.BudgetForks", spec := "budgetForks", apart := false }
def BudgetForksSaid : Prop := budgetForksRow.holds Try.pinned (OpenSpec.ofChange budgetForksSpec)

/-- ITS FALSE NEIGHBOUR: 'it returns false'. Refute it at one input. -/
def budgetForksWrong : ChangeSpec := { name := "budgetForks", fn := fun _ => fun
  | [d1, d2, d3, d4] => { results := [.lit (.bool false)], args := [d1, d2, d3, d4] }
  | _ => none }
def BudgetForksWrongFalsely : Prop := budgetForksRow.holds Try.pinned (OpenSpec.ofChange budgetForksWrong)

/-- 'splittallylaw4.ClockTells': WHATEVER THE INPUT: true; the input reads as it did. -/
def clockTellsSpec : ChangeSpec := { name := "clockTells", fn := fun _ => fun
  | [d1, d2, d3, d4] => { results := [.lit (.bool true)], args := [d1, d2, d3, d4] }
  | _ => none }
def clockTellsRow : OpenClaim := { program := "ytnaofmiefghhkaa", sum := "6c52e00011608dcf5f7e685c4d906cca1e4e87a5fb78dd4758d6c36d07d3e027", func := "splittally/splittallylaw4.ClockTells", spec := "clockTells", inPlace := ["math/bits.Add64"], apart := false }
def ClockTellsSaid : Prop := clockTellsRow.holds Try.pinned (OpenSpec.ofChange clockTellsSpec)

/-- ITS FALSE NEIGHBOUR: 'it returns false'. Refute it at one input. -/
def clockTellsWrong : ChangeSpec := { name := "clockTells", fn := fun _ => fun
  | [d1, d2, d3, d4] => { results := [.lit (.bool false)], args := [d1, d2, d3, d4] }
  | _ => none }
def ClockTellsWrongFalsely : Prop := clockTellsRow.holds Try.pinned (OpenSpec.ofChange clockTellsWrong)

/-- 'splittallylaw4.ClockFirst': WHATEVER THE INPUT: true; the input reads as it did. -/
def clockFirstSpec : ChangeSpec := { name := "clockFirst", fn := fun _ => fun
  | [d] => { results := [.lit (.bool true)], args := [d] }
  | _ => none }
def clockFirstRow : OpenClaim := { program := "ytnaofmiefghhkaa", sum := "6c52e00011608dcf5f7e685c4d906cca1e4e87a5fb78dd4758d6c36d07d3e027", func := "splittally/splittallylaw4.ClockFirst", spec := "clockFirst", inPlace := ["math/bits.Add64"], apart := false }
def ClockFirstSaid : Prop := clockFirstRow.holds Try.pinned (OpenSpec.ofChange clockFirstSpec)

/-- ITS FALSE NEIGHBOUR: 'it returns false'. Refute it at one input. -/
def clockFirstWrong : ChangeSpec := { name := "clockFirst", fn := fun _ => fun
  | [d] => { results := [.lit (.bool false)], args := [d] }
  | _ => none }
def ClockFirstWrongFalsely : Prop := clockFirstRow.holds Try.pinned (OpenSpec.ofChange clockFirstWrong)

/-- 'splittallylaw4.ClockJoins': WHATEVER THE INPUT: true; the input reads as it did. -/
def clockJoinsSpec : ChangeSpec := { name := "clockJoins", fn := fun _ => fun
  | [d1, d2] => { results := [.lit (.bool true)], args := [d1, d2] }
  | _ => none }
def clockJoinsRow : OpenClaim := { program := "ytnaofmiefghhkaa", sum := "6c52e00011608dcf5f7e685c4d906cca1e4e87a5fb78dd4758d6c36d07d3e027", func := "splittally/splittallylaw4.ClockJoins", spec := "clockJoins", inPlace := ["math/bits.Add64"], apart := false }
def ClockJoinsSaid : Prop := clockJoinsRow.holds Try.pinned (OpenSpec.ofChange clockJoinsSpec)

/-- ITS FALSE NEIGHBOUR: 'it returns false'. Refute it at one input. -/
def clockJoinsWrong : ChangeSpec := { name := "clockJoins", fn := fun _ => fun
  | [d1, d2] => { results := [.lit (.bool false)], args := [d1, d2] }
  | _ => none }
def ClockJoinsWrongFalsely : Prop := clockJoinsRow.holds Try.pinned (OpenSpec.ofChange clockJoinsWrong)

/-- 'splittallylaw4.ClockStays': WHATEVER THE INPUT: true; the input reads as it did. -/
def clockStaysSpec : ChangeSpec := { name := "clockStays", fn := fun _ => fun
  | [d1, d2, d3, d4] => { results := [.lit (.bool true)], args := [d1, d2, d3, d4] }
  | _ => none }
def clockStaysRow : OpenClaim := { program := "ytnaofmiefghhkaa", sum := "6c52e00011608dcf5f7e685c4d906cca1e4e87a5fb78dd4758d6c36d07d3e027", func := "splittally/splittallylaw4.ClockStays", spec := "clockStays", inPlace := ["math/bits.Add64"], apart := false }
def ClockStaysSaid : Prop := clockStaysRow.holds Try.pinned (OpenSpec.ofChange clockStaysSpec)

/-- ITS FALSE NEIGHBOUR: 'it returns false'. Refute it at one input. -/
def clockStaysWrong : ChangeSpec := { name := "clockStays", fn := fun _ => fun
  | [d1, d2, d3, d4] => { results := [.lit (.bool false)], args := [d1, d2, d3, d4] }
  | _ => none }
def ClockStaysWrongFalsely : Prop := clockStaysRow.holds Try.pinned (OpenSpec.ofChange clockStaysWrong)

/-- 'splittallylaw4.ClockBacksOff': WHATEVER THE INPUT: true; the input reads as it did. -/
def clockBacksOffSpec : ChangeSpec := { name := "clockBacksOff", fn := fun _ => fun
  | [d1, d2, d3] => { results := [.lit (.bool true)], args := [d1, d2, d3] }
  | _ => none }
def clockBacksOffRow : OpenClaim := { program := "ytnaofmiefghhkaa", sum := "6c52e00011608dcf5f7e685c4d906cca1e4e87a5fb78dd4758d6c36d07d3e027", func := "splittally/splittallylaw4.ClockBacksOff", spec := "clockBacksOff", inPlace := ["math/bits.Add64"], apart := false }
def ClockBacksOffSaid : Prop := clockBacksOffRow.holds Try.pinned (OpenSpec.ofChange clockBacksOffSpec)

/-- ITS FALSE NEIGHBOUR: 'it returns false'. Refute it at one input. -/
def clockBacksOffWrong : ChangeSpec := { name := "clockBacksOff", fn := fun _ => fun
  | [d1, d2, d3] => { results := [.lit (.bool false)], args := [d1, d2, d3] }
  | _ => none }
def ClockBacksOffWrongFalsely : Prop := clockBacksOffRow.holds Try.pinned (OpenSpec.ofChange clockBacksOffWrong)

/-- 'splittallylaw4.ClockDoubles': WHATEVER THE INPUT: true; the input reads as it did. -/
def clockDoublesSpec : ChangeSpec := { name := "clockDoubles", fn := fun _ => fun
  | [d1, d2, d3] => { results := [.lit (.bool true)], args := [d1, d2, d3] }
  | _ => none }
def clockDoublesRow : OpenClaim := { program := "ytnaofmiefghhkaa", sum := "6c52e00011608dcf5f7e685c4d906cca1e4e87a5fb78dd4758d6c36d07d3e027", func := "splittally/splittallylaw4.ClockDoubles", spec := "clockDoubles", inPlace := ["math/bits.Add64"], apart := false }
def ClockDoublesSaid : Prop := clockDoublesRow.holds Try.pinned (OpenSpec.ofChange clockDoublesSpec)

/-- ITS FALSE NEIGHBOUR: 'it returns false'. Refute it at one input. -/
def clockDoublesWrong : ChangeSpec := { name := "clockDoubles", fn := fun _ => fun
  | [d1, d2, d3] => { results := [.lit (.bool false)], args := [d1, d2, d3] }
  | _ => none }
def ClockDoublesWrongFalsely : Prop := clockDoublesRow.holds Try.pinned (OpenSpec.ofChange clockDoublesWrong)

/- THE SECOND FORM. 'bulk': how many values and letters a reading holds, each counted each time it is reached (what is shared counts as often as it is met; a slice's spare places count too). A statement '..UptoSaid' is the law's where the arguments, and the package variables that the reading takes, are together of bulk at most 1048576: NARROWER than '..Said'. Prove '..Said' where nothing that the law and all that it calls make is longer than what came in: it says more and counts as full. Else prove '..UptoSaid'. A law counts once. -/
mutual
def uptoBulk {H : Type} : DataW H → Nat
  | .lit (.string bytes) => bytes.length + 1
  | .lit _ => 1
  | .nil => 1
  | .ptr d => uptoBulk d + 1
  | .slice elems spare => uptoBulkAll elems + uptoBulkAll spare + 1
  | .agg parts => uptoBulkAll parts + 1
  | .iface _ d => uptoBulk d + 1
  | .map entries => uptoBulkEntries entries + 1
  | .held _ => 1
def uptoBulkAll {H : Type} : List (DataW H) → Nat
  | [] => 0
  | d :: r => uptoBulk d + uptoBulkAll r
def uptoBulkEntries {H : Type} : List (Lit × DataW H) → Nat
  | [] => 0
  | x :: r => uptoBulkEntry x + uptoBulkEntries r
def uptoBulkEntry {H : Type} : Lit × DataW H → Nat
  | (.string bytes, d) => bytes.length + uptoBulk d + 1
  | (_, d) => uptoBulk d + 1
 end
def uptoSmall : (H : Type) → List (DataW H) → Bool := fun _ ds => decide (uptoBulkAll ds ≤ 1048576)
def OpenSpec.upto (s : _root_.Go.ChangeSpec) : _root_.Go.OpenSpec := { _root_.Go.OpenSpec.ofChange s with cond := some uptoSmall }

/-- 'splittallylaw15.BudgetTells', WHERE WHAT IT READS IS OF BULK AT MOST 1048576: true; the input reads as it did. -/
def budgetTellsUptoRow : OpenClaim := { program := "ytnaofmiefghhkaa", sum := "6c52e00011608dcf5f7e685c4d906cca1e4e87a5fb78dd4758d6c36d07d3e027", func := "splittally/splittallylaw15.BudgetTells", spec := "budgetTells", apart := false, narrowed := true }
def BudgetTellsUptoSaid : Prop := budgetTellsUptoRow.holds Try.pinned (OpenSpec.upto budgetTellsSpec)

/-- 'splittallylaw15.BudgetHolds', WHERE WHAT IT READS IS OF BULK AT MOST 1048576: true; the input reads as it did. -/
def budgetHoldsUptoRow : OpenClaim := { program := "ytnaofmiefghhkaa", sum := "6c52e00011608dcf5f7e685c4d906cca1e4e87a5fb78dd4758d6c36d07d3e027", func := "splittally/splittallylaw15.BudgetHolds", spec := "budgetHolds", apart := false, narrowed := true }
def BudgetHoldsUptoSaid : Prop := budgetHoldsUptoRow.holds Try.pinned (OpenSpec.upto budgetHoldsSpec)

/-- 'splittallylaw15.BudgetRests', WHERE WHAT IT READS IS OF BULK AT MOST 1048576: true; the input reads as it did. -/
def budgetRestsUptoRow : OpenClaim := { program := "ytnaofmiefghhkaa", sum := "6c52e00011608dcf5f7e685c4d906cca1e4e87a5fb78dd4758d6c36d07d3e027", func := "splittally/splittallylaw15.BudgetRests", spec := "budgetRests", apart := false, narrowed := true }
def BudgetRestsUptoSaid : Prop := budgetRestsUptoRow.holds Try.pinned (OpenSpec.upto budgetRestsSpec)

/-- 'splittallylaw15.BudgetForks', WHERE WHAT IT READS IS OF BULK AT MOST 1048576: true; the input reads as it did. -/
def budgetForksUptoRow : OpenClaim := { program := "ytnaofmiefghhkaa", sum := "6c52e00011608dcf5f7e685c4d906cca1e4e87a5fb78dd4758d6c36d07d3e027", func := "splittally/splittallylaw15.BudgetForks", spec := "budgetForks", apart := false, narrowed := true }
def BudgetForksUptoSaid : Prop := budgetForksUptoRow.holds Try.pinned (OpenSpec.upto budgetForksSpec)

/-- 'splittallylaw4.ClockTells', WHERE WHAT IT READS IS OF BULK AT MOST 1048576: true; the input reads as it did. -/
def clockTellsUptoRow : OpenClaim := { program := "ytnaofmiefghhkaa", sum := "6c52e00011608dcf5f7e685c4d906cca1e4e87a5fb78dd4758d6c36d07d3e027", func := "splittally/splittallylaw4.ClockTells", spec := "clockTells", inPlace := ["math/bits.Add64"], apart := false, narrowed := true }
def ClockTellsUptoSaid : Prop := clockTellsUptoRow.holds Try.pinned (OpenSpec.upto clockTellsSpec)

/-- 'splittallylaw4.ClockFirst', WHERE WHAT IT READS IS OF BULK AT MOST 1048576: true; the input reads as it did. -/
def clockFirstUptoRow : OpenClaim := { program := "ytnaofmiefghhkaa", sum := "6c52e00011608dcf5f7e685c4d906cca1e4e87a5fb78dd4758d6c36d07d3e027", func := "splittally/splittallylaw4.ClockFirst", spec := "clockFirst", inPlace := ["math/bits.Add64"], apart := false, narrowed := true }
def ClockFirstUptoSaid : Prop := clockFirstUptoRow.holds Try.pinned (OpenSpec.upto clockFirstSpec)

/-- 'splittallylaw4.ClockJoins', WHERE WHAT IT READS IS OF BULK AT MOST 1048576: true; the input reads as it did. -/
def clockJoinsUptoRow : OpenClaim := { program := "ytnaofmiefghhkaa", sum := "6c52e00011608dcf5f7e685c4d906cca1e4e87a5fb78dd4758d6c36d07d3e027", func := "splittally/splittallylaw4.ClockJoins", spec := "clockJoins", inPlace := ["math/bits.Add64"], apart := false, narrowed := true }
def ClockJoinsUptoSaid : Prop := clockJoinsUptoRow.holds Try.pinned (OpenSpec.upto clockJoinsSpec)

/-- 'splittallylaw4.ClockStays', WHERE WHAT IT READS IS OF BULK AT MOST 1048576: true; the input reads as it did. -/
def clockStaysUptoRow : OpenClaim := { program := "ytnaofmiefghhkaa", sum := "6c52e00011608dcf5f7e685c4d906cca1e4e87a5fb78dd4758d6c36d07d3e027", func := "splittally/splittallylaw4.ClockStays", spec := "clockStays", inPlace := ["math/bits.Add64"], apart := false, narrowed := true }
def ClockStaysUptoSaid : Prop := clockStaysUptoRow.holds Try.pinned (OpenSpec.upto clockStaysSpec)

/-- 'splittallylaw4.ClockBacksOff', WHERE WHAT IT READS IS OF BULK AT MOST 1048576: true; the input reads as it did. -/
def clockBacksOffUptoRow : OpenClaim := { program := "ytnaofmiefghhkaa", sum := "6c52e00011608dcf5f7e685c4d906cca1e4e87a5fb78dd4758d6c36d07d3e027", func := "splittally/splittallylaw4.ClockBacksOff", spec := "clockBacksOff", inPlace := ["math/bits.Add64"], apart := false, narrowed := true }
def ClockBacksOffUptoSaid : Prop := clockBacksOffUptoRow.holds Try.pinned (OpenSpec.upto clockBacksOffSpec)

/-- 'splittallylaw4.ClockDoubles', WHERE WHAT IT READS IS OF BULK AT MOST 1048576: true; the input reads as it did. -/
def clockDoublesUptoRow : OpenClaim := { program := "ytnaofmiefghhkaa", sum := "6c52e00011608dcf5f7e685c4d906cca1e4e87a5fb78dd4758d6c36d07d3e027", func := "splittally/splittallylaw4.ClockDoubles", spec := "clockDoubles", inPlace := ["math/bits.Add64"], apart := false, narrowed := true }
def ClockDoublesUptoSaid : Prop := clockDoublesUptoRow.holds Try.pinned (OpenSpec.upto clockDoublesSpec)

end Rows
end Go.Proofs.Ytnaofmiefghhkaa
