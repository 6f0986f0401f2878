/-
  No cell of these rows narrows 'for every input' (looked for: loops, veiled, ifaces, maps, wideKeys, modest, calm, conditions, laid).
  DERIVED. THE GIVEN ROWS OF THIS SEAT. 5 by the template 'for every input the law returns true; each argument reads behind the call as it read before'; 0 by the template 'total and deterministic' (their statements: YtdnbaapgejdghaaTotals.lean).
  GIVEN WITH THE SEED: the statements are not yours to turn. If you find one false, say at which input.
  Laid BY PROGRAM, IN A SANDBOX (cutbox-rows.mjs): the forced cells as the released guide's own fill.sh prints them over the translation 9f03a9f4e4aa72b0… (all of the seat's roots in one cut). By AI agents, Wed Nov 11 2026. No macro, syntax, notation, axiom, sorry.
-/
import Derived.Test.YtdnbaapgejdghaaChecked
import GoSem.Claim
import GoSem.ClaimJoined
import GoSem.ClaimMapViews
import Derived.JoinedTies
import Derived.KernelRfl
namespace Go.Proofs.Ytdnbaapgejdghaa
/- THE CELL 'sum', in the pinned program and in every row, IS THE sha256 OF THE DUMP (.gsa) THAT YtdnbaapgejdghaaProg.lean LOADS. Nothing in Lean hashes anything: it is a label: what it is worth is what the hold of that sum in a sandbox is worth. -/
noncomputable def Try.pinned : Pinned := { name := "ytdnbaapgejdghaa", sum := "9f03a9f4e4aa72b09908faf02e17c818f204ae3763cd54712f04c60e457d2cd7", checked := Try.checked }
namespace Rows
def none {H : Type} : Left H := { results := [], args := [] }

/-- 'splittallylaw3.RootTells': WHATEVER THE INPUT: true; the input reads as it did. -/
def rootTellsSpec : ChangeSpec := { name := "rootTells", fn := fun _ => fun
  | [d1, d2] => { results := [.lit (.bool true)], args := [d1, d2] }
  | _ => none }
def rootTellsRow : OpenClaim := { program := "ytdnbaapgejdghaa", sum := "9f03a9f4e4aa72b09908faf02e17c818f204ae3763cd54712f04c60e457d2cd7", func := "splittally/splittallylaw3.RootTells", spec := "rootTells", apart := false }
def RootTellsSaid : Prop := rootTellsRow.holds Try.pinned (OpenSpec.ofChange rootTellsSpec)

/-- ITS FALSE NEIGHBOUR: 'it returns false'. Refute it at one input. -/
def rootTellsWrong : ChangeSpec := { name := "rootTells", fn := fun _ => fun
  | [d1, d2] => { results := [.lit (.bool false)], args := [d1, d2] }
  | _ => none }
def RootTellsWrongFalsely : Prop := rootTellsRow.holds Try.pinned (OpenSpec.ofChange rootTellsWrong)

/-- 'splittallylaw3.RootBelow': WHATEVER THE INPUT: true; the input reads as it did. -/
def rootBelowSpec : ChangeSpec := { name := "rootBelow", fn := fun _ => fun
  | [d1, d2, d3] => { results := [.lit (.bool true)], args := [d1, d2, d3] }
  | _ => none }
def rootBelowRow : OpenClaim := { program := "ytdnbaapgejdghaa", sum := "9f03a9f4e4aa72b09908faf02e17c818f204ae3763cd54712f04c60e457d2cd7", func := "splittally/splittallylaw3.RootBelow", spec := "rootBelow", apart := false }
def RootBelowSaid : Prop := rootBelowRow.holds Try.pinned (OpenSpec.ofChange rootBelowSpec)

/-- ITS FALSE NEIGHBOUR: 'it returns false'. Refute it at one input. -/
def rootBelowWrong : ChangeSpec := { name := "rootBelow", fn := fun _ => fun
  | [d1, d2, d3] => { results := [.lit (.bool false)], args := [d1, d2, d3] }
  | _ => none }
def RootBelowWrongFalsely : Prop := rootBelowRow.holds Try.pinned (OpenSpec.ofChange rootBelowWrong)

/-- 'splittallylaw3.RootBetween': WHATEVER THE INPUT: true; the input reads as it did. -/
def rootBetweenSpec : ChangeSpec := { name := "rootBetween", fn := fun _ => fun
  | [d1, d2] => { results := [.lit (.bool true)], args := [d1, d2] }
  | _ => none }
def rootBetweenRow : OpenClaim := { program := "ytdnbaapgejdghaa", sum := "9f03a9f4e4aa72b09908faf02e17c818f204ae3763cd54712f04c60e457d2cd7", func := "splittally/splittallylaw3.RootBetween", spec := "rootBetween", apart := false }
def RootBetweenSaid : Prop := rootBetweenRow.holds Try.pinned (OpenSpec.ofChange rootBetweenSpec)

/-- ITS FALSE NEIGHBOUR: 'it returns false'. Refute it at one input. -/
def rootBetweenWrong : ChangeSpec := { name := "rootBetween", fn := fun _ => fun
  | [d1, d2] => { results := [.lit (.bool false)], args := [d1, d2] }
  | _ => none }
def RootBetweenWrongFalsely : Prop := rootBetweenRow.holds Try.pinned (OpenSpec.ofChange rootBetweenWrong)

/-- 'splittallylaw3.RootCubes': WHATEVER THE INPUT: true; the input reads as it did. -/
def rootCubesSpec : ChangeSpec := { name := "rootCubes", fn := fun _ => fun
  | [d] => { results := [.lit (.bool true)], args := [d] }
  | _ => none }
def rootCubesRow : OpenClaim := { program := "ytdnbaapgejdghaa", sum := "9f03a9f4e4aa72b09908faf02e17c818f204ae3763cd54712f04c60e457d2cd7", func := "splittally/splittallylaw3.RootCubes", spec := "rootCubes", apart := false }
def RootCubesSaid : Prop := rootCubesRow.holds Try.pinned (OpenSpec.ofChange rootCubesSpec)

/-- ITS FALSE NEIGHBOUR: 'it returns false'. Refute it at one input. -/
def rootCubesWrong : ChangeSpec := { name := "rootCubes", fn := fun _ => fun
  | [d] => { results := [.lit (.bool false)], args := [d] }
  | _ => none }
def RootCubesWrongFalsely : Prop := rootCubesRow.holds Try.pinned (OpenSpec.ofChange rootCubesWrong)

/-- 'splittallylaw3.RootRises': WHATEVER THE INPUT: true; the input reads as it did. -/
def rootRisesSpec : ChangeSpec := { name := "rootRises", fn := fun _ => fun
  | [d1, d2] => { results := [.lit (.bool true)], args := [d1, d2] }
  | _ => none }
def rootRisesRow : OpenClaim := { program := "ytdnbaapgejdghaa", sum := "9f03a9f4e4aa72b09908faf02e17c818f204ae3763cd54712f04c60e457d2cd7", func := "splittally/splittallylaw3.RootRises", spec := "rootRises", apart := false }
def RootRisesSaid : Prop := rootRisesRow.holds Try.pinned (OpenSpec.ofChange rootRisesSpec)

/-- ITS FALSE NEIGHBOUR: 'it returns false'. Refute it at one input. -/
def rootRisesWrong : ChangeSpec := { name := "rootRises", fn := fun _ => fun
  | [d1, d2] => { results := [.lit (.bool false)], args := [d1, d2] }
  | _ => none }
def RootRisesWrongFalsely : Prop := rootRisesRow.holds Try.pinned (OpenSpec.ofChange rootRisesWrong)

/- THE SECOND FORM. 'bulk': how many values and letters a reading holds, each counted each time it is reached (what is shared counts as often as it is met; a slice's spare places count too). A statement '..UptoSaid' is the law's where the arguments, and the package variables that the reading takes, are together of bulk at most 1048576: NARROWER than '..Said'. Prove '..Said' where nothing that the law and all that it calls make is longer than what came in: it says more and counts as full. Else prove '..UptoSaid'. A law counts once. -/
mutual
def uptoBulk {H : Type} : DataW H → Nat
  | .lit (.string bytes) => bytes.length + 1
  | .lit _ => 1
  | .nil => 1
  | .ptr d => uptoBulk d + 1
  | .slice elems spare => uptoBulkAll elems + uptoBulkAll spare + 1
  | .agg parts => uptoBulkAll parts + 1
  | .iface _ d => uptoBulk d + 1
  | .map entries => uptoBulkEntries entries + 1
  | .held _ => 1
def uptoBulkAll {H : Type} : List (DataW H) → Nat
  | [] => 0
  | d :: r => uptoBulk d + uptoBulkAll r
def uptoBulkEntries {H : Type} : List (Lit × DataW H) → Nat
  | [] => 0
  | x :: r => uptoBulkEntry x + uptoBulkEntries r
def uptoBulkEntry {H : Type} : Lit × DataW H → Nat
  | (.string bytes, d) => bytes.length + uptoBulk d + 1
  | (_, d) => uptoBulk d + 1
 end
def uptoSmall : (H : Type) → List (DataW H) → Bool := fun _ ds => decide (uptoBulkAll ds ≤ 1048576)
def OpenSpec.upto (s : _root_.Go.ChangeSpec) : _root_.Go.OpenSpec := { _root_.Go.OpenSpec.ofChange s with cond := some uptoSmall }

/-- 'splittallylaw3.RootTells', WHERE WHAT IT READS IS OF BULK AT MOST 1048576: true; the input reads as it did. -/
def rootTellsUptoRow : OpenClaim := { program := "ytdnbaapgejdghaa", sum := "9f03a9f4e4aa72b09908faf02e17c818f204ae3763cd54712f04c60e457d2cd7", func := "splittally/splittallylaw3.RootTells", spec := "rootTells", apart := false, narrowed := true }
def RootTellsUptoSaid : Prop := rootTellsUptoRow.holds Try.pinned (OpenSpec.upto rootTellsSpec)

/-- 'splittallylaw3.RootBelow', WHERE WHAT IT READS IS OF BULK AT MOST 1048576: true; the input reads as it did. -/
def rootBelowUptoRow : OpenClaim := { program := "ytdnbaapgejdghaa", sum := "9f03a9f4e4aa72b09908faf02e17c818f204ae3763cd54712f04c60e457d2cd7", func := "splittally/splittallylaw3.RootBelow", spec := "rootBelow", apart := false, narrowed := true }
def RootBelowUptoSaid : Prop := rootBelowUptoRow.holds Try.pinned (OpenSpec.upto rootBelowSpec)

/-- 'splittallylaw3.RootBetween', WHERE WHAT IT READS IS OF BULK AT MOST 1048576: true; the input reads as it did. -/
def rootBetweenUptoRow : OpenClaim := { program := "ytdnbaapgejdghaa", sum := "9f03a9f4e4aa72b09908faf02e17c818f204ae3763cd54712f04c60e457d2cd7", func := "splittally/splittallylaw3.RootBetween", spec := "rootBetween", apart := false, narrowed := true }
def RootBetweenUptoSaid : Prop := rootBetweenUptoRow.holds Try.pinned (OpenSpec.upto rootBetweenSpec)

/-- 'splittallylaw3.RootCubes', WHERE WHAT IT READS IS OF BULK AT MOST 1048576: true; the input reads as it did. -/
def rootCubesUptoRow : OpenClaim := { program := "ytdnbaapgejdghaa", sum := "9f03a9f4e4aa72b09908faf02e17c818f204ae3763cd54712f04c60e457d2cd7", func := "splittally/splittallylaw3.RootCubes", spec := "rootCubes", apart := false, narrowed := true }
def RootCubesUptoSaid : Prop := rootCubesUptoRow.holds Try.pinned (OpenSpec.upto rootCubesSpec)

/-- 'splittallylaw3.RootRises', WHERE WHAT IT READS IS OF BULK AT MOST 1048576: true; the input reads as it did. -/
def rootRisesUptoRow : OpenClaim := { program := "ytdnbaapgejdghaa", sum := "9f03a9f4e4aa72b09908faf02e17c818f204ae3763cd54712f04c60e457d2cd7", func := "splittally/splittallylaw3.RootRises", spec := "rootRises", apart := false, narrowed := true }
def RootRisesUptoSaid : Prop := rootRisesUptoRow.holds Try.pinned (OpenSpec.upto rootRisesSpec)

end Rows
end Go.Proofs.Ytdnbaapgejdghaa
