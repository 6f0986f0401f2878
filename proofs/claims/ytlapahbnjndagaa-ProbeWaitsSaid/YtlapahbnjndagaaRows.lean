/-
  No cell of these rows narrows 'for every input' (looked for: loops, veiled, ifaces, maps, wideKeys, modest, calm, conditions, laid).
  DERIVED. THE GIVEN ROWS OF THIS SEAT. 11 by the template 'for every input the law returns true; each argument reads behind the call as it read before'; 0 by the template 'total and deterministic' (their statements: YtlapahbnjndagaaTotals.lean).
  GIVEN WITH THE SEED: the statements are not yours to turn. If you find one false, say at which input.
  Laid BY PROGRAM, IN A SANDBOX (cutbox-rows.mjs): the forced cells as the released guide's own fill.sh prints them over the translation 3db5fb4374d1fa62… (all of the seat's roots in one cut). By AI agents, Wed Nov 11 2026. No macro, syntax, notation, axiom, sorry.
-/
import Derived.Test.YtlapahbnjndagaaChecked
import GoSem.Claim
import GoSem.ClaimJoined
import GoSem.ClaimMapViews
import Derived.JoinedTies
import Derived.KernelRfl
namespace Go.Proofs.Ytlapahbnjndagaa
/- THE CELL 'sum', in the pinned program and in every row, IS THE sha256 OF THE DUMP (.gsa) THAT YtlapahbnjndagaaProg.lean LOADS. Nothing in Lean hashes anything: it is a label: what it is worth is what the hold of that sum in a sandbox is worth. -/
noncomputable def Try.pinned : Pinned := { name := "ytlapahbnjndagaa", sum := "3db5fb4374d1fa62fa11da98a92872ce0d2e99ebea2f7f0b38dcb5e724b40f5c", checked := Try.checked }
namespace Rows
def none {H : Type} : Left H := { results := [], args := [] }

/-- 'splittallylaw19.ProbeDeadlines': WHATEVER THE INPUT: true; the input reads as it did. -/
def probeDeadlinesSpec : ChangeSpec := { name := "probeDeadlines", fn := fun _ => fun
  | [d1, d2, d3, d4] => { results := [.lit (.bool true)], args := [d1, d2, d3, d4] }
  | _ => none }
def probeDeadlinesRow : OpenClaim := { program := "ytlapahbnjndagaa", sum := "3db5fb4374d1fa62fa11da98a92872ce0d2e99ebea2f7f0b38dcb5e724b40f5c", func := "splittally/splittallylaw19.ProbeDeadlines", spec := "probeDeadlines", inPlace := ["math/bits.Add64"], apart := false }
def ProbeDeadlinesSaid : Prop := probeDeadlinesRow.holds Try.pinned (OpenSpec.ofChange probeDeadlinesSpec)

/-- ITS FALSE NEIGHBOUR: 'it returns false'. Refute it at one input. -/
def probeDeadlinesWrong : ChangeSpec := { name := "probeDeadlines", fn := fun _ => fun
  | [d1, d2, d3, d4] => { results := [.lit (.bool false)], args := [d1, d2, d3, d4] }
  | _ => none }
def ProbeDeadlinesWrongFalsely : Prop := probeDeadlinesRow.holds Try.pinned (OpenSpec.ofChange probeDeadlinesWrong)

/-- 'splittallylaw19.ProbeMoves': WHATEVER THE INPUT: true; the input reads as it did. -/
def probeMovesSpec : ChangeSpec := { name := "probeMoves", fn := fun _ => fun
  | [d1, d2] => { results := [.lit (.bool true)], args := [d1, d2] }
  | _ => none }
def probeMovesRow : OpenClaim := { program := "ytlapahbnjndagaa", sum := "3db5fb4374d1fa62fa11da98a92872ce0d2e99ebea2f7f0b38dcb5e724b40f5c", func := "splittally/splittallylaw19.ProbeMoves", spec := "probeMoves", inPlace := ["math/bits.Add64"], apart := false }
def ProbeMovesSaid : Prop := probeMovesRow.holds Try.pinned (OpenSpec.ofChange probeMovesSpec)

/-- ITS FALSE NEIGHBOUR: 'it returns false'. Refute it at one input. -/
def probeMovesWrong : ChangeSpec := { name := "probeMoves", fn := fun _ => fun
  | [d1, d2] => { results := [.lit (.bool false)], args := [d1, d2] }
  | _ => none }
def ProbeMovesWrongFalsely : Prop := probeMovesRow.holds Try.pinned (OpenSpec.ofChange probeMovesWrong)

/-- 'splittallylaw19.ProbeDoubles': WHATEVER THE INPUT: true; the input reads as it did. -/
def probeDoublesSpec : ChangeSpec := { name := "probeDoubles", fn := fun _ => fun
  | [d1, d2, d3, d4] => { results := [.lit (.bool true)], args := [d1, d2, d3, d4] }
  | _ => none }
def probeDoublesRow : OpenClaim := { program := "ytlapahbnjndagaa", sum := "3db5fb4374d1fa62fa11da98a92872ce0d2e99ebea2f7f0b38dcb5e724b40f5c", func := "splittally/splittallylaw19.ProbeDoubles", spec := "probeDoubles", inPlace := ["math/bits.Add64"], apart := false }
def ProbeDoublesSaid : Prop := probeDoublesRow.holds Try.pinned (OpenSpec.ofChange probeDoublesSpec)

/-- ITS FALSE NEIGHBOUR: 'it returns false'. Refute it at one input. -/
def probeDoublesWrong : ChangeSpec := { name := "probeDoubles", fn := fun _ => fun
  | [d1, d2, d3, d4] => { results := [.lit (.bool false)], args := [d1, d2, d3, d4] }
  | _ => none }
def ProbeDoublesWrongFalsely : Prop := probeDoublesRow.holds Try.pinned (OpenSpec.ofChange probeDoublesWrong)

/-- 'splittallylaw19.ProbeWaits': WHATEVER THE INPUT: true; the input reads as it did. -/
def probeWaitsSpec : ChangeSpec := { name := "probeWaits", fn := fun _ => fun
  | [d1, d2, d3] => { results := [.lit (.bool true)], args := [d1, d2, d3] }
  | _ => none }
def probeWaitsRow : OpenClaim := { program := "ytlapahbnjndagaa", sum := "3db5fb4374d1fa62fa11da98a92872ce0d2e99ebea2f7f0b38dcb5e724b40f5c", func := "splittally/splittallylaw19.ProbeWaits", spec := "probeWaits", inPlace := ["math/bits.Add64"], apart := false }
def ProbeWaitsSaid : Prop := probeWaitsRow.holds Try.pinned (OpenSpec.ofChange probeWaitsSpec)

/-- ITS FALSE NEIGHBOUR: 'it returns false'. Refute it at one input. -/
def probeWaitsWrong : ChangeSpec := { name := "probeWaits", fn := fun _ => fun
  | [d1, d2, d3] => { results := [.lit (.bool false)], args := [d1, d2, d3] }
  | _ => none }
def ProbeWaitsWrongFalsely : Prop := probeWaitsRow.holds Try.pinned (OpenSpec.ofChange probeWaitsWrong)

/-- 'splittallylaw1.SatTells': WHATEVER THE INPUT: true; the input reads as it did. -/
def satTellsSpec : ChangeSpec := { name := "satTells", fn := fun _ => fun
  | [d1, d2] => { results := [.lit (.bool true)], args := [d1, d2] }
  | _ => none }
def satTellsRow : OpenClaim := { program := "ytlapahbnjndagaa", sum := "3db5fb4374d1fa62fa11da98a92872ce0d2e99ebea2f7f0b38dcb5e724b40f5c", func := "splittally/splittallylaw1.SatTells", spec := "satTells", inPlace := ["math/bits.Add64"], apart := false }
def SatTellsSaid : Prop := satTellsRow.holds Try.pinned (OpenSpec.ofChange satTellsSpec)

/-- ITS FALSE NEIGHBOUR: 'it returns false'. Refute it at one input. -/
def satTellsWrong : ChangeSpec := { name := "satTells", fn := fun _ => fun
  | [d1, d2] => { results := [.lit (.bool false)], args := [d1, d2] }
  | _ => none }
def SatTellsWrongFalsely : Prop := satTellsRow.holds Try.pinned (OpenSpec.ofChange satTellsWrong)

/-- 'splittallylaw1.SatOrder': WHATEVER THE INPUT: true; the input reads as it did. -/
def satOrderSpec : ChangeSpec := { name := "satOrder", fn := fun _ => fun
  | [d1, d2, d3] => { results := [.lit (.bool true)], args := [d1, d2, d3] }
  | _ => none }
def satOrderRow : OpenClaim := { program := "ytlapahbnjndagaa", sum := "3db5fb4374d1fa62fa11da98a92872ce0d2e99ebea2f7f0b38dcb5e724b40f5c", func := "splittally/splittallylaw1.SatOrder", spec := "satOrder", inPlace := ["math/bits.Add64"], apart := false }
def SatOrderSaid : Prop := satOrderRow.holds Try.pinned (OpenSpec.ofChange satOrderSpec)

/-- ITS FALSE NEIGHBOUR: 'it returns false'. Refute it at one input. -/
def satOrderWrong : ChangeSpec := { name := "satOrder", fn := fun _ => fun
  | [d1, d2, d3] => { results := [.lit (.bool false)], args := [d1, d2, d3] }
  | _ => none }
def SatOrderWrongFalsely : Prop := satOrderRow.holds Try.pinned (OpenSpec.ofChange satOrderWrong)

/-- 'splittallylaw1.SatBack': WHATEVER THE INPUT: true; the input reads as it did. -/
def satBackSpec : ChangeSpec := { name := "satBack", fn := fun _ => fun
  | [d1, d2] => { results := [.lit (.bool true)], args := [d1, d2] }
  | _ => none }
def satBackRow : OpenClaim := { program := "ytlapahbnjndagaa", sum := "3db5fb4374d1fa62fa11da98a92872ce0d2e99ebea2f7f0b38dcb5e724b40f5c", func := "splittally/splittallylaw1.SatBack", spec := "satBack", inPlace := ["math/bits.Add64"], apart := false }
def SatBackSaid : Prop := satBackRow.holds Try.pinned (OpenSpec.ofChange satBackSpec)

/-- ITS FALSE NEIGHBOUR: 'it returns false'. Refute it at one input. -/
def satBackWrong : ChangeSpec := { name := "satBack", fn := fun _ => fun
  | [d1, d2] => { results := [.lit (.bool false)], args := [d1, d2] }
  | _ => none }
def SatBackWrongFalsely : Prop := satBackRow.holds Try.pinned (OpenSpec.ofChange satBackWrong)

/-- 'splittallylaw1.SatShifts': WHATEVER THE INPUT: true; the input reads as it did. -/
def satShiftsSpec : ChangeSpec := { name := "satShifts", fn := fun _ => fun
  | [d1, d2] => { results := [.lit (.bool true)], args := [d1, d2] }
  | _ => none }
def satShiftsRow : OpenClaim := { program := "ytlapahbnjndagaa", sum := "3db5fb4374d1fa62fa11da98a92872ce0d2e99ebea2f7f0b38dcb5e724b40f5c", func := "splittally/splittallylaw1.SatShifts", spec := "satShifts", inPlace := ["math/bits.Add64"], apart := false }
def SatShiftsSaid : Prop := satShiftsRow.holds Try.pinned (OpenSpec.ofChange satShiftsSpec)

/-- ITS FALSE NEIGHBOUR: 'it returns false'. Refute it at one input. -/
def satShiftsWrong : ChangeSpec := { name := "satShifts", fn := fun _ => fun
  | [d1, d2] => { results := [.lit (.bool false)], args := [d1, d2] }
  | _ => none }
def SatShiftsWrongFalsely : Prop := satShiftsRow.holds Try.pinned (OpenSpec.ofChange satShiftsWrong)

/-- 'splittallylaw1.SatSteps': WHATEVER THE INPUT: true; the input reads as it did. -/
def satStepsSpec : ChangeSpec := { name := "satSteps", fn := fun _ => fun
  | [d1, d2, d3] => { results := [.lit (.bool true)], args := [d1, d2, d3] }
  | _ => none }
def satStepsRow : OpenClaim := { program := "ytlapahbnjndagaa", sum := "3db5fb4374d1fa62fa11da98a92872ce0d2e99ebea2f7f0b38dcb5e724b40f5c", func := "splittally/splittallylaw1.SatSteps", spec := "satSteps", inPlace := ["math/bits.Add64"], apart := false }
def SatStepsSaid : Prop := satStepsRow.holds Try.pinned (OpenSpec.ofChange satStepsSpec)

/-- ITS FALSE NEIGHBOUR: 'it returns false'. Refute it at one input. -/
def satStepsWrong : ChangeSpec := { name := "satSteps", fn := fun _ => fun
  | [d1, d2, d3] => { results := [.lit (.bool false)], args := [d1, d2, d3] }
  | _ => none }
def SatStepsWrongFalsely : Prop := satStepsRow.holds Try.pinned (OpenSpec.ofChange satStepsWrong)

/-- 'splittallylaw1.SatApart': WHATEVER THE INPUT: true; the input reads as it did. -/
def satApartSpec : ChangeSpec := { name := "satApart", fn := fun _ => fun
  | [d1, d2, d3] => { results := [.lit (.bool true)], args := [d1, d2, d3] }
  | _ => none }
def satApartRow : OpenClaim := { program := "ytlapahbnjndagaa", sum := "3db5fb4374d1fa62fa11da98a92872ce0d2e99ebea2f7f0b38dcb5e724b40f5c", func := "splittally/splittallylaw1.SatApart", spec := "satApart", inPlace := ["math/bits.Add64"], apart := false }
def SatApartSaid : Prop := satApartRow.holds Try.pinned (OpenSpec.ofChange satApartSpec)

/-- ITS FALSE NEIGHBOUR: 'it returns false'. Refute it at one input. -/
def satApartWrong : ChangeSpec := { name := "satApart", fn := fun _ => fun
  | [d1, d2, d3] => { results := [.lit (.bool false)], args := [d1, d2, d3] }
  | _ => none }
def SatApartWrongFalsely : Prop := satApartRow.holds Try.pinned (OpenSpec.ofChange satApartWrong)

/-- 'splittallylaw1.SatClamps': WHATEVER THE INPUT: true; the input reads as it did. -/
def satClampsSpec : ChangeSpec := { name := "satClamps", fn := fun _ => fun
  | [d1, d2, d3] => { results := [.lit (.bool true)], args := [d1, d2, d3] }
  | _ => none }
def satClampsRow : OpenClaim := { program := "ytlapahbnjndagaa", sum := "3db5fb4374d1fa62fa11da98a92872ce0d2e99ebea2f7f0b38dcb5e724b40f5c", func := "splittally/splittallylaw1.SatClamps", spec := "satClamps", inPlace := ["math/bits.Add64"], apart := false }
def SatClampsSaid : Prop := satClampsRow.holds Try.pinned (OpenSpec.ofChange satClampsSpec)

/-- ITS FALSE NEIGHBOUR: 'it returns false'. Refute it at one input. -/
def satClampsWrong : ChangeSpec := { name := "satClamps", fn := fun _ => fun
  | [d1, d2, d3] => { results := [.lit (.bool false)], args := [d1, d2, d3] }
  | _ => none }
def SatClampsWrongFalsely : Prop := satClampsRow.holds Try.pinned (OpenSpec.ofChange satClampsWrong)

/- THE SECOND FORM. 'bulk': how many values and letters a reading holds, each counted each time it is reached (what is shared counts as often as it is met; a slice's spare places count too). A statement '..UptoSaid' is the law's where the arguments, and the package variables that the reading takes, are together of bulk at most 1048576: NARROWER than '..Said'. Prove '..Said' where nothing that the law and all that it calls make is longer than what came in: it says more and counts as full. Else prove '..UptoSaid'. A law counts once. -/
mutual
def uptoBulk {H : Type} : DataW H → Nat
  | .lit (.string bytes) => bytes.length + 1
  | .lit _ => 1
  | .nil => 1
  | .ptr d => uptoBulk d + 1
  | .slice elems spare => uptoBulkAll elems + uptoBulkAll spare + 1
  | .agg parts => uptoBulkAll parts + 1
  | .iface _ d => uptoBulk d + 1
  | .map entries => uptoBulkEntries entries + 1
  | .held _ => 1
def uptoBulkAll {H : Type} : List (DataW H) → Nat
  | [] => 0
  | d :: r => uptoBulk d + uptoBulkAll r
def uptoBulkEntries {H : Type} : List (Lit × DataW H) → Nat
  | [] => 0
  | x :: r => uptoBulkEntry x + uptoBulkEntries r
def uptoBulkEntry {H : Type} : Lit × DataW H → Nat
  | (.string bytes, d) => bytes.length + uptoBulk d + 1
  | (_, d) => uptoBulk d + 1
 end
def uptoSmall : (H : Type) → List (DataW H) → Bool := fun _ ds => decide (uptoBulkAll ds ≤ 1048576)
def OpenSpec.upto (s : _root_.Go.ChangeSpec) : _root_.Go.OpenSpec := { _root_.Go.OpenSpec.ofChange s with cond := some uptoSmall }

/-- 'splittallylaw19.ProbeDeadlines', WHERE WHAT IT READS IS OF BULK AT MOST 1048576: true; the input reads as it did. -/
def probeDeadlinesUptoRow : OpenClaim := { program := "ytlapahbnjndagaa", sum := "3db5fb4374d1fa62fa11da98a92872ce0d2e99ebea2f7f0b38dcb5e724b40f5c", func := "splittally/splittallylaw19.ProbeDeadlines", spec := "probeDeadlines", inPlace := ["math/bits.Add64"], apart := false, narrowed := true }
def ProbeDeadlinesUptoSaid : Prop := probeDeadlinesUptoRow.holds Try.pinned (OpenSpec.upto probeDeadlinesSpec)

/-- 'splittallylaw19.ProbeMoves', WHERE WHAT IT READS IS OF BULK AT MOST 1048576: true; the input reads as it did. -/
def probeMovesUptoRow : OpenClaim := { program := "ytlapahbnjndagaa", sum := "3db5fb4374d1fa62fa11da98a92872ce0d2e99ebea2f7f0b38dcb5e724b40f5c", func := "splittally/splittallylaw19.ProbeMoves", spec := "probeMoves", inPlace := ["math/bits.Add64"], apart := false, narrowed := true }
def ProbeMovesUptoSaid : Prop := probeMovesUptoRow.holds Try.pinned (OpenSpec.upto probeMovesSpec)

/-- 'splittallylaw19.ProbeDoubles', WHERE WHAT IT READS IS OF BULK AT MOST 1048576: true; the input reads as it did. -/
def probeDoublesUptoRow : OpenClaim := { program := "ytlapahbnjndagaa", sum := "3db5fb4374d1fa62fa11da98a92872ce0d2e99ebea2f7f0b38dcb5e724b40f5c", func := "splittally/splittallylaw19.ProbeDoubles", spec := "probeDoubles", inPlace := ["math/bits.Add64"], apart := false, narrowed := true }
def ProbeDoublesUptoSaid : Prop := probeDoublesUptoRow.holds Try.pinned (OpenSpec.upto probeDoublesSpec)

/-- 'splittallylaw19.ProbeWaits', WHERE WHAT IT READS IS OF BULK AT MOST 1048576: true; the input reads as it did. -/
def probeWaitsUptoRow : OpenClaim := { program := "ytlapahbnjndagaa", sum := "3db5fb4374d1fa62fa11da98a92872ce0d2e99ebea2f7f0b38dcb5e724b40f5c", func := "splittally/splittallylaw19.ProbeWaits", spec := "probeWaits", inPlace := ["math/bits.Add64"], apart := false, narrowed := true }
def ProbeWaitsUptoSaid : Prop := probeWaitsUptoRow.holds Try.pinned (OpenSpec.upto probeWaitsSpec)

/-- 'splittallylaw1.SatTells', WHERE WHAT IT READS IS OF BULK AT MOST 1048576: true; the input reads as it did. -/
def satTellsUptoRow : OpenClaim := { program := "ytlapahbnjndagaa", sum := "3db5fb4374d1fa62fa11da98a92872ce0d2e99ebea2f7f0b38dcb5e724b40f5c", func := "splittally/splittallylaw1.SatTells", spec := "satTells", inPlace := ["math/bits.Add64"], apart := false, narrowed := true }
def SatTellsUptoSaid : Prop := satTellsUptoRow.holds Try.pinned (OpenSpec.upto satTellsSpec)

/-- 'splittallylaw1.SatOrder', WHERE WHAT IT READS IS OF BULK AT MOST 1048576: true; the input reads as it did. -/
def satOrderUptoRow : OpenClaim := { program := "ytlapahbnjndagaa", sum := "3db5fb4374d1fa62fa11da98a92872ce0d2e99ebea2f7f0b38dcb5e724b40f5c", func := "splittally/splittallylaw1.SatOrder", spec := "satOrder", inPlace := ["math/bits.Add64"], apart := false, narrowed := true }
def SatOrderUptoSaid : Prop := satOrderUptoRow.holds Try.pinned (OpenSpec.upto satOrderSpec)

/-- 'splittallylaw1.SatBack', WHERE WHAT IT READS IS OF BULK AT MOST 1048576: true; the input reads as it did. -/
def satBackUptoRow : OpenClaim := { program := "ytlapahbnjndagaa", sum := "3db5fb4374d1fa62fa11da98a92872ce0d2e99ebea2f7f0b38dcb5e724b40f5c", func := "splittally/splittallylaw1.SatBack", spec := "satBack", inPlace := ["math/bits.Add64"], apart := false, narrowed := true }
def SatBackUptoSaid : Prop := satBackUptoRow.holds Try.pinned (OpenSpec.upto satBackSpec)

/-- 'splittallylaw1.SatShifts', WHERE WHAT IT READS IS OF BULK AT MOST 1048576: true; the input reads as it did. -/
def satShiftsUptoRow : OpenClaim := { program := "ytlapahbnjndagaa", sum := "3db5fb4374d1fa62fa11da98a92872ce0d2e99ebea2f7f0b38dcb5e724b40f5c", func := "splittally/splittallylaw1.SatShifts", spec := "satShifts", inPlace := ["math/bits.Add64"], apart := false, narrowed := true }
def SatShiftsUptoSaid : Prop := satShiftsUptoRow.holds Try.pinned (OpenSpec.upto satShiftsSpec)

/-- 'splittallylaw1.SatSteps', WHERE WHAT IT READS IS OF BULK AT MOST 1048576: true; the input reads as it did. -/
def satStepsUptoRow : OpenClaim := { program := "ytlapahbnjndagaa", sum := "3db5fb4374d1fa62fa11da98a92872ce0d2e99ebea2f7f0b38dcb5e724b40f5c", func := "splittally/splittallylaw1.SatSteps", spec := "satSteps", inPlace := ["math/bits.Add64"], apart := false, narrowed := true }
def SatStepsUptoSaid : Prop := satStepsUptoRow.holds Try.pinned (OpenSpec.upto satStepsSpec)

/-- 'splittallylaw1.SatApart', WHERE WHAT IT READS IS OF BULK AT MOST 1048576: true; the input reads as it did. -/
def satApartUptoRow : OpenClaim := { program := "ytlapahbnjndagaa", sum := "3db5fb4374d1fa62fa11da98a92872ce0d2e99ebea2f7f0b38dcb5e724b40f5c", func := "splittally/splittallylaw1.SatApart", spec := "satApart", inPlace := ["math/bits.Add64"], apart := false, narrowed := true }
def SatApartUptoSaid : Prop := satApartUptoRow.holds Try.pinned (OpenSpec.upto satApartSpec)

/-- 'splittallylaw1.SatClamps', WHERE WHAT IT READS IS OF BULK AT MOST 1048576: true; the input reads as it did. -/
def satClampsUptoRow : OpenClaim := { program := "ytlapahbnjndagaa", sum := "3db5fb4374d1fa62fa11da98a92872ce0d2e99ebea2f7f0b38dcb5e724b40f5c", func := "splittally/splittallylaw1.SatClamps", spec := "satClamps", inPlace := ["math/bits.Add64"], apart := false, narrowed := true }
def SatClampsUptoSaid : Prop := satClampsUptoRow.holds Try.pinned (OpenSpec.upto satClampsSpec)

end Rows
end Go.Proofs.Ytlapahbnjndagaa
