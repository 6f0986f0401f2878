/-
  No cell of these rows narrows 'for every input' (looked for: loops, veiled, ifaces, maps, wideKeys, modest, calm, conditions, laid).
  DERIVED. THE GIVEN ROWS OF THIS SEAT. 9 by the template 'for every input the law returns true; each argument reads behind the call as it read before'; 0 by the template 'total and deterministic' (their statements: YtommldjoehjijaaTotals.lean).
  GIVEN WITH THE SEED: the statements are not yours to turn. If you find one false, say at which input.
  Laid BY PROGRAM, IN A SANDBOX (cutbox-rows.mjs): the forced cells as the released guide's own fill.sh prints them over the translation 3b02eec4c5940906… (all of the seat's roots in one cut). By AI agents, Wed Nov 11 2026. No macro, syntax, notation, axiom, sorry.
-/
import Derived.Test.YtommldjoehjijaaChecked
import GoSem.Claim
import GoSem.ClaimJoined
import GoSem.ClaimMapViews
import Derived.JoinedTies
import Derived.KernelRfl
namespace Go.Proofs.Ytommldjoehjijaa
/- THE CELL 'sum', in the pinned program and in every row, IS THE sha256 OF THE DUMP (.gsa) THAT YtommldjoehjijaaProg.lean LOADS. Nothing in Lean hashes anything: it is a label: what it is worth is what the hold of that sum in a sandbox is worth. -/
noncomputable def Try.pinned : Pinned := { name := "ytommldjoehjijaa", sum := "3b02eec4c59409068aa16d35529cf5546a7b38befe826abe844cafe6865d3dd2", checked := Try.checked }
namespace Rows
def none {H : Type} : Left H := { results := [], args := [] }

/-- 'splittallylaw20.RoundBegins': WHATEVER THE INPUT: true; the input reads as it did. -/
def roundBeginsSpec : ChangeSpec := { name := "roundBegins", fn := fun _ => fun
  | [d1, d2, d3] => { results := [.lit (.bool true)], args := [d1, d2, d3] }
  | _ => none }
def roundBeginsRow : OpenClaim := { program := "ytommldjoehjijaa", sum := "3b02eec4c59409068aa16d35529cf5546a7b38befe826abe844cafe6865d3dd2", func := "splittally/splittallylaw20.RoundBegins", spec := "roundBegins", apart := false }
def RoundBeginsSaid : Prop := roundBeginsRow.holds Try.pinned (OpenSpec.ofChange roundBeginsSpec)

/-- ITS FALSE NEIGHBOUR: 'it returns false'. Refute it at one input. -/
def roundBeginsWrong : ChangeSpec := { name := "roundBegins", fn := fun _ => fun
  | [d1, d2, d3] => { results := [.lit (.bool false)], args := [d1, d2, d3] }
  | _ => none }
def RoundBeginsWrongFalsely : Prop := roundBeginsRow.holds Try.pinned (OpenSpec.ofChange roundBeginsWrong)

/-- 'splittallylaw20.RoundOne': WHATEVER THE INPUT: true; the input reads as it did. -/
def roundOneSpec : ChangeSpec := { name := "roundOne", fn := fun _ => fun
  | [d] => { results := [.lit (.bool true)], args := [d] }
  | _ => none }
def roundOneRow : OpenClaim := { program := "ytommldjoehjijaa", sum := "3b02eec4c59409068aa16d35529cf5546a7b38befe826abe844cafe6865d3dd2", func := "splittally/splittallylaw20.RoundOne", spec := "roundOne", apart := false }
def RoundOneSaid : Prop := roundOneRow.holds Try.pinned (OpenSpec.ofChange roundOneSpec)

/-- ITS FALSE NEIGHBOUR: 'it returns false'. Refute it at one input. -/
def roundOneWrong : ChangeSpec := { name := "roundOne", fn := fun _ => fun
  | [d] => { results := [.lit (.bool false)], args := [d] }
  | _ => none }
def RoundOneWrongFalsely : Prop := roundOneRow.holds Try.pinned (OpenSpec.ofChange roundOneWrong)

/-- 'splittallylaw20.RoundEnds': WHATEVER THE INPUT: true; the input reads as it did. -/
def roundEndsSpec : ChangeSpec := { name := "roundEnds", fn := fun _ => fun
  | [d1, d2, d3, d4] => { results := [.lit (.bool true)], args := [d1, d2, d3, d4] }
  | _ => none }
def roundEndsRow : OpenClaim := { program := "ytommldjoehjijaa", sum := "3b02eec4c59409068aa16d35529cf5546a7b38befe826abe844cafe6865d3dd2", func := "splittally/splittallylaw20.RoundEnds", spec := "roundEnds", apart := false }
def RoundEndsSaid : Prop := roundEndsRow.holds Try.pinned (OpenSpec.ofChange roundEndsSpec)

/-- ITS FALSE NEIGHBOUR: 'it returns false'. Refute it at one input. -/
def roundEndsWrong : ChangeSpec := { name := "roundEnds", fn := fun _ => fun
  | [d1, d2, d3, d4] => { results := [.lit (.bool false)], args := [d1, d2, d3, d4] }
  | _ => none }
def RoundEndsWrongFalsely : Prop := roundEndsRow.holds Try.pinned (OpenSpec.ofChange roundEndsWrong)

/-- 'splittallylaw5.DrawMixes': WHATEVER THE INPUT: true; the input reads as it did. -/
def drawMixesSpec : ChangeSpec := { name := "drawMixes", fn := fun _ => fun
  | [d] => { results := [.lit (.bool true)], args := [d] }
  | _ => none }
def drawMixesRow : OpenClaim := { program := "ytommldjoehjijaa", sum := "3b02eec4c59409068aa16d35529cf5546a7b38befe826abe844cafe6865d3dd2", func := "splittally/splittallylaw5.DrawMixes", spec := "drawMixes", apart := false }
def DrawMixesSaid : Prop := drawMixesRow.holds Try.pinned (OpenSpec.ofChange drawMixesSpec)

/-- ITS FALSE NEIGHBOUR: 'it returns false'. Refute it at one input. -/
def drawMixesWrong : ChangeSpec := { name := "drawMixes", fn := fun _ => fun
  | [d] => { results := [.lit (.bool false)], args := [d] }
  | _ => none }
def DrawMixesWrongFalsely : Prop := drawMixesRow.holds Try.pinned (OpenSpec.ofChange drawMixesWrong)

/-- 'splittallylaw5.DrawApart': WHATEVER THE INPUT: true; the input reads as it did. -/
def drawApartSpec : ChangeSpec := { name := "drawApart", fn := fun _ => fun
  | [d1, d2] => { results := [.lit (.bool true)], args := [d1, d2] }
  | _ => none }
def drawApartRow : OpenClaim := { program := "ytommldjoehjijaa", sum := "3b02eec4c59409068aa16d35529cf5546a7b38befe826abe844cafe6865d3dd2", func := "splittally/splittallylaw5.DrawApart", spec := "drawApart", apart := false }
def DrawApartSaid : Prop := drawApartRow.holds Try.pinned (OpenSpec.ofChange drawApartSpec)

/-- ITS FALSE NEIGHBOUR: 'it returns false'. Refute it at one input. -/
def drawApartWrong : ChangeSpec := { name := "drawApart", fn := fun _ => fun
  | [d1, d2] => { results := [.lit (.bool false)], args := [d1, d2] }
  | _ => none }
def DrawApartWrongFalsely : Prop := drawApartRow.holds Try.pinned (OpenSpec.ofChange drawApartWrong)

/-- 'splittallylaw5.DrawNext': WHATEVER THE INPUT: true; the input reads as it did. -/
def drawNextSpec : ChangeSpec := { name := "drawNext", fn := fun _ => fun
  | [d1, d2] => { results := [.lit (.bool true)], args := [d1, d2] }
  | _ => none }
def drawNextRow : OpenClaim := { program := "ytommldjoehjijaa", sum := "3b02eec4c59409068aa16d35529cf5546a7b38befe826abe844cafe6865d3dd2", func := "splittally/splittallylaw5.DrawNext", spec := "drawNext", apart := false }
def DrawNextSaid : Prop := drawNextRow.holds Try.pinned (OpenSpec.ofChange drawNextSpec)

/-- ITS FALSE NEIGHBOUR: 'it returns false'. Refute it at one input. -/
def drawNextWrong : ChangeSpec := { name := "drawNext", fn := fun _ => fun
  | [d1, d2] => { results := [.lit (.bool false)], args := [d1, d2] }
  | _ => none }
def DrawNextWrongFalsely : Prop := drawNextRow.holds Try.pinned (OpenSpec.ofChange drawNextWrong)

/-- 'splittallylaw5.DrawBits': WHATEVER THE INPUT: true; the input reads as it did. -/
def drawBitsSpec : ChangeSpec := { name := "drawBits", fn := fun _ => fun
  | [d1, d2, d3] => { results := [.lit (.bool true)], args := [d1, d2, d3] }
  | _ => none }
def drawBitsRow : OpenClaim := { program := "ytommldjoehjijaa", sum := "3b02eec4c59409068aa16d35529cf5546a7b38befe826abe844cafe6865d3dd2", func := "splittally/splittallylaw5.DrawBits", spec := "drawBits", apart := false }
def DrawBitsSaid : Prop := drawBitsRow.holds Try.pinned (OpenSpec.ofChange drawBitsSpec)

/-- ITS FALSE NEIGHBOUR: 'it returns false'. Refute it at one input. -/
def drawBitsWrong : ChangeSpec := { name := "drawBits", fn := fun _ => fun
  | [d1, d2, d3] => { results := [.lit (.bool false)], args := [d1, d2, d3] }
  | _ => none }
def DrawBitsWrongFalsely : Prop := drawBitsRow.holds Try.pinned (OpenSpec.ofChange drawBitsWrong)

/-- 'splittallylaw5.DrawLess': WHATEVER THE INPUT: true; the input reads as it did. -/
def drawLessSpec : ChangeSpec := { name := "drawLess", fn := fun _ => fun
  | [d1, d2, d3] => { results := [.lit (.bool true)], args := [d1, d2, d3] }
  | _ => none }
def drawLessRow : OpenClaim := { program := "ytommldjoehjijaa", sum := "3b02eec4c59409068aa16d35529cf5546a7b38befe826abe844cafe6865d3dd2", func := "splittally/splittallylaw5.DrawLess", spec := "drawLess", apart := false }
def DrawLessSaid : Prop := drawLessRow.holds Try.pinned (OpenSpec.ofChange drawLessSpec)

/-- ITS FALSE NEIGHBOUR: 'it returns false'. Refute it at one input. -/
def drawLessWrong : ChangeSpec := { name := "drawLess", fn := fun _ => fun
  | [d1, d2, d3] => { results := [.lit (.bool false)], args := [d1, d2, d3] }
  | _ => none }
def DrawLessWrongFalsely : Prop := drawLessRow.holds Try.pinned (OpenSpec.ofChange drawLessWrong)

/-- 'splittallylaw5.DrawForks': WHATEVER THE INPUT: true; the input reads as it did. -/
def drawForksSpec : ChangeSpec := { name := "drawForks", fn := fun _ => fun
  | [d1, d2, d3] => { results := [.lit (.bool true)], args := [d1, d2, d3] }
  | _ => none }
def drawForksRow : OpenClaim := { program := "ytommldjoehjijaa", sum := "3b02eec4c59409068aa16d35529cf5546a7b38befe826abe844cafe6865d3dd2", func := "splittally/splittallylaw5.DrawForks", spec := "drawForks", apart := false }
def DrawForksSaid : Prop := drawForksRow.holds Try.pinned (OpenSpec.ofChange drawForksSpec)

/-- ITS FALSE NEIGHBOUR: 'it returns false'. Refute it at one input. -/
def drawForksWrong : ChangeSpec := { name := "drawForks", fn := fun _ => fun
  | [d1, d2, d3] => { results := [.lit (.bool false)], args := [d1, d2, d3] }
  | _ => none }
def DrawForksWrongFalsely : Prop := drawForksRow.holds Try.pinned (OpenSpec.ofChange drawForksWrong)

/- THE SECOND FORM. 'bulk': how many values and letters a reading holds, each counted each time it is reached (what is shared counts as often as it is met; a slice's spare places count too). A statement '..UptoSaid' is the law's where the arguments, and the package variables that the reading takes, are together of bulk at most 1048576: NARROWER than '..Said'. Prove '..Said' where nothing that the law and all that it calls make is longer than what came in: it says more and counts as full. Else prove '..UptoSaid'. A law counts once. -/
mutual
def uptoBulk {H : Type} : DataW H → Nat
  | .lit (.string bytes) => bytes.length + 1
  | .lit _ => 1
  | .nil => 1
  | .ptr d => uptoBulk d + 1
  | .slice elems spare => uptoBulkAll elems + uptoBulkAll spare + 1
  | .agg parts => uptoBulkAll parts + 1
  | .iface _ d => uptoBulk d + 1
  | .map entries => uptoBulkEntries entries + 1
  | .held _ => 1
def uptoBulkAll {H : Type} : List (DataW H) → Nat
  | [] => 0
  | d :: r => uptoBulk d + uptoBulkAll r
def uptoBulkEntries {H : Type} : List (Lit × DataW H) → Nat
  | [] => 0
  | x :: r => uptoBulkEntry x + uptoBulkEntries r
def uptoBulkEntry {H : Type} : Lit × DataW H → Nat
  | (.string bytes, d) => bytes.length + uptoBulk d + 1
  | (_, d) => uptoBulk d + 1
 end
def uptoSmall : (H : Type) → List (DataW H) → Bool := fun _ ds => decide (uptoBulkAll ds ≤ 1048576)
def OpenSpec.upto (s : _root_.Go.ChangeSpec) : _root_.Go.OpenSpec := { _root_.Go.OpenSpec.ofChange s with cond := some uptoSmall }

/-- 'splittallylaw20.RoundBegins', WHERE WHAT IT READS IS OF BULK AT MOST 1048576: true; the input reads as it did. -/
def roundBeginsUptoRow : OpenClaim := { program := "ytommldjoehjijaa", sum := "3b02eec4c59409068aa16d35529cf5546a7b38befe826abe844cafe6865d3dd2", func := "splittally/splittallylaw20.RoundBegins", spec := "roundBegins", apart := false, narrowed := true }
def RoundBeginsUptoSaid : Prop := roundBeginsUptoRow.holds Try.pinned (OpenSpec.upto roundBeginsSpec)

/-- 'splittallylaw20.RoundOne', WHERE WHAT IT READS IS OF BULK AT MOST 1048576: true; the input reads as it did. -/
def roundOneUptoRow : OpenClaim := { program := "ytommldjoehjijaa", sum := "3b02eec4c59409068aa16d35529cf5546a7b38befe826abe844cafe6865d3dd2", func := "splittally/splittallylaw20.RoundOne", spec := "roundOne", apart := false, narrowed := true }
def RoundOneUptoSaid : Prop := roundOneUptoRow.holds Try.pinned (OpenSpec.upto roundOneSpec)

/-- 'splittallylaw20.RoundEnds', WHERE WHAT IT READS IS OF BULK AT MOST 1048576: true; the input reads as it did. -/
def roundEndsUptoRow : OpenClaim := { program := "ytommldjoehjijaa", sum := "3b02eec4c59409068aa16d35529cf5546a7b38befe826abe844cafe6865d3dd2", func := "splittally/splittallylaw20.RoundEnds", spec := "roundEnds", apart := false, narrowed := true }
def RoundEndsUptoSaid : Prop := roundEndsUptoRow.holds Try.pinned (OpenSpec.upto roundEndsSpec)

/-- 'splittallylaw5.DrawMixes', WHERE WHAT IT READS IS OF BULK AT MOST 1048576: true; the input reads as it did. -/
def drawMixesUptoRow : OpenClaim := { program := "ytommldjoehjijaa", sum := "3b02eec4c59409068aa16d35529cf5546a7b38befe826abe844cafe6865d3dd2", func := "splittally/splittallylaw5.DrawMixes", spec := "drawMixes", apart := false, narrowed := true }
def DrawMixesUptoSaid : Prop := drawMixesUptoRow.holds Try.pinned (OpenSpec.upto drawMixesSpec)

/-- 'splittallylaw5.DrawApart', WHERE WHAT IT READS IS OF BULK AT MOST 1048576: true; the input reads as it did. -/
def drawApartUptoRow : OpenClaim := { program := "ytommldjoehjijaa", sum := "3b02eec4c59409068aa16d35529cf5546a7b38befe826abe844cafe6865d3dd2", func := "splittally/splittallylaw5.DrawApart", spec := "drawApart", apart := false, narrowed := true }
def DrawApartUptoSaid : Prop := drawApartUptoRow.holds Try.pinned (OpenSpec.upto drawApartSpec)

/-- 'splittallylaw5.DrawNext', WHERE WHAT IT READS IS OF BULK AT MOST 1048576: true; the input reads as it did. -/
def drawNextUptoRow : OpenClaim := { program := "ytommldjoehjijaa", sum := "3b02eec4c59409068aa16d35529cf5546a7b38befe826abe844cafe6865d3dd2", func := "splittally/splittallylaw5.DrawNext", spec := "drawNext", apart := false, narrowed := true }
def DrawNextUptoSaid : Prop := drawNextUptoRow.holds Try.pinned (OpenSpec.upto drawNextSpec)

/-- 'splittallylaw5.DrawBits', WHERE WHAT IT READS IS OF BULK AT MOST 1048576: true; the input reads as it did. -/
def drawBitsUptoRow : OpenClaim := { program := "ytommldjoehjijaa", sum := "3b02eec4c59409068aa16d35529cf5546a7b38befe826abe844cafe6865d3dd2", func := "splittally/splittallylaw5.DrawBits", spec := "drawBits", apart := false, narrowed := true }
def DrawBitsUptoSaid : Prop := drawBitsUptoRow.holds Try.pinned (OpenSpec.upto drawBitsSpec)

/-- 'splittallylaw5.DrawLess', WHERE WHAT IT READS IS OF BULK AT MOST 1048576: true; the input reads as it did. -/
def drawLessUptoRow : OpenClaim := { program := "ytommldjoehjijaa", sum := "3b02eec4c59409068aa16d35529cf5546a7b38befe826abe844cafe6865d3dd2", func := "splittally/splittallylaw5.DrawLess", spec := "drawLess", apart := false, narrowed := true }
def DrawLessUptoSaid : Prop := drawLessUptoRow.holds Try.pinned (OpenSpec.upto drawLessSpec)

/-- 'splittallylaw5.DrawForks', WHERE WHAT IT READS IS OF BULK AT MOST 1048576: true; the input reads as it did. -/
def drawForksUptoRow : OpenClaim := { program := "ytommldjoehjijaa", sum := "3b02eec4c59409068aa16d35529cf5546a7b38befe826abe844cafe6865d3dd2", func := "splittally/splittallylaw5.DrawForks", spec := "drawForks", apart := false, narrowed := true }
def DrawForksUptoSaid : Prop := drawForksUptoRow.holds Try.pinned (OpenSpec.upto drawForksSpec)

end Rows
end Go.Proofs.Ytommldjoehjijaa
