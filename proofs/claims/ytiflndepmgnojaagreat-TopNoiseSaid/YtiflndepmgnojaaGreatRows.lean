/-
  No cell of these rows narrows 'for every input' (looked for: loops, veiled, ifaces, maps, wideKeys, modest, calm, conditions, laid).
  DERIVED. THE GIVEN ROWS OF THIS SEAT. 5 by the template 'for every input the law returns true; each argument reads behind the call as it read before'; 0 by the template 'total and deterministic' (their statements: YtiflndepmgnojaaGreatTotals.lean).
  GIVEN WITH THE SEED: the statements are not yours to turn. If you find one false, say at which input.
  Laid BY PROGRAM, IN A SANDBOX (cutbox-rows.mjs): the forced cells as the released guide's own fill.sh prints them over the translation 938a450ee35874f0… (all of the seat's roots in one cut). By AI agents, Wed Nov 11 2026. No macro, syntax, notation, axiom, sorry.
-/
import Derived.Test.YtiflndepmgnojaaGreatChecked
import GoSem.Claim
import GoSem.ClaimJoined
import GoSem.ClaimMapViews
import Derived.JoinedTies
import Derived.KernelRfl
namespace Go.Proofs.YtiflndepmgnojaaGreat
/- THE CELL 'sum', in the pinned program and in every row, IS THE sha256 OF THE DUMP (.gsa) THAT YtiflndepmgnojaaGreatProg.lean LOADS. Nothing in Lean hashes anything: it is a label: what it is worth is what the hold of that sum in a sandbox is worth. -/
noncomputable def Tryz.pinned : Pinned := { name := "ytiflndepmgnojaagreat", sum := "938a450ee35874f0a96daee6c520617c3b170bb595049806eeb6f6b1b3aac8ee", checked := Tryz.checked }
namespace Rows
def none {H : Type} : Left H := { results := [], args := [] }

/-- 'splittallytop.TopFlight': WHATEVER THE INPUT: true; the input reads as it did. -/
def topFlightSpec : ChangeSpec := { name := "topFlight", fn := fun _ => fun
  | [d1, d2] => { results := [.lit (.bool true)], args := [d1, d2] }
  | _ => none }
def topFlightRow : OpenClaim := { program := "ytiflndepmgnojaagreat", sum := "938a450ee35874f0a96daee6c520617c3b170bb595049806eeb6f6b1b3aac8ee", func := "splittally/splittallytop.TopFlight", spec := "topFlight", inPlace := ["math/bits.Add64", "sync/atomic.LoadUint32", "sync/atomic.AddUint64", "sync/atomic.StoreUint32", "(*internal/sync.Mutex).Lock", "internal/race.Disable", "sync/atomic.CompareAndSwapInt32", "internal/race.Enable", "internal/race.Acquire", "(*internal/sync.Mutex).lockSlow", "internal/sync.runtime_canSpin", "internal/sync.runtime_doSpin", "internal/sync.throw", "internal/sync.runtime_nanotime", "internal/sync.runtime_SemacquireMutex", "sync/atomic.AddInt32", "(*internal/sync.Mutex).Unlock", "internal/race.ReleaseMerge", "(*internal/sync.Mutex).unlockSlow", "internal/sync.fatal", "internal/sync.runtime_Semrelease", "sync/atomic.LoadUint64"], unfollowed := true, recurses := true, named := ["math/bits.divideError", "math/bits.overflowError"], apart := false }
def TopFlightSaid : Prop := topFlightRow.holds Tryz.pinned (OpenSpec.ofChange topFlightSpec)

/-- ITS FALSE NEIGHBOUR: 'it returns false'. Refute it at one input. -/
def topFlightWrong : ChangeSpec := { name := "topFlight", fn := fun _ => fun
  | [d1, d2] => { results := [.lit (.bool false)], args := [d1, d2] }
  | _ => none }
def TopFlightWrongFalsely : Prop := topFlightRow.holds Tryz.pinned (OpenSpec.ofChange topFlightWrong)

/-- 'splittallytop.TopAcked': WHATEVER THE INPUT: true; the input reads as it did. -/
def topAckedSpec : ChangeSpec := { name := "topAcked", fn := fun _ => fun
  | [d1, d2] => { results := [.lit (.bool true)], args := [d1, d2] }
  | _ => none }
def topAckedRow : OpenClaim := { program := "ytiflndepmgnojaagreat", sum := "938a450ee35874f0a96daee6c520617c3b170bb595049806eeb6f6b1b3aac8ee", func := "splittally/splittallytop.TopAcked", spec := "topAcked", inPlace := ["math/bits.Add64", "sync/atomic.LoadUint32", "sync/atomic.AddUint64", "sync/atomic.StoreUint32", "(*internal/sync.Mutex).Lock", "internal/race.Disable", "sync/atomic.CompareAndSwapInt32", "internal/race.Enable", "internal/race.Acquire", "(*internal/sync.Mutex).lockSlow", "internal/sync.runtime_canSpin", "internal/sync.runtime_doSpin", "internal/sync.throw", "internal/sync.runtime_nanotime", "internal/sync.runtime_SemacquireMutex", "sync/atomic.AddInt32", "(*internal/sync.Mutex).Unlock", "internal/race.ReleaseMerge", "(*internal/sync.Mutex).unlockSlow", "internal/sync.fatal", "internal/sync.runtime_Semrelease", "sync/atomic.LoadUint64"], unfollowed := true, recurses := true, named := ["math/bits.divideError", "math/bits.overflowError"], apart := false }
def TopAckedSaid : Prop := topAckedRow.holds Tryz.pinned (OpenSpec.ofChange topAckedSpec)

/-- ITS FALSE NEIGHBOUR: 'it returns false'. Refute it at one input. -/
def topAckedWrong : ChangeSpec := { name := "topAcked", fn := fun _ => fun
  | [d1, d2] => { results := [.lit (.bool false)], args := [d1, d2] }
  | _ => none }
def TopAckedWrongFalsely : Prop := topAckedRow.holds Tryz.pinned (OpenSpec.ofChange topAckedWrong)

/-- 'splittallytop.TopLate': WHATEVER THE INPUT: true; the input reads as it did. -/
def topLateSpec : ChangeSpec := { name := "topLate", fn := fun _ => fun
  | [d1, d2, d3, d4] => { results := [.lit (.bool true)], args := [d1, d2, d3, d4] }
  | _ => none }
def topLateRow : OpenClaim := { program := "ytiflndepmgnojaagreat", sum := "938a450ee35874f0a96daee6c520617c3b170bb595049806eeb6f6b1b3aac8ee", func := "splittally/splittallytop.TopLate", spec := "topLate", inPlace := ["math/bits.Add64", "sync/atomic.LoadUint32", "sync/atomic.AddUint64", "sync/atomic.StoreUint32", "(*internal/sync.Mutex).Lock", "internal/race.Disable", "sync/atomic.CompareAndSwapInt32", "internal/race.Enable", "internal/race.Acquire", "(*internal/sync.Mutex).lockSlow", "internal/sync.runtime_canSpin", "internal/sync.runtime_doSpin", "internal/sync.throw", "internal/sync.runtime_nanotime", "internal/sync.runtime_SemacquireMutex", "sync/atomic.AddInt32", "(*internal/sync.Mutex).Unlock", "internal/race.ReleaseMerge", "(*internal/sync.Mutex).unlockSlow", "internal/sync.fatal", "internal/sync.runtime_Semrelease", "sync/atomic.LoadUint64"], unfollowed := true, recurses := true, named := ["math/bits.divideError", "math/bits.overflowError"], apart := false }
def TopLateSaid : Prop := topLateRow.holds Tryz.pinned (OpenSpec.ofChange topLateSpec)

/-- ITS FALSE NEIGHBOUR: 'it returns false'. Refute it at one input. -/
def topLateWrong : ChangeSpec := { name := "topLate", fn := fun _ => fun
  | [d1, d2, d3, d4] => { results := [.lit (.bool false)], args := [d1, d2, d3, d4] }
  | _ => none }
def TopLateWrongFalsely : Prop := topLateRow.holds Tryz.pinned (OpenSpec.ofChange topLateWrong)

/-- 'splittallytop.TopReplay': WHATEVER THE INPUT: true; the input reads as it did. -/
def topReplaySpec : ChangeSpec := { name := "topReplay", fn := fun _ => fun
  | [d1, d2, d3] => { results := [.lit (.bool true)], args := [d1, d2, d3] }
  | _ => none }
def topReplayRow : OpenClaim := { program := "ytiflndepmgnojaagreat", sum := "938a450ee35874f0a96daee6c520617c3b170bb595049806eeb6f6b1b3aac8ee", func := "splittally/splittallytop.TopReplay", spec := "topReplay", inPlace := ["math/bits.Add64", "sync/atomic.LoadUint32", "sync/atomic.AddUint64", "sync/atomic.StoreUint32", "(*internal/sync.Mutex).Lock", "internal/race.Disable", "sync/atomic.CompareAndSwapInt32", "internal/race.Enable", "internal/race.Acquire", "(*internal/sync.Mutex).lockSlow", "internal/sync.runtime_canSpin", "internal/sync.runtime_doSpin", "internal/sync.throw", "internal/sync.runtime_nanotime", "internal/sync.runtime_SemacquireMutex", "sync/atomic.AddInt32", "(*internal/sync.Mutex).Unlock", "internal/race.ReleaseMerge", "(*internal/sync.Mutex).unlockSlow", "internal/sync.fatal", "internal/sync.runtime_Semrelease", "sync/atomic.LoadUint64"], unfollowed := true, recurses := true, named := ["math/bits.divideError", "math/bits.overflowError"], apart := false }
def TopReplaySaid : Prop := topReplayRow.holds Tryz.pinned (OpenSpec.ofChange topReplaySpec)

/-- ITS FALSE NEIGHBOUR: 'it returns false'. Refute it at one input. -/
def topReplayWrong : ChangeSpec := { name := "topReplay", fn := fun _ => fun
  | [d1, d2, d3] => { results := [.lit (.bool false)], args := [d1, d2, d3] }
  | _ => none }
def TopReplayWrongFalsely : Prop := topReplayRow.holds Tryz.pinned (OpenSpec.ofChange topReplayWrong)

/-- 'splittallytop.TopNoise': WHATEVER THE INPUT: true; the input reads as it did. -/
def topNoiseSpec : ChangeSpec := { name := "topNoise", fn := fun _ => fun
  | [d1, d2, d3] => { results := [.lit (.bool true)], args := [d1, d2, d3] }
  | _ => none }
def topNoiseRow : OpenClaim := { program := "ytiflndepmgnojaagreat", sum := "938a450ee35874f0a96daee6c520617c3b170bb595049806eeb6f6b1b3aac8ee", func := "splittally/splittallytop.TopNoise", spec := "topNoise", inPlace := ["math/bits.Add64", "sync/atomic.LoadUint32", "sync/atomic.AddUint64", "sync/atomic.StoreUint32", "(*internal/sync.Mutex).Lock", "internal/race.Disable", "sync/atomic.CompareAndSwapInt32", "internal/race.Enable", "internal/race.Acquire", "(*internal/sync.Mutex).lockSlow", "internal/sync.runtime_canSpin", "internal/sync.runtime_doSpin", "internal/sync.throw", "internal/sync.runtime_nanotime", "internal/sync.runtime_SemacquireMutex", "sync/atomic.AddInt32", "(*internal/sync.Mutex).Unlock", "internal/race.ReleaseMerge", "(*internal/sync.Mutex).unlockSlow", "internal/sync.fatal", "internal/sync.runtime_Semrelease", "sync/atomic.LoadUint64"], unfollowed := true, recurses := true, named := ["math/bits.divideError", "math/bits.overflowError"], apart := false }
def TopNoiseSaid : Prop := topNoiseRow.holds Tryz.pinned (OpenSpec.ofChange topNoiseSpec)

/-- ITS FALSE NEIGHBOUR: 'it returns false'. Refute it at one input. -/
def topNoiseWrong : ChangeSpec := { name := "topNoise", fn := fun _ => fun
  | [d1, d2, d3] => { results := [.lit (.bool false)], args := [d1, d2, d3] }
  | _ => none }
def TopNoiseWrongFalsely : Prop := topNoiseRow.holds Tryz.pinned (OpenSpec.ofChange topNoiseWrong)

/- THE SECOND FORM. 'bulk': how many values and letters a reading holds, each counted each time it is reached (what is shared counts as often as it is met; a slice's spare places count too). A statement '..UptoSaid' is the law's where the arguments, and the package variables that the reading takes, are together of bulk at most 1048576: NARROWER than '..Said'. Prove '..Said' where nothing that the law and all that it calls make is longer than what came in: it says more and counts as full. Else prove '..UptoSaid'. A law counts once. -/
mutual
def uptoBulk {H : Type} : DataW H → Nat
  | .lit (.string bytes) => bytes.length + 1
  | .lit _ => 1
  | .nil => 1
  | .ptr d => uptoBulk d + 1
  | .slice elems spare => uptoBulkAll elems + uptoBulkAll spare + 1
  | .agg parts => uptoBulkAll parts + 1
  | .iface _ d => uptoBulk d + 1
  | .map entries => uptoBulkEntries entries + 1
  | .held _ => 1
def uptoBulkAll {H : Type} : List (DataW H) → Nat
  | [] => 0
  | d :: r => uptoBulk d + uptoBulkAll r
def uptoBulkEntries {H : Type} : List (Lit × DataW H) → Nat
  | [] => 0
  | x :: r => uptoBulkEntry x + uptoBulkEntries r
def uptoBulkEntry {H : Type} : Lit × DataW H → Nat
  | (.string bytes, d) => bytes.length + uptoBulk d + 1
  | (_, d) => uptoBulk d + 1
 end
def uptoSmall : (H : Type) → List (DataW H) → Bool := fun _ ds => decide (uptoBulkAll ds ≤ 1048576)
def OpenSpec.upto (s : _root_.Go.ChangeSpec) : _root_.Go.OpenSpec := { _root_.Go.OpenSpec.ofChange s with cond := some uptoSmall }

/-- 'splittallytop.TopFlight', WHERE WHAT IT READS IS OF BULK AT MOST 1048576: true; the input reads as it did. -/
def topFlightUptoRow : OpenClaim := { program := "ytiflndepmgnojaagreat", sum := "938a450ee35874f0a96daee6c520617c3b170bb595049806eeb6f6b1b3aac8ee", func := "splittally/splittallytop.TopFlight", spec := "topFlight", inPlace := ["math/bits.Add64", "sync/atomic.LoadUint32", "sync/atomic.AddUint64", "sync/atomic.StoreUint32", "(*internal/sync.Mutex).Lock", "internal/race.Disable", "sync/atomic.CompareAndSwapInt32", "internal/race.Enable", "internal/race.Acquire", "(*internal/sync.Mutex).lockSlow", "internal/sync.runtime_canSpin", "internal/sync.runtime_doSpin", "internal/sync.throw", "internal/sync.runtime_nanotime", "internal/sync.runtime_SemacquireMutex", "sync/atomic.AddInt32", "(*internal/sync.Mutex).Unlock", "internal/race.ReleaseMerge", "(*internal/sync.Mutex).unlockSlow", "internal/sync.fatal", "internal/sync.runtime_Semrelease", "sync/atomic.LoadUint64"], unfollowed := true, recurses := true, named := ["math/bits.divideError", "math/bits.overflowError"], apart := false, narrowed := true }
def TopFlightUptoSaid : Prop := topFlightUptoRow.holds Tryz.pinned (OpenSpec.upto topFlightSpec)

/-- 'splittallytop.TopAcked', WHERE WHAT IT READS IS OF BULK AT MOST 1048576: true; the input reads as it did. -/
def topAckedUptoRow : OpenClaim := { program := "ytiflndepmgnojaagreat", sum := "938a450ee35874f0a96daee6c520617c3b170bb595049806eeb6f6b1b3aac8ee", func := "splittally/splittallytop.TopAcked", spec := "topAcked", inPlace := ["math/bits.Add64", "sync/atomic.LoadUint32", "sync/atomic.AddUint64", "sync/atomic.StoreUint32", "(*internal/sync.Mutex).Lock", "internal/race.Disable", "sync/atomic.CompareAndSwapInt32", "internal/race.Enable", "internal/race.Acquire", "(*internal/sync.Mutex).lockSlow", "internal/sync.runtime_canSpin", "internal/sync.runtime_doSpin", "internal/sync.throw", "internal/sync.runtime_nanotime", "internal/sync.runtime_SemacquireMutex", "sync/atomic.AddInt32", "(*internal/sync.Mutex).Unlock", "internal/race.ReleaseMerge", "(*internal/sync.Mutex).unlockSlow", "internal/sync.fatal", "internal/sync.runtime_Semrelease", "sync/atomic.LoadUint64"], unfollowed := true, recurses := true, named := ["math/bits.divideError", "math/bits.overflowError"], apart := false, narrowed := true }
def TopAckedUptoSaid : Prop := topAckedUptoRow.holds Tryz.pinned (OpenSpec.upto topAckedSpec)

/-- 'splittallytop.TopLate', WHERE WHAT IT READS IS OF BULK AT MOST 1048576: true; the input reads as it did. -/
def topLateUptoRow : OpenClaim := { program := "ytiflndepmgnojaagreat", sum := "938a450ee35874f0a96daee6c520617c3b170bb595049806eeb6f6b1b3aac8ee", func := "splittally/splittallytop.TopLate", spec := "topLate", inPlace := ["math/bits.Add64", "sync/atomic.LoadUint32", "sync/atomic.AddUint64", "sync/atomic.StoreUint32", "(*internal/sync.Mutex).Lock", "internal/race.Disable", "sync/atomic.CompareAndSwapInt32", "internal/race.Enable", "internal/race.Acquire", "(*internal/sync.Mutex).lockSlow", "internal/sync.runtime_canSpin", "internal/sync.runtime_doSpin", "internal/sync.throw", "internal/sync.runtime_nanotime", "internal/sync.runtime_SemacquireMutex", "sync/atomic.AddInt32", "(*internal/sync.Mutex).Unlock", "internal/race.ReleaseMerge", "(*internal/sync.Mutex).unlockSlow", "internal/sync.fatal", "internal/sync.runtime_Semrelease", "sync/atomic.LoadUint64"], unfollowed := true, recurses := true, named := ["math/bits.divideError", "math/bits.overflowError"], apart := false, narrowed := true }
def TopLateUptoSaid : Prop := topLateUptoRow.holds Tryz.pinned (OpenSpec.upto topLateSpec)

/-- 'splittallytop.TopReplay', WHERE WHAT IT READS IS OF BULK AT MOST 1048576: true; the input reads as it did. -/
def topReplayUptoRow : OpenClaim := { program := "ytiflndepmgnojaagreat", sum := "938a450ee35874f0a96daee6c520617c3b170bb595049806eeb6f6b1b3aac8ee", func := "splittally/splittallytop.TopReplay", spec := "topReplay", inPlace := ["math/bits.Add64", "sync/atomic.LoadUint32", "sync/atomic.AddUint64", "sync/atomic.StoreUint32", "(*internal/sync.Mutex).Lock", "internal/race.Disable", "sync/atomic.CompareAndSwapInt32", "internal/race.Enable", "internal/race.Acquire", "(*internal/sync.Mutex).lockSlow", "internal/sync.runtime_canSpin", "internal/sync.runtime_doSpin", "internal/sync.throw", "internal/sync.runtime_nanotime", "internal/sync.runtime_SemacquireMutex", "sync/atomic.AddInt32", "(*internal/sync.Mutex).Unlock", "internal/race.ReleaseMerge", "(*internal/sync.Mutex).unlockSlow", "internal/sync.fatal", "internal/sync.runtime_Semrelease", "sync/atomic.LoadUint64"], unfollowed := true, recurses := true, named := ["math/bits.divideError", "math/bits.overflowError"], apart := false, narrowed := true }
def TopReplayUptoSaid : Prop := topReplayUptoRow.holds Tryz.pinned (OpenSpec.upto topReplaySpec)

/-- 'splittallytop.TopNoise', WHERE WHAT IT READS IS OF BULK AT MOST 1048576: true; the input reads as it did. -/
def topNoiseUptoRow : OpenClaim := { program := "ytiflndepmgnojaagreat", sum := "938a450ee35874f0a96daee6c520617c3b170bb595049806eeb6f6b1b3aac8ee", func := "splittally/splittallytop.TopNoise", spec := "topNoise", inPlace := ["math/bits.Add64", "sync/atomic.LoadUint32", "sync/atomic.AddUint64", "sync/atomic.StoreUint32", "(*internal/sync.Mutex).Lock", "internal/race.Disable", "sync/atomic.CompareAndSwapInt32", "internal/race.Enable", "internal/race.Acquire", "(*internal/sync.Mutex).lockSlow", "internal/sync.runtime_canSpin", "internal/sync.runtime_doSpin", "internal/sync.throw", "internal/sync.runtime_nanotime", "internal/sync.runtime_SemacquireMutex", "sync/atomic.AddInt32", "(*internal/sync.Mutex).Unlock", "internal/race.ReleaseMerge", "(*internal/sync.Mutex).unlockSlow", "internal/sync.fatal", "internal/sync.runtime_Semrelease", "sync/atomic.LoadUint64"], unfollowed := true, recurses := true, named := ["math/bits.divideError", "math/bits.overflowError"], apart := false, narrowed := true }
def TopNoiseUptoSaid : Prop := topNoiseUptoRow.holds Tryz.pinned (OpenSpec.upto topNoiseSpec)

end Rows
end Go.Proofs.YtiflndepmgnojaaGreat
