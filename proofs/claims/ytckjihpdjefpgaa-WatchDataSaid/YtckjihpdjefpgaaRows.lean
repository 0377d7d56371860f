/-
  No cell of these rows narrows 'for every input' (looked for: loops, veiled, ifaces, maps, wideKeys, modest, calm, conditions, laid).
  DERIVED. THE GIVEN ROWS OF THIS SEAT. 6 by the template 'for every input the law returns true; each argument reads behind the call as it read before'; 0 by the template 'total and deterministic' (their statements: YtckjihpdjefpgaaTotals.lean).
  GIVEN WITH THE SEED: the statements are not yours to turn. If you find one false, say at which input.
  Laid BY PROGRAM, IN A SANDBOX (cutbox-rows.mjs): the forced cells as the released guide's own fill.sh prints them over the translation a0e5744e6c48261e… (all of the seat's roots in one cut). By AI agents, Wed Nov 11 2026. No macro, syntax, notation, axiom, sorry.
-/
import Derived.Test.YtckjihpdjefpgaaChecked
import GoSem.Claim
import GoSem.ClaimJoined
import GoSem.ClaimMapViews
import Derived.JoinedTies
import Derived.KernelRfl
namespace Go.Proofs.Ytckjihpdjefpgaa
/- THE CELL 'sum', in the pinned program and in every row, IS THE sha256 OF THE DUMP (.gsa) THAT YtckjihpdjefpgaaProg.lean LOADS. Nothing in Lean hashes anything: it is a label: what it is worth is what the hold of that sum in a sandbox is worth. -/
noncomputable def Try.pinned : Pinned := { name := "ytckjihpdjefpgaa", sum := "a0e5744e6c48261e5057cc23a931c84f9d3d6e64d601a8ef8592986cd8cacf29", checked := Try.checked }
namespace Rows
def none {H : Type} : Left H := { results := [], args := [] }

/-- 'auspexlaw18.ExecTime': WHATEVER THE INPUT: true; the input reads as it did. -/
def execTimeSpec : ChangeSpec := { name := "execTime", fn := fun _ => fun
  | [d1, d2, d3] => { results := [.lit (.bool true)], args := [d1, d2, d3] }
  | _ => none }
def execTimeRow : OpenClaim := { program := "ytckjihpdjefpgaa", sum := "a0e5744e6c48261e5057cc23a931c84f9d3d6e64d601a8ef8592986cd8cacf29", func := "auspex/auspexlaw18.ExecTime", spec := "execTime", unfollowed := true, recurses := true, apart := false }
def ExecTimeSaid : Prop := execTimeRow.holds Try.pinned (OpenSpec.ofChange execTimeSpec)

/-- ITS FALSE NEIGHBOUR: 'it returns false'. Refute it at one input. -/
def execTimeWrong : ChangeSpec := { name := "execTime", fn := fun _ => fun
  | [d1, d2, d3] => { results := [.lit (.bool false)], args := [d1, d2, d3] }
  | _ => none }
def ExecTimeWrongFalsely : Prop := execTimeRow.holds Try.pinned (OpenSpec.ofChange execTimeWrong)

/-- 'auspexlaw18.ExecStays': WHATEVER THE INPUT: true; the input reads as it did. -/
def execStaysSpec : ChangeSpec := { name := "execStays", fn := fun _ => fun
  | [d1, d2, d3, d4, d5] => { results := [.lit (.bool true)], args := [d1, d2, d3, d4, d5] }
  | _ => none }
def execStaysRow : OpenClaim := { program := "ytckjihpdjefpgaa", sum := "a0e5744e6c48261e5057cc23a931c84f9d3d6e64d601a8ef8592986cd8cacf29", func := "auspex/auspexlaw18.ExecStays", spec := "execStays", unfollowed := true, recurses := true, apart := false }
def ExecStaysSaid : Prop := execStaysRow.holds Try.pinned (OpenSpec.ofChange execStaysSpec)

/-- ITS FALSE NEIGHBOUR: 'it returns false'. Refute it at one input. -/
def execStaysWrong : ChangeSpec := { name := "execStays", fn := fun _ => fun
  | [d1, d2, d3, d4, d5] => { results := [.lit (.bool false)], args := [d1, d2, d3, d4, d5] }
  | _ => none }
def ExecStaysWrongFalsely : Prop := execStaysRow.holds Try.pinned (OpenSpec.ofChange execStaysWrong)

/-- 'auspexlaw18.ExecSteps': WHATEVER THE INPUT: true; the input reads as it did. -/
def execStepsSpec : ChangeSpec := { name := "execSteps", fn := fun _ => fun
  | [d1, d2, d3, d4] => { results := [.lit (.bool true)], args := [d1, d2, d3, d4] }
  | _ => none }
def execStepsRow : OpenClaim := { program := "ytckjihpdjefpgaa", sum := "a0e5744e6c48261e5057cc23a931c84f9d3d6e64d601a8ef8592986cd8cacf29", func := "auspex/auspexlaw18.ExecSteps", spec := "execSteps", unfollowed := true, recurses := true, apart := false }
def ExecStepsSaid : Prop := execStepsRow.holds Try.pinned (OpenSpec.ofChange execStepsSpec)

/-- ITS FALSE NEIGHBOUR: 'it returns false'. Refute it at one input. -/
def execStepsWrong : ChangeSpec := { name := "execSteps", fn := fun _ => fun
  | [d1, d2, d3, d4] => { results := [.lit (.bool false)], args := [d1, d2, d3, d4] }
  | _ => none }
def ExecStepsWrongFalsely : Prop := execStepsRow.holds Try.pinned (OpenSpec.ofChange execStepsWrong)

/-- 'auspexlaw22.WatchSees': WHATEVER THE INPUT: true; the input reads as it did. -/
def watchSeesSpec : ChangeSpec := { name := "watchSees", fn := fun _ => fun
  | [d1, d2, d3] => { results := [.lit (.bool true)], args := [d1, d2, d3] }
  | _ => none }
def watchSeesRow : OpenClaim := { program := "ytckjihpdjefpgaa", sum := "a0e5744e6c48261e5057cc23a931c84f9d3d6e64d601a8ef8592986cd8cacf29", func := "auspex/auspexlaw22.WatchSees", spec := "watchSees", unfollowed := true, recurses := true, apart := false }
def WatchSeesSaid : Prop := watchSeesRow.holds Try.pinned (OpenSpec.ofChange watchSeesSpec)

/-- ITS FALSE NEIGHBOUR: 'it returns false'. Refute it at one input. -/
def watchSeesWrong : ChangeSpec := { name := "watchSees", fn := fun _ => fun
  | [d1, d2, d3] => { results := [.lit (.bool false)], args := [d1, d2, d3] }
  | _ => none }
def WatchSeesWrongFalsely : Prop := watchSeesRow.holds Try.pinned (OpenSpec.ofChange watchSeesWrong)

/-- 'auspexlaw22.WatchSame': WHATEVER THE INPUT: true; the input reads as it did. -/
def watchSameSpec : ChangeSpec := { name := "watchSame", fn := fun _ => fun
  | [d1, d2, d3] => { results := [.lit (.bool true)], args := [d1, d2, d3] }
  | _ => none }
def watchSameRow : OpenClaim := { program := "ytckjihpdjefpgaa", sum := "a0e5744e6c48261e5057cc23a931c84f9d3d6e64d601a8ef8592986cd8cacf29", func := "auspex/auspexlaw22.WatchSame", spec := "watchSame", unfollowed := true, recurses := true, apart := false }
def WatchSameSaid : Prop := watchSameRow.holds Try.pinned (OpenSpec.ofChange watchSameSpec)

/-- ITS FALSE NEIGHBOUR: 'it returns false'. Refute it at one input. -/
def watchSameWrong : ChangeSpec := { name := "watchSame", fn := fun _ => fun
  | [d1, d2, d3] => { results := [.lit (.bool false)], args := [d1, d2, d3] }
  | _ => none }
def WatchSameWrongFalsely : Prop := watchSameRow.holds Try.pinned (OpenSpec.ofChange watchSameWrong)

/-- 'auspexlaw22.WatchData': WHATEVER THE INPUT: true; the input reads as it did. -/
def watchDataSpec : ChangeSpec := { name := "watchData", fn := fun _ => fun
  | [d1, d2] => { results := [.lit (.bool true)], args := [d1, d2] }
  | _ => none }
def watchDataRow : OpenClaim := { program := "ytckjihpdjefpgaa", sum := "a0e5744e6c48261e5057cc23a931c84f9d3d6e64d601a8ef8592986cd8cacf29", func := "auspex/auspexlaw22.WatchData", spec := "watchData", unfollowed := true, recurses := true, apart := false }
def WatchDataSaid : Prop := watchDataRow.holds Try.pinned (OpenSpec.ofChange watchDataSpec)

/-- ITS FALSE NEIGHBOUR: 'it returns false'. Refute it at one input. -/
def watchDataWrong : ChangeSpec := { name := "watchData", fn := fun _ => fun
  | [d1, d2] => { results := [.lit (.bool false)], args := [d1, d2] }
  | _ => none }
def WatchDataWrongFalsely : Prop := watchDataRow.holds Try.pinned (OpenSpec.ofChange watchDataWrong)

/- THE SECOND FORM. 'bulk': how many values and letters a reading holds, each counted each time it is reached (what is shared counts as often as it is met; a slice's spare places count too). A statement '..UptoSaid' is the law's where the arguments, and the package variables that the reading takes, are together of bulk at most 1048576: NARROWER than '..Said'. Prove '..Said' where nothing that the law and all that it calls make is longer than what came in: it says more and counts as full. Else prove '..UptoSaid'. A law counts once. -/
mutual
def uptoBulk {H : Type} : DataW H → Nat
  | .lit (.string bytes) => bytes.length + 1
  | .lit _ => 1
  | .nil => 1
  | .ptr d => uptoBulk d + 1
  | .slice elems spare => uptoBulkAll elems + uptoBulkAll spare + 1
  | .agg parts => uptoBulkAll parts + 1
  | .iface _ d => uptoBulk d + 1
  | .map entries => uptoBulkEntries entries + 1
  | .held _ => 1
def uptoBulkAll {H : Type} : List (DataW H) → Nat
  | [] => 0
  | d :: r => uptoBulk d + uptoBulkAll r
def uptoBulkEntries {H : Type} : List (Lit × DataW H) → Nat
  | [] => 0
  | x :: r => uptoBulkEntry x + uptoBulkEntries r
def uptoBulkEntry {H : Type} : Lit × DataW H → Nat
  | (.string bytes, d) => bytes.length + uptoBulk d + 1
  | (_, d) => uptoBulk d + 1
 end
def uptoSmall : (H : Type) → List (DataW H) → Bool := fun _ ds => decide (uptoBulkAll ds ≤ 1048576)
def OpenSpec.upto (s : _root_.Go.ChangeSpec) : _root_.Go.OpenSpec := { _root_.Go.OpenSpec.ofChange s with cond := some uptoSmall }

/-- 'auspexlaw18.ExecTime', WHERE WHAT IT READS IS OF BULK AT MOST 1048576: true; the input reads as it did. -/
def execTimeUptoRow : OpenClaim := { program := "ytckjihpdjefpgaa", sum := "a0e5744e6c48261e5057cc23a931c84f9d3d6e64d601a8ef8592986cd8cacf29", func := "auspex/auspexlaw18.ExecTime", spec := "execTime", unfollowed := true, recurses := true, apart := false, narrowed := true }
def ExecTimeUptoSaid : Prop := execTimeUptoRow.holds Try.pinned (OpenSpec.upto execTimeSpec)

/-- 'auspexlaw18.ExecStays', WHERE WHAT IT READS IS OF BULK AT MOST 1048576: true; the input reads as it did. -/
def execStaysUptoRow : OpenClaim := { program := "ytckjihpdjefpgaa", sum := "a0e5744e6c48261e5057cc23a931c84f9d3d6e64d601a8ef8592986cd8cacf29", func := "auspex/auspexlaw18.ExecStays", spec := "execStays", unfollowed := true, recurses := true, apart := false, narrowed := true }
def ExecStaysUptoSaid : Prop := execStaysUptoRow.holds Try.pinned (OpenSpec.upto execStaysSpec)

/-- 'auspexlaw18.ExecSteps', WHERE WHAT IT READS IS OF BULK AT MOST 1048576: true; the input reads as it did. -/
def execStepsUptoRow : OpenClaim := { program := "ytckjihpdjefpgaa", sum := "a0e5744e6c48261e5057cc23a931c84f9d3d6e64d601a8ef8592986cd8cacf29", func := "auspex/auspexlaw18.ExecSteps", spec := "execSteps", unfollowed := true, recurses := true, apart := false, narrowed := true }
def ExecStepsUptoSaid : Prop := execStepsUptoRow.holds Try.pinned (OpenSpec.upto execStepsSpec)

/-- 'auspexlaw22.WatchSees', WHERE WHAT IT READS IS OF BULK AT MOST 1048576: true; the input reads as it did. -/
def watchSeesUptoRow : OpenClaim := { program := "ytckjihpdjefpgaa", sum := "a0e5744e6c48261e5057cc23a931c84f9d3d6e64d601a8ef8592986cd8cacf29", func := "auspex/auspexlaw22.WatchSees", spec := "watchSees", unfollowed := true, recurses := true, apart := false, narrowed := true }
def WatchSeesUptoSaid : Prop := watchSeesUptoRow.holds Try.pinned (OpenSpec.upto watchSeesSpec)

/-- 'auspexlaw22.WatchSame', WHERE WHAT IT READS IS OF BULK AT MOST 1048576: true; the input reads as it did. -/
def watchSameUptoRow : OpenClaim := { program := "ytckjihpdjefpgaa", sum := "a0e5744e6c48261e5057cc23a931c84f9d3d6e64d601a8ef8592986cd8cacf29", func := "auspex/auspexlaw22.WatchSame", spec := "watchSame", unfollowed := true, recurses := true, apart := false, narrowed := true }
def WatchSameUptoSaid : Prop := watchSameUptoRow.holds Try.pinned (OpenSpec.upto watchSameSpec)

/-- 'auspexlaw22.WatchData', WHERE WHAT IT READS IS OF BULK AT MOST 1048576: true; the input reads as it did. -/
def watchDataUptoRow : OpenClaim := { program := "ytckjihpdjefpgaa", sum := "a0e5744e6c48261e5057cc23a931c84f9d3d6e64d601a8ef8592986cd8cacf29", func := "auspex/auspexlaw22.WatchData", spec := "watchData", unfollowed := true, recurses := true, apart := false, narrowed := true }
def WatchDataUptoSaid : Prop := watchDataUptoRow.holds Try.pinned (OpenSpec.upto watchDataSpec)

end Rows
end Go.Proofs.Ytckjihpdjefpgaa
