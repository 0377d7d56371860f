/-
  NARROWER THAN 'FOR EVERY INPUT', by the rows' own cells (each row's printed sentence says how): SeqRuns: laid · SeqGoes: laid · SeqReads: laid · SeqStops: laid · SeqAdds: laid · TraceTells: laid · TraceRuns: laid.
  DERIVED. THE GIVEN ROWS OF THIS SEAT. 7 by the template 'for every input the law returns true; each argument reads behind the call as it read before'; 0 by the template 'total and deterministic' (their statements: YtahnhhbgkmlfcaaDoorTotals.lean).
  GIVEN WITH THE SEED: the statements are not yours to turn. If you find one false, say at which input.
  Laid BY PROGRAM, IN A SANDBOX (cutbox-rows.mjs): the forced cells as the released guide's own fill.sh prints them over the translation 065e39bfcad145d6… (all of the seat's roots in one cut). By AI agents, Wed Nov 11 2026. No macro, syntax, notation, axiom, sorry.
-/
import Derived.Test.YtahnhhbgkmlfcaaDoorChecked
import GoSem.Claim
import GoSem.ClaimJoined
import GoSem.ClaimMapViews
import Derived.JoinedTies
import Derived.KernelRfl
namespace Go.Proofs.YtahnhhbgkmlfcaaDoor
/- THE CELL 'sum', in the pinned program and in every row, IS THE sha256 OF THE DUMP (.gsa) THAT YtahnhhbgkmlfcaaDoorProg.lean LOADS. Nothing in Lean hashes anything: it is a label: what it is worth is what the hold of that sum in a sandbox is worth. -/
noncomputable def Tryd.pinned : Pinned := { name := "ytahnhhbgkmlfcaadoor", sum := "065e39bfcad145d6650caac0214e0f374cfb89e8b0fe3dcf8fa0533ffc711a4f", checked := Tryd.checked }
namespace Rows
def none {H : Type} : Left H := { results := [], args := [] }

/- WHAT THE LISTED PACKAGE-LEVEL VARIABLES READ AS WHEN THE CALL BEGINS. Each datum BY PROGRAM (the guide's laid-datum.mjs) off the statement by which the dump's own 'gosem.cut.vars' lays the variable. In a bare row this is a premise. The card (YtahnhhbgkmlfcaaDoorCards.lean) ties it to the program's text. -/
def laid_auspex_inst_codes {H : Type} : DataW H := .agg [.lit (.int .u32 0), .lit (.int .u32 55), .lit (.int .u32 23), .lit (.int .u32 111), .lit (.int .u32 103), .lit (.int .u32 99), .lit (.int .u32 4195), .lit (.int .u32 16483), .lit (.int .u32 20579), .lit (.int .u32 24675), .lit (.int .u32 28771), .lit (.int .u32 3), .lit (.int .u32 4099), .lit (.int .u32 8195), .lit (.int .u32 16387), .lit (.int .u32 20483), .lit (.int .u32 35), .lit (.int .u32 4131), .lit (.int .u32 8227), .lit (.int .u32 19), .lit (.int .u32 8211), .lit (.int .u32 12307), .lit (.int .u32 16403), .lit (.int .u32 24595), .lit (.int .u32 28691), .lit (.int .u32 4115), .lit (.int .u32 20499), .lit (.int .u32 1073762323), .lit (.int .u32 51), .lit (.int .u32 1073741875), .lit (.int .u32 4147), .lit (.int .u32 8243), .lit (.int .u32 12339), .lit (.int .u32 16435), .lit (.int .u32 20531), .lit (.int .u32 1073762355), .lit (.int .u32 24627), .lit (.int .u32 28723), .lit (.int .u32 33554483), .lit (.int .u32 33558579), .lit (.int .u32 33562675), .lit (.int .u32 33566771), .lit (.int .u32 33570867), .lit (.int .u32 33574963), .lit (.int .u32 33579059), .lit (.int .u32 33583155), .lit (.int .u32 15), .lit (.int .u32 115), .lit (.int .u32 1048691)]

/-- 'auspexlaw06.SeqRuns': WHATEVER THE INPUT: true; the input reads as it did. -/
def seqRunsSpec : ChangeSpec := { name := "seqRuns", fn := fun _ => fun
  | [d1, d2, d3] => { results := [.lit (.bool true)], args := [d1, d2, d3] }
  | _ => none }
def seqRunsRow : OpenClaim := { program := "ytahnhhbgkmlfcaadoor", sum := "065e39bfcad145d6650caac0214e0f374cfb89e8b0fe3dcf8fa0533ffc711a4f", func := "auspex/auspexlaw06.SeqRuns", spec := "seqRuns", unfollowed := true, recurses := true, named := ["auspex/inst.codes"], apart := false, laid := [("auspex/inst.codes", laid_auspex_inst_codes)] }
def SeqRunsSaid : Prop := seqRunsRow.holds Tryd.pinned (OpenSpec.ofChange seqRunsSpec)

/-- ITS FALSE NEIGHBOUR: 'it returns false'. Refute it at one input. -/
def seqRunsWrong : ChangeSpec := { name := "seqRuns", fn := fun _ => fun
  | [d1, d2, d3] => { results := [.lit (.bool false)], args := [d1, d2, d3] }
  | _ => none }
def SeqRunsWrongFalsely : Prop := seqRunsRow.holds Tryd.pinned (OpenSpec.ofChange seqRunsWrong)

/-- 'auspexlaw06.SeqGoes': WHATEVER THE INPUT: true; the input reads as it did. -/
def seqGoesSpec : ChangeSpec := { name := "seqGoes", fn := fun _ => fun
  | [d1, d2, d3, d4] => { results := [.lit (.bool true)], args := [d1, d2, d3, d4] }
  | _ => none }
def seqGoesRow : OpenClaim := { program := "ytahnhhbgkmlfcaadoor", sum := "065e39bfcad145d6650caac0214e0f374cfb89e8b0fe3dcf8fa0533ffc711a4f", func := "auspex/auspexlaw06.SeqGoes", spec := "seqGoes", unfollowed := true, recurses := true, named := ["auspex/inst.codes"], apart := false, laid := [("auspex/inst.codes", laid_auspex_inst_codes)] }
def SeqGoesSaid : Prop := seqGoesRow.holds Tryd.pinned (OpenSpec.ofChange seqGoesSpec)

/-- ITS FALSE NEIGHBOUR: 'it returns false'. Refute it at one input. -/
def seqGoesWrong : ChangeSpec := { name := "seqGoes", fn := fun _ => fun
  | [d1, d2, d3, d4] => { results := [.lit (.bool false)], args := [d1, d2, d3, d4] }
  | _ => none }
def SeqGoesWrongFalsely : Prop := seqGoesRow.holds Tryd.pinned (OpenSpec.ofChange seqGoesWrong)

/-- 'auspexlaw06.SeqReads': WHATEVER THE INPUT: true; the input reads as it did. -/
def seqReadsSpec : ChangeSpec := { name := "seqReads", fn := fun _ => fun
  | [d1, d2, d3, d4, d5] => { results := [.lit (.bool true)], args := [d1, d2, d3, d4, d5] }
  | _ => none }
def seqReadsRow : OpenClaim := { program := "ytahnhhbgkmlfcaadoor", sum := "065e39bfcad145d6650caac0214e0f374cfb89e8b0fe3dcf8fa0533ffc711a4f", func := "auspex/auspexlaw06.SeqReads", spec := "seqReads", unfollowed := true, recurses := true, named := ["auspex/inst.codes"], apart := false, laid := [("auspex/inst.codes", laid_auspex_inst_codes)] }
def SeqReadsSaid : Prop := seqReadsRow.holds Tryd.pinned (OpenSpec.ofChange seqReadsSpec)

/-- ITS FALSE NEIGHBOUR: 'it returns false'. Refute it at one input. -/
def seqReadsWrong : ChangeSpec := { name := "seqReads", fn := fun _ => fun
  | [d1, d2, d3, d4, d5] => { results := [.lit (.bool false)], args := [d1, d2, d3, d4, d5] }
  | _ => none }
def SeqReadsWrongFalsely : Prop := seqReadsRow.holds Tryd.pinned (OpenSpec.ofChange seqReadsWrong)

/-- 'auspexlaw06.SeqStops': WHATEVER THE INPUT: true; the input reads as it did. -/
def seqStopsSpec : ChangeSpec := { name := "seqStops", fn := fun _ => fun
  | [d1, d2, d3] => { results := [.lit (.bool true)], args := [d1, d2, d3] }
  | _ => none }
def seqStopsRow : OpenClaim := { program := "ytahnhhbgkmlfcaadoor", sum := "065e39bfcad145d6650caac0214e0f374cfb89e8b0fe3dcf8fa0533ffc711a4f", func := "auspex/auspexlaw06.SeqStops", spec := "seqStops", unfollowed := true, recurses := true, named := ["auspex/inst.codes"], apart := false, laid := [("auspex/inst.codes", laid_auspex_inst_codes)] }
def SeqStopsSaid : Prop := seqStopsRow.holds Tryd.pinned (OpenSpec.ofChange seqStopsSpec)

/-- ITS FALSE NEIGHBOUR: 'it returns false'. Refute it at one input. -/
def seqStopsWrong : ChangeSpec := { name := "seqStops", fn := fun _ => fun
  | [d1, d2, d3] => { results := [.lit (.bool false)], args := [d1, d2, d3] }
  | _ => none }
def SeqStopsWrongFalsely : Prop := seqStopsRow.holds Tryd.pinned (OpenSpec.ofChange seqStopsWrong)

/-- 'auspexlaw06.SeqAdds': WHATEVER THE INPUT: true; the input reads as it did. -/
def seqAddsSpec : ChangeSpec := { name := "seqAdds", fn := fun _ => fun
  | [d] => { results := [.lit (.bool true)], args := [d] }
  | _ => none }
def seqAddsRow : OpenClaim := { program := "ytahnhhbgkmlfcaadoor", sum := "065e39bfcad145d6650caac0214e0f374cfb89e8b0fe3dcf8fa0533ffc711a4f", func := "auspex/auspexlaw06.SeqAdds", spec := "seqAdds", unfollowed := true, recurses := true, named := ["auspex/inst.codes"], apart := false, laid := [("auspex/inst.codes", laid_auspex_inst_codes)] }
def SeqAddsSaid : Prop := seqAddsRow.holds Tryd.pinned (OpenSpec.ofChange seqAddsSpec)

/-- ITS FALSE NEIGHBOUR: 'it returns false'. Refute it at one input. -/
def seqAddsWrong : ChangeSpec := { name := "seqAdds", fn := fun _ => fun
  | [d] => { results := [.lit (.bool false)], args := [d] }
  | _ => none }
def SeqAddsWrongFalsely : Prop := seqAddsRow.holds Tryd.pinned (OpenSpec.ofChange seqAddsWrong)

/-- 'auspexlaw07.TraceTells': WHATEVER THE INPUT: true; the input reads as it did. -/
def traceTellsSpec : ChangeSpec := { name := "traceTells", fn := fun _ => fun
  | [d1, d2, d3, d4] => { results := [.lit (.bool true)], args := [d1, d2, d3, d4] }
  | _ => none }
def traceTellsRow : OpenClaim := { program := "ytahnhhbgkmlfcaadoor", sum := "065e39bfcad145d6650caac0214e0f374cfb89e8b0fe3dcf8fa0533ffc711a4f", func := "auspex/auspexlaw07.TraceTells", spec := "traceTells", unfollowed := true, recurses := true, named := ["auspex/inst.codes"], apart := false, laid := [("auspex/inst.codes", laid_auspex_inst_codes)] }
def TraceTellsSaid : Prop := traceTellsRow.holds Tryd.pinned (OpenSpec.ofChange traceTellsSpec)

/-- ITS FALSE NEIGHBOUR: 'it returns false'. Refute it at one input. -/
def traceTellsWrong : ChangeSpec := { name := "traceTells", fn := fun _ => fun
  | [d1, d2, d3, d4] => { results := [.lit (.bool false)], args := [d1, d2, d3, d4] }
  | _ => none }
def TraceTellsWrongFalsely : Prop := traceTellsRow.holds Tryd.pinned (OpenSpec.ofChange traceTellsWrong)

/-- 'auspexlaw07.TraceRuns': WHATEVER THE INPUT: true; the input reads as it did. -/
def traceRunsSpec : ChangeSpec := { name := "traceRuns", fn := fun _ => fun
  | [d1, d2, d3, d4, d5] => { results := [.lit (.bool true)], args := [d1, d2, d3, d4, d5] }
  | _ => none }
def traceRunsRow : OpenClaim := { program := "ytahnhhbgkmlfcaadoor", sum := "065e39bfcad145d6650caac0214e0f374cfb89e8b0fe3dcf8fa0533ffc711a4f", func := "auspex/auspexlaw07.TraceRuns", spec := "traceRuns", unfollowed := true, recurses := true, named := ["auspex/inst.codes"], apart := false, laid := [("auspex/inst.codes", laid_auspex_inst_codes)] }
def TraceRunsSaid : Prop := traceRunsRow.holds Tryd.pinned (OpenSpec.ofChange traceRunsSpec)

/-- ITS FALSE NEIGHBOUR: 'it returns false'. Refute it at one input. -/
def traceRunsWrong : ChangeSpec := { name := "traceRuns", fn := fun _ => fun
  | [d1, d2, d3, d4, d5] => { results := [.lit (.bool false)], args := [d1, d2, d3, d4, d5] }
  | _ => none }
def TraceRunsWrongFalsely : Prop := traceRunsRow.holds Tryd.pinned (OpenSpec.ofChange traceRunsWrong)

/- THE SECOND FORM. 'bulk': how many values and letters a reading holds, each counted each time it is reached (what is shared counts as often as it is met; a slice's spare places count too). A statement '..UptoSaid' is the law's where the arguments, and the package variables that the reading takes, are together of bulk at most 1048576: NARROWER than '..Said'. Prove '..Said' where nothing that the law and all that it calls make is longer than what came in: it says more and counts as full. Else prove '..UptoSaid'. A law counts once. -/
mutual
def uptoBulk {H : Type} : DataW H → Nat
  | .lit (.string bytes) => bytes.length + 1
  | .lit _ => 1
  | .nil => 1
  | .ptr d => uptoBulk d + 1
  | .slice elems spare => uptoBulkAll elems + uptoBulkAll spare + 1
  | .agg parts => uptoBulkAll parts + 1
  | .iface _ d => uptoBulk d + 1
  | .map entries => uptoBulkEntries entries + 1
  | .held _ => 1
def uptoBulkAll {H : Type} : List (DataW H) → Nat
  | [] => 0
  | d :: r => uptoBulk d + uptoBulkAll r
def uptoBulkEntries {H : Type} : List (Lit × DataW H) → Nat
  | [] => 0
  | x :: r => uptoBulkEntry x + uptoBulkEntries r
def uptoBulkEntry {H : Type} : Lit × DataW H → Nat
  | (.string bytes, d) => bytes.length + uptoBulk d + 1
  | (_, d) => uptoBulk d + 1
 end
def uptoSmall : (H : Type) → List (DataW H) → Bool := fun _ ds => decide (uptoBulkAll ds ≤ 1048576)
def OpenSpec.upto (s : _root_.Go.ChangeSpec) : _root_.Go.OpenSpec := { _root_.Go.OpenSpec.ofChange s with cond := some uptoSmall }

/-- 'auspexlaw06.SeqRuns', WHERE WHAT IT READS IS OF BULK AT MOST 1048576: true; the input reads as it did. -/
def seqRunsUptoRow : OpenClaim := { program := "ytahnhhbgkmlfcaadoor", sum := "065e39bfcad145d6650caac0214e0f374cfb89e8b0fe3dcf8fa0533ffc711a4f", func := "auspex/auspexlaw06.SeqRuns", spec := "seqRuns", unfollowed := true, recurses := true, named := ["auspex/inst.codes"], apart := false, laid := [("auspex/inst.codes", laid_auspex_inst_codes)], narrowed := true }
def SeqRunsUptoSaid : Prop := seqRunsUptoRow.holds Tryd.pinned (OpenSpec.upto seqRunsSpec)

/-- 'auspexlaw06.SeqGoes', WHERE WHAT IT READS IS OF BULK AT MOST 1048576: true; the input reads as it did. -/
def seqGoesUptoRow : OpenClaim := { program := "ytahnhhbgkmlfcaadoor", sum := "065e39bfcad145d6650caac0214e0f374cfb89e8b0fe3dcf8fa0533ffc711a4f", func := "auspex/auspexlaw06.SeqGoes", spec := "seqGoes", unfollowed := true, recurses := true, named := ["auspex/inst.codes"], apart := false, laid := [("auspex/inst.codes", laid_auspex_inst_codes)], narrowed := true }
def SeqGoesUptoSaid : Prop := seqGoesUptoRow.holds Tryd.pinned (OpenSpec.upto seqGoesSpec)

/-- 'auspexlaw06.SeqReads', WHERE WHAT IT READS IS OF BULK AT MOST 1048576: true; the input reads as it did. -/
def seqReadsUptoRow : OpenClaim := { program := "ytahnhhbgkmlfcaadoor", sum := "065e39bfcad145d6650caac0214e0f374cfb89e8b0fe3dcf8fa0533ffc711a4f", func := "auspex/auspexlaw06.SeqReads", spec := "seqReads", unfollowed := true, recurses := true, named := ["auspex/inst.codes"], apart := false, laid := [("auspex/inst.codes", laid_auspex_inst_codes)], narrowed := true }
def SeqReadsUptoSaid : Prop := seqReadsUptoRow.holds Tryd.pinned (OpenSpec.upto seqReadsSpec)

/-- 'auspexlaw06.SeqStops', WHERE WHAT IT READS IS OF BULK AT MOST 1048576: true; the input reads as it did. -/
def seqStopsUptoRow : OpenClaim := { program := "ytahnhhbgkmlfcaadoor", sum := "065e39bfcad145d6650caac0214e0f374cfb89e8b0fe3dcf8fa0533ffc711a4f", func := "auspex/auspexlaw06.SeqStops", spec := "seqStops", unfollowed := true, recurses := true, named := ["auspex/inst.codes"], apart := false, laid := [("auspex/inst.codes", laid_auspex_inst_codes)], narrowed := true }
def SeqStopsUptoSaid : Prop := seqStopsUptoRow.holds Tryd.pinned (OpenSpec.upto seqStopsSpec)

/-- 'auspexlaw06.SeqAdds', WHERE WHAT IT READS IS OF BULK AT MOST 1048576: true; the input reads as it did. -/
def seqAddsUptoRow : OpenClaim := { program := "ytahnhhbgkmlfcaadoor", sum := "065e39bfcad145d6650caac0214e0f374cfb89e8b0fe3dcf8fa0533ffc711a4f", func := "auspex/auspexlaw06.SeqAdds", spec := "seqAdds", unfollowed := true, recurses := true, named := ["auspex/inst.codes"], apart := false, laid := [("auspex/inst.codes", laid_auspex_inst_codes)], narrowed := true }
def SeqAddsUptoSaid : Prop := seqAddsUptoRow.holds Tryd.pinned (OpenSpec.upto seqAddsSpec)

/-- 'auspexlaw07.TraceTells', WHERE WHAT IT READS IS OF BULK AT MOST 1048576: true; the input reads as it did. -/
def traceTellsUptoRow : OpenClaim := { program := "ytahnhhbgkmlfcaadoor", sum := "065e39bfcad145d6650caac0214e0f374cfb89e8b0fe3dcf8fa0533ffc711a4f", func := "auspex/auspexlaw07.TraceTells", spec := "traceTells", unfollowed := true, recurses := true, named := ["auspex/inst.codes"], apart := false, laid := [("auspex/inst.codes", laid_auspex_inst_codes)], narrowed := true }
def TraceTellsUptoSaid : Prop := traceTellsUptoRow.holds Tryd.pinned (OpenSpec.upto traceTellsSpec)

/-- 'auspexlaw07.TraceRuns', WHERE WHAT IT READS IS OF BULK AT MOST 1048576: true; the input reads as it did. -/
def traceRunsUptoRow : OpenClaim := { program := "ytahnhhbgkmlfcaadoor", sum := "065e39bfcad145d6650caac0214e0f374cfb89e8b0fe3dcf8fa0533ffc711a4f", func := "auspex/auspexlaw07.TraceRuns", spec := "traceRuns", unfollowed := true, recurses := true, named := ["auspex/inst.codes"], apart := false, laid := [("auspex/inst.codes", laid_auspex_inst_codes)], narrowed := true }
def TraceRunsUptoSaid : Prop := traceRunsUptoRow.holds Tryd.pinned (OpenSpec.upto traceRunsSpec)

end Rows
end Go.Proofs.YtahnhhbgkmlfcaaDoor
