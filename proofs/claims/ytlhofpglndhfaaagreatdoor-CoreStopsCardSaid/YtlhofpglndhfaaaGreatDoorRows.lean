/-
  NARROWER THAN 'FOR EVERY INPUT', by the rows' own cells (each row's printed sentence says how): CoreNews: laid · CoreRuns: laid · CoreGoes: laid · CoreParts: laid · CoreWild: laid · CoreKeeps: laid · CoreCounts: laid · CoreStops: laid · CoreFirst: laid · WatchRuns: laid · WatchTags: laid · WatchFirst: laid.
  DERIVED. THE GIVEN ROWS OF THIS SEAT. 12 by the template 'for every input the law returns true; each argument reads behind the call as it read before'; 0 by the template 'total and deterministic' (their statements: YtlhofpglndhfaaaGreatDoorTotals.lean).
  GIVEN WITH THE SEED: the statements are not yours to turn. If you find one false, say at which input.
  Laid BY PROGRAM, IN A SANDBOX (cutbox-rows.mjs): the forced cells as the released guide's own fill.sh prints them over the translation 5a6feb24359c83b8… (all of the seat's roots in one cut). By AI agents, Wed Nov 11 2026. No macro, syntax, notation, axiom, sorry.
-/
import Derived.Test.YtlhofpglndhfaaaGreatDoorChecked
import GoSem.Claim
import GoSem.ClaimJoined
import GoSem.ClaimMapViews
import Derived.JoinedTies
import Derived.KernelRfl
namespace Go.Proofs.YtlhofpglndhfaaaGreatDoor
/- THE CELL 'sum', in the pinned program and in every row, IS THE sha256 OF THE DUMP (.gsa) THAT YtlhofpglndhfaaaGreatDoorProg.lean LOADS. Nothing in Lean hashes anything: it is a label: what it is worth is what the hold of that sum in a sandbox is worth. -/
noncomputable def Tryz.pinned : Pinned := { name := "ytlhofpglndhfaaagreatdoor", sum := "5a6feb24359c83b8a5ea75dcf1a0d808ed4ba52fcb08196dc6a8cffdf2d3d21e", checked := Tryz.checked }
namespace Rows
def none {H : Type} : Left H := { results := [], args := [] }

/- WHAT THE LISTED PACKAGE-LEVEL VARIABLES READ AS WHEN THE CALL BEGINS. Each datum BY PROGRAM (the guide's laid-datum.mjs) off the statement by which the dump's own 'gosem.cut.vars' lays the variable. In a bare row this is a premise. The card (YtlhofpglndhfaaaGreatDoorCards.lean) ties it to the program's text. -/
def laid_auspex_inst_codes {H : Type} : DataW H := .agg [.lit (.int .u32 0), .lit (.int .u32 55), .lit (.int .u32 23), .lit (.int .u32 111), .lit (.int .u32 103), .lit (.int .u32 99), .lit (.int .u32 4195), .lit (.int .u32 16483), .lit (.int .u32 20579), .lit (.int .u32 24675), .lit (.int .u32 28771), .lit (.int .u32 3), .lit (.int .u32 4099), .lit (.int .u32 8195), .lit (.int .u32 16387), .lit (.int .u32 20483), .lit (.int .u32 35), .lit (.int .u32 4131), .lit (.int .u32 8227), .lit (.int .u32 19), .lit (.int .u32 8211), .lit (.int .u32 12307), .lit (.int .u32 16403), .lit (.int .u32 24595), .lit (.int .u32 28691), .lit (.int .u32 4115), .lit (.int .u32 20499), .lit (.int .u32 1073762323), .lit (.int .u32 51), .lit (.int .u32 1073741875), .lit (.int .u32 4147), .lit (.int .u32 8243), .lit (.int .u32 12339), .lit (.int .u32 16435), .lit (.int .u32 20531), .lit (.int .u32 1073762355), .lit (.int .u32 24627), .lit (.int .u32 28723), .lit (.int .u32 33554483), .lit (.int .u32 33558579), .lit (.int .u32 33562675), .lit (.int .u32 33566771), .lit (.int .u32 33570867), .lit (.int .u32 33574963), .lit (.int .u32 33579059), .lit (.int .u32 33583155), .lit (.int .u32 15), .lit (.int .u32 115), .lit (.int .u32 1048691)]

/-- 'auspexlaw21.CoreNews': WHATEVER THE INPUT: true; the input reads as it did. -/
def coreNewsSpec : ChangeSpec := { name := "coreNews", fn := fun _ => fun
  | [d1, d2, d3] => { results := [.lit (.bool true)], args := [d1, d2, d3] }
  | _ => none }
def coreNewsRow : OpenClaim := { program := "ytlhofpglndhfaaagreatdoor", sum := "5a6feb24359c83b8a5ea75dcf1a0d808ed4ba52fcb08196dc6a8cffdf2d3d21e", func := "auspex/auspexlaw21.CoreNews", spec := "coreNews", unfollowed := true, recurses := true, named := ["auspex/inst.codes"], apart := false, laid := [("auspex/inst.codes", laid_auspex_inst_codes)] }
def CoreNewsSaid : Prop := coreNewsRow.holds Tryz.pinned (OpenSpec.ofChange coreNewsSpec)

/-- ITS FALSE NEIGHBOUR: 'it returns false'. Refute it at one input. -/
def coreNewsWrong : ChangeSpec := { name := "coreNews", fn := fun _ => fun
  | [d1, d2, d3] => { results := [.lit (.bool false)], args := [d1, d2, d3] }
  | _ => none }
def CoreNewsWrongFalsely : Prop := coreNewsRow.holds Tryz.pinned (OpenSpec.ofChange coreNewsWrong)

/-- 'auspexlaw21.CoreRuns': WHATEVER THE INPUT: true; the input reads as it did. -/
def coreRunsSpec : ChangeSpec := { name := "coreRuns", fn := fun _ => fun
  | [d1, d2, d3, d4] => { results := [.lit (.bool true)], args := [d1, d2, d3, d4] }
  | _ => none }
def coreRunsRow : OpenClaim := { program := "ytlhofpglndhfaaagreatdoor", sum := "5a6feb24359c83b8a5ea75dcf1a0d808ed4ba52fcb08196dc6a8cffdf2d3d21e", func := "auspex/auspexlaw21.CoreRuns", spec := "coreRuns", unfollowed := true, recurses := true, named := ["auspex/inst.codes"], apart := false, laid := [("auspex/inst.codes", laid_auspex_inst_codes)] }
def CoreRunsSaid : Prop := coreRunsRow.holds Tryz.pinned (OpenSpec.ofChange coreRunsSpec)

/-- ITS FALSE NEIGHBOUR: 'it returns false'. Refute it at one input. -/
def coreRunsWrong : ChangeSpec := { name := "coreRuns", fn := fun _ => fun
  | [d1, d2, d3, d4] => { results := [.lit (.bool false)], args := [d1, d2, d3, d4] }
  | _ => none }
def CoreRunsWrongFalsely : Prop := coreRunsRow.holds Tryz.pinned (OpenSpec.ofChange coreRunsWrong)

/-- 'auspexlaw21.CoreGoes': WHATEVER THE INPUT: true; the input reads as it did. -/
def coreGoesSpec : ChangeSpec := { name := "coreGoes", fn := fun _ => fun
  | [d1, d2, d3, d4] => { results := [.lit (.bool true)], args := [d1, d2, d3, d4] }
  | _ => none }
def coreGoesRow : OpenClaim := { program := "ytlhofpglndhfaaagreatdoor", sum := "5a6feb24359c83b8a5ea75dcf1a0d808ed4ba52fcb08196dc6a8cffdf2d3d21e", func := "auspex/auspexlaw21.CoreGoes", spec := "coreGoes", unfollowed := true, recurses := true, named := ["auspex/inst.codes"], apart := false, laid := [("auspex/inst.codes", laid_auspex_inst_codes)] }
def CoreGoesSaid : Prop := coreGoesRow.holds Tryz.pinned (OpenSpec.ofChange coreGoesSpec)

/-- ITS FALSE NEIGHBOUR: 'it returns false'. Refute it at one input. -/
def coreGoesWrong : ChangeSpec := { name := "coreGoes", fn := fun _ => fun
  | [d1, d2, d3, d4] => { results := [.lit (.bool false)], args := [d1, d2, d3, d4] }
  | _ => none }
def CoreGoesWrongFalsely : Prop := coreGoesRow.holds Tryz.pinned (OpenSpec.ofChange coreGoesWrong)

/-- 'auspexlaw21.CoreParts': WHATEVER THE INPUT: true; the input reads as it did. -/
def corePartsSpec : ChangeSpec := { name := "coreParts", fn := fun _ => fun
  | [d1, d2, d3, d4, d5] => { results := [.lit (.bool true)], args := [d1, d2, d3, d4, d5] }
  | _ => none }
def corePartsRow : OpenClaim := { program := "ytlhofpglndhfaaagreatdoor", sum := "5a6feb24359c83b8a5ea75dcf1a0d808ed4ba52fcb08196dc6a8cffdf2d3d21e", func := "auspex/auspexlaw21.CoreParts", spec := "coreParts", unfollowed := true, recurses := true, named := ["auspex/inst.codes"], apart := false, laid := [("auspex/inst.codes", laid_auspex_inst_codes)] }
def CorePartsSaid : Prop := corePartsRow.holds Tryz.pinned (OpenSpec.ofChange corePartsSpec)

/-- ITS FALSE NEIGHBOUR: 'it returns false'. Refute it at one input. -/
def corePartsWrong : ChangeSpec := { name := "coreParts", fn := fun _ => fun
  | [d1, d2, d3, d4, d5] => { results := [.lit (.bool false)], args := [d1, d2, d3, d4, d5] }
  | _ => none }
def CorePartsWrongFalsely : Prop := corePartsRow.holds Tryz.pinned (OpenSpec.ofChange corePartsWrong)

/-- 'auspexlaw21.CoreWild': WHATEVER THE INPUT: true; the input reads as it did. -/
def coreWildSpec : ChangeSpec := { name := "coreWild", fn := fun _ => fun
  | [d] => { results := [.lit (.bool true)], args := [d] }
  | _ => none }
def coreWildRow : OpenClaim := { program := "ytlhofpglndhfaaagreatdoor", sum := "5a6feb24359c83b8a5ea75dcf1a0d808ed4ba52fcb08196dc6a8cffdf2d3d21e", func := "auspex/auspexlaw21.CoreWild", spec := "coreWild", unfollowed := true, recurses := true, named := ["auspex/inst.codes"], apart := false, laid := [("auspex/inst.codes", laid_auspex_inst_codes)] }
def CoreWildSaid : Prop := coreWildRow.holds Tryz.pinned (OpenSpec.ofChange coreWildSpec)

/-- ITS FALSE NEIGHBOUR: 'it returns false'. Refute it at one input. -/
def coreWildWrong : ChangeSpec := { name := "coreWild", fn := fun _ => fun
  | [d] => { results := [.lit (.bool false)], args := [d] }
  | _ => none }
def CoreWildWrongFalsely : Prop := coreWildRow.holds Tryz.pinned (OpenSpec.ofChange coreWildWrong)

/-- 'auspexlaw21.CoreKeeps': WHATEVER THE INPUT: true; the input reads as it did. -/
def coreKeepsSpec : ChangeSpec := { name := "coreKeeps", fn := fun _ => fun
  | [d1, d2, d3, d4] => { results := [.lit (.bool true)], args := [d1, d2, d3, d4] }
  | _ => none }
def coreKeepsRow : OpenClaim := { program := "ytlhofpglndhfaaagreatdoor", sum := "5a6feb24359c83b8a5ea75dcf1a0d808ed4ba52fcb08196dc6a8cffdf2d3d21e", func := "auspex/auspexlaw21.CoreKeeps", spec := "coreKeeps", unfollowed := true, recurses := true, named := ["auspex/inst.codes"], apart := false, laid := [("auspex/inst.codes", laid_auspex_inst_codes)] }
def CoreKeepsSaid : Prop := coreKeepsRow.holds Tryz.pinned (OpenSpec.ofChange coreKeepsSpec)

/-- ITS FALSE NEIGHBOUR: 'it returns false'. Refute it at one input. -/
def coreKeepsWrong : ChangeSpec := { name := "coreKeeps", fn := fun _ => fun
  | [d1, d2, d3, d4] => { results := [.lit (.bool false)], args := [d1, d2, d3, d4] }
  | _ => none }
def CoreKeepsWrongFalsely : Prop := coreKeepsRow.holds Tryz.pinned (OpenSpec.ofChange coreKeepsWrong)

/-- 'auspexlaw21.CoreCounts': WHATEVER THE INPUT: true; the input reads as it did. -/
def coreCountsSpec : ChangeSpec := { name := "coreCounts", fn := fun _ => fun
  | [d1, d2, d3, d4] => { results := [.lit (.bool true)], args := [d1, d2, d3, d4] }
  | _ => none }
def coreCountsRow : OpenClaim := { program := "ytlhofpglndhfaaagreatdoor", sum := "5a6feb24359c83b8a5ea75dcf1a0d808ed4ba52fcb08196dc6a8cffdf2d3d21e", func := "auspex/auspexlaw21.CoreCounts", spec := "coreCounts", unfollowed := true, recurses := true, named := ["auspex/inst.codes"], apart := false, laid := [("auspex/inst.codes", laid_auspex_inst_codes)] }
def CoreCountsSaid : Prop := coreCountsRow.holds Tryz.pinned (OpenSpec.ofChange coreCountsSpec)

/-- ITS FALSE NEIGHBOUR: 'it returns false'. Refute it at one input. -/
def coreCountsWrong : ChangeSpec := { name := "coreCounts", fn := fun _ => fun
  | [d1, d2, d3, d4] => { results := [.lit (.bool false)], args := [d1, d2, d3, d4] }
  | _ => none }
def CoreCountsWrongFalsely : Prop := coreCountsRow.holds Tryz.pinned (OpenSpec.ofChange coreCountsWrong)

/-- 'auspexlaw21.CoreStops': WHATEVER THE INPUT: true; the input reads as it did. -/
def coreStopsSpec : ChangeSpec := { name := "coreStops", fn := fun _ => fun
  | [d1, d2, d3, d4, d5] => { results := [.lit (.bool true)], args := [d1, d2, d3, d4, d5] }
  | _ => none }
def coreStopsRow : OpenClaim := { program := "ytlhofpglndhfaaagreatdoor", sum := "5a6feb24359c83b8a5ea75dcf1a0d808ed4ba52fcb08196dc6a8cffdf2d3d21e", func := "auspex/auspexlaw21.CoreStops", spec := "coreStops", unfollowed := true, recurses := true, named := ["auspex/inst.codes"], apart := false, laid := [("auspex/inst.codes", laid_auspex_inst_codes)] }
def CoreStopsSaid : Prop := coreStopsRow.holds Tryz.pinned (OpenSpec.ofChange coreStopsSpec)

/-- ITS FALSE NEIGHBOUR: 'it returns false'. Refute it at one input. -/
def coreStopsWrong : ChangeSpec := { name := "coreStops", fn := fun _ => fun
  | [d1, d2, d3, d4, d5] => { results := [.lit (.bool false)], args := [d1, d2, d3, d4, d5] }
  | _ => none }
def CoreStopsWrongFalsely : Prop := coreStopsRow.holds Tryz.pinned (OpenSpec.ofChange coreStopsWrong)

/-- 'auspexlaw21.CoreFirst': WHATEVER THE INPUT: true; the input reads as it did. -/
def coreFirstSpec : ChangeSpec := { name := "coreFirst", fn := fun _ => fun
  | [d1, d2, d3] => { results := [.lit (.bool true)], args := [d1, d2, d3] }
  | _ => none }
def coreFirstRow : OpenClaim := { program := "ytlhofpglndhfaaagreatdoor", sum := "5a6feb24359c83b8a5ea75dcf1a0d808ed4ba52fcb08196dc6a8cffdf2d3d21e", func := "auspex/auspexlaw21.CoreFirst", spec := "coreFirst", unfollowed := true, recurses := true, named := ["auspex/inst.codes"], apart := false, laid := [("auspex/inst.codes", laid_auspex_inst_codes)] }
def CoreFirstSaid : Prop := coreFirstRow.holds Tryz.pinned (OpenSpec.ofChange coreFirstSpec)

/-- ITS FALSE NEIGHBOUR: 'it returns false'. Refute it at one input. -/
def coreFirstWrong : ChangeSpec := { name := "coreFirst", fn := fun _ => fun
  | [d1, d2, d3] => { results := [.lit (.bool false)], args := [d1, d2, d3] }
  | _ => none }
def CoreFirstWrongFalsely : Prop := coreFirstRow.holds Tryz.pinned (OpenSpec.ofChange coreFirstWrong)

/-- 'auspexlaw22.WatchRuns': WHATEVER THE INPUT: true; the input reads as it did. -/
def watchRunsSpec : ChangeSpec := { name := "watchRuns", fn := fun _ => fun
  | [d1, d2, d3, d4] => { results := [.lit (.bool true)], args := [d1, d2, d3, d4] }
  | _ => none }
def watchRunsRow : OpenClaim := { program := "ytlhofpglndhfaaagreatdoor", sum := "5a6feb24359c83b8a5ea75dcf1a0d808ed4ba52fcb08196dc6a8cffdf2d3d21e", func := "auspex/auspexlaw22.WatchRuns", spec := "watchRuns", unfollowed := true, recurses := true, named := ["auspex/inst.codes"], apart := false, laid := [("auspex/inst.codes", laid_auspex_inst_codes)] }
def WatchRunsSaid : Prop := watchRunsRow.holds Tryz.pinned (OpenSpec.ofChange watchRunsSpec)

/-- ITS FALSE NEIGHBOUR: 'it returns false'. Refute it at one input. -/
def watchRunsWrong : ChangeSpec := { name := "watchRuns", fn := fun _ => fun
  | [d1, d2, d3, d4] => { results := [.lit (.bool false)], args := [d1, d2, d3, d4] }
  | _ => none }
def WatchRunsWrongFalsely : Prop := watchRunsRow.holds Tryz.pinned (OpenSpec.ofChange watchRunsWrong)

/-- 'auspexlaw22.WatchTags': WHATEVER THE INPUT: true; the input reads as it did. -/
def watchTagsSpec : ChangeSpec := { name := "watchTags", fn := fun _ => fun
  | [d1, d2, d3, d4] => { results := [.lit (.bool true)], args := [d1, d2, d3, d4] }
  | _ => none }
def watchTagsRow : OpenClaim := { program := "ytlhofpglndhfaaagreatdoor", sum := "5a6feb24359c83b8a5ea75dcf1a0d808ed4ba52fcb08196dc6a8cffdf2d3d21e", func := "auspex/auspexlaw22.WatchTags", spec := "watchTags", unfollowed := true, recurses := true, named := ["auspex/inst.codes"], apart := false, laid := [("auspex/inst.codes", laid_auspex_inst_codes)] }
def WatchTagsSaid : Prop := watchTagsRow.holds Tryz.pinned (OpenSpec.ofChange watchTagsSpec)

/-- ITS FALSE NEIGHBOUR: 'it returns false'. Refute it at one input. -/
def watchTagsWrong : ChangeSpec := { name := "watchTags", fn := fun _ => fun
  | [d1, d2, d3, d4] => { results := [.lit (.bool false)], args := [d1, d2, d3, d4] }
  | _ => none }
def WatchTagsWrongFalsely : Prop := watchTagsRow.holds Tryz.pinned (OpenSpec.ofChange watchTagsWrong)

/-- 'auspexlaw22.WatchFirst': WHATEVER THE INPUT: true; the input reads as it did. -/
def watchFirstSpec : ChangeSpec := { name := "watchFirst", fn := fun _ => fun
  | [d1, d2, d3, d4, d5, d6] => { results := [.lit (.bool true)], args := [d1, d2, d3, d4, d5, d6] }
  | _ => none }
def watchFirstRow : OpenClaim := { program := "ytlhofpglndhfaaagreatdoor", sum := "5a6feb24359c83b8a5ea75dcf1a0d808ed4ba52fcb08196dc6a8cffdf2d3d21e", func := "auspex/auspexlaw22.WatchFirst", spec := "watchFirst", unfollowed := true, recurses := true, named := ["auspex/inst.codes"], apart := false, laid := [("auspex/inst.codes", laid_auspex_inst_codes)] }
def WatchFirstSaid : Prop := watchFirstRow.holds Tryz.pinned (OpenSpec.ofChange watchFirstSpec)

/-- ITS FALSE NEIGHBOUR: 'it returns false'. Refute it at one input. -/
def watchFirstWrong : ChangeSpec := { name := "watchFirst", fn := fun _ => fun
  | [d1, d2, d3, d4, d5, d6] => { results := [.lit (.bool false)], args := [d1, d2, d3, d4, d5, d6] }
  | _ => none }
def WatchFirstWrongFalsely : Prop := watchFirstRow.holds Tryz.pinned (OpenSpec.ofChange watchFirstWrong)

/- THE SECOND FORM. 'bulk': how many values and letters a reading holds, each counted each time it is reached (what is shared counts as often as it is met; a slice's spare places count too). A statement '..UptoSaid' is the law's where the arguments, and the package variables that the reading takes, are together of bulk at most 1048576: NARROWER than '..Said'. Prove '..Said' where nothing that the law and all that it calls make is longer than what came in: it says more and counts as full. Else prove '..UptoSaid'. A law counts once. -/
mutual
def uptoBulk {H : Type} : DataW H → Nat
  | .lit (.string bytes) => bytes.length + 1
  | .lit _ => 1
  | .nil => 1
  | .ptr d => uptoBulk d + 1
  | .slice elems spare => uptoBulkAll elems + uptoBulkAll spare + 1
  | .agg parts => uptoBulkAll parts + 1
  | .iface _ d => uptoBulk d + 1
  | .map entries => uptoBulkEntries entries + 1
  | .held _ => 1
def uptoBulkAll {H : Type} : List (DataW H) → Nat
  | [] => 0
  | d :: r => uptoBulk d + uptoBulkAll r
def uptoBulkEntries {H : Type} : List (Lit × DataW H) → Nat
  | [] => 0
  | x :: r => uptoBulkEntry x + uptoBulkEntries r
def uptoBulkEntry {H : Type} : Lit × DataW H → Nat
  | (.string bytes, d) => bytes.length + uptoBulk d + 1
  | (_, d) => uptoBulk d + 1
 end
def uptoSmall : (H : Type) → List (DataW H) → Bool := fun _ ds => decide (uptoBulkAll ds ≤ 1048576)
def OpenSpec.upto (s : _root_.Go.ChangeSpec) : _root_.Go.OpenSpec := { _root_.Go.OpenSpec.ofChange s with cond := some uptoSmall }

/-- 'auspexlaw21.CoreNews', WHERE WHAT IT READS IS OF BULK AT MOST 1048576: true; the input reads as it did. -/
def coreNewsUptoRow : OpenClaim := { program := "ytlhofpglndhfaaagreatdoor", sum := "5a6feb24359c83b8a5ea75dcf1a0d808ed4ba52fcb08196dc6a8cffdf2d3d21e", func := "auspex/auspexlaw21.CoreNews", spec := "coreNews", unfollowed := true, recurses := true, named := ["auspex/inst.codes"], apart := false, laid := [("auspex/inst.codes", laid_auspex_inst_codes)], narrowed := true }
def CoreNewsUptoSaid : Prop := coreNewsUptoRow.holds Tryz.pinned (OpenSpec.upto coreNewsSpec)

/-- 'auspexlaw21.CoreRuns', WHERE WHAT IT READS IS OF BULK AT MOST 1048576: true; the input reads as it did. -/
def coreRunsUptoRow : OpenClaim := { program := "ytlhofpglndhfaaagreatdoor", sum := "5a6feb24359c83b8a5ea75dcf1a0d808ed4ba52fcb08196dc6a8cffdf2d3d21e", func := "auspex/auspexlaw21.CoreRuns", spec := "coreRuns", unfollowed := true, recurses := true, named := ["auspex/inst.codes"], apart := false, laid := [("auspex/inst.codes", laid_auspex_inst_codes)], narrowed := true }
def CoreRunsUptoSaid : Prop := coreRunsUptoRow.holds Tryz.pinned (OpenSpec.upto coreRunsSpec)

/-- 'auspexlaw21.CoreGoes', WHERE WHAT IT READS IS OF BULK AT MOST 1048576: true; the input reads as it did. -/
def coreGoesUptoRow : OpenClaim := { program := "ytlhofpglndhfaaagreatdoor", sum := "5a6feb24359c83b8a5ea75dcf1a0d808ed4ba52fcb08196dc6a8cffdf2d3d21e", func := "auspex/auspexlaw21.CoreGoes", spec := "coreGoes", unfollowed := true, recurses := true, named := ["auspex/inst.codes"], apart := false, laid := [("auspex/inst.codes", laid_auspex_inst_codes)], narrowed := true }
def CoreGoesUptoSaid : Prop := coreGoesUptoRow.holds Tryz.pinned (OpenSpec.upto coreGoesSpec)

/-- 'auspexlaw21.CoreParts', WHERE WHAT IT READS IS OF BULK AT MOST 1048576: true; the input reads as it did. -/
def corePartsUptoRow : OpenClaim := { program := "ytlhofpglndhfaaagreatdoor", sum := "5a6feb24359c83b8a5ea75dcf1a0d808ed4ba52fcb08196dc6a8cffdf2d3d21e", func := "auspex/auspexlaw21.CoreParts", spec := "coreParts", unfollowed := true, recurses := true, named := ["auspex/inst.codes"], apart := false, laid := [("auspex/inst.codes", laid_auspex_inst_codes)], narrowed := true }
def CorePartsUptoSaid : Prop := corePartsUptoRow.holds Tryz.pinned (OpenSpec.upto corePartsSpec)

/-- 'auspexlaw21.CoreWild', WHERE WHAT IT READS IS OF BULK AT MOST 1048576: true; the input reads as it did. -/
def coreWildUptoRow : OpenClaim := { program := "ytlhofpglndhfaaagreatdoor", sum := "5a6feb24359c83b8a5ea75dcf1a0d808ed4ba52fcb08196dc6a8cffdf2d3d21e", func := "auspex/auspexlaw21.CoreWild", spec := "coreWild", unfollowed := true, recurses := true, named := ["auspex/inst.codes"], apart := false, laid := [("auspex/inst.codes", laid_auspex_inst_codes)], narrowed := true }
def CoreWildUptoSaid : Prop := coreWildUptoRow.holds Tryz.pinned (OpenSpec.upto coreWildSpec)

/-- 'auspexlaw21.CoreKeeps', WHERE WHAT IT READS IS OF BULK AT MOST 1048576: true; the input reads as it did. -/
def coreKeepsUptoRow : OpenClaim := { program := "ytlhofpglndhfaaagreatdoor", sum := "5a6feb24359c83b8a5ea75dcf1a0d808ed4ba52fcb08196dc6a8cffdf2d3d21e", func := "auspex/auspexlaw21.CoreKeeps", spec := "coreKeeps", unfollowed := true, recurses := true, named := ["auspex/inst.codes"], apart := false, laid := [("auspex/inst.codes", laid_auspex_inst_codes)], narrowed := true }
def CoreKeepsUptoSaid : Prop := coreKeepsUptoRow.holds Tryz.pinned (OpenSpec.upto coreKeepsSpec)

/-- 'auspexlaw21.CoreCounts', WHERE WHAT IT READS IS OF BULK AT MOST 1048576: true; the input reads as it did. -/
def coreCountsUptoRow : OpenClaim := { program := "ytlhofpglndhfaaagreatdoor", sum := "5a6feb24359c83b8a5ea75dcf1a0d808ed4ba52fcb08196dc6a8cffdf2d3d21e", func := "auspex/auspexlaw21.CoreCounts", spec := "coreCounts", unfollowed := true, recurses := true, named := ["auspex/inst.codes"], apart := false, laid := [("auspex/inst.codes", laid_auspex_inst_codes)], narrowed := true }
def CoreCountsUptoSaid : Prop := coreCountsUptoRow.holds Tryz.pinned (OpenSpec.upto coreCountsSpec)

/-- 'auspexlaw21.CoreStops', WHERE WHAT IT READS IS OF BULK AT MOST 1048576: true; the input reads as it did. -/
def coreStopsUptoRow : OpenClaim := { program := "ytlhofpglndhfaaagreatdoor", sum := "5a6feb24359c83b8a5ea75dcf1a0d808ed4ba52fcb08196dc6a8cffdf2d3d21e", func := "auspex/auspexlaw21.CoreStops", spec := "coreStops", unfollowed := true, recurses := true, named := ["auspex/inst.codes"], apart := false, laid := [("auspex/inst.codes", laid_auspex_inst_codes)], narrowed := true }
def CoreStopsUptoSaid : Prop := coreStopsUptoRow.holds Tryz.pinned (OpenSpec.upto coreStopsSpec)

/-- 'auspexlaw21.CoreFirst', WHERE WHAT IT READS IS OF BULK AT MOST 1048576: true; the input reads as it did. -/
def coreFirstUptoRow : OpenClaim := { program := "ytlhofpglndhfaaagreatdoor", sum := "5a6feb24359c83b8a5ea75dcf1a0d808ed4ba52fcb08196dc6a8cffdf2d3d21e", func := "auspex/auspexlaw21.CoreFirst", spec := "coreFirst", unfollowed := true, recurses := true, named := ["auspex/inst.codes"], apart := false, laid := [("auspex/inst.codes", laid_auspex_inst_codes)], narrowed := true }
def CoreFirstUptoSaid : Prop := coreFirstUptoRow.holds Tryz.pinned (OpenSpec.upto coreFirstSpec)

/-- 'auspexlaw22.WatchRuns', WHERE WHAT IT READS IS OF BULK AT MOST 1048576: true; the input reads as it did. -/
def watchRunsUptoRow : OpenClaim := { program := "ytlhofpglndhfaaagreatdoor", sum := "5a6feb24359c83b8a5ea75dcf1a0d808ed4ba52fcb08196dc6a8cffdf2d3d21e", func := "auspex/auspexlaw22.WatchRuns", spec := "watchRuns", unfollowed := true, recurses := true, named := ["auspex/inst.codes"], apart := false, laid := [("auspex/inst.codes", laid_auspex_inst_codes)], narrowed := true }
def WatchRunsUptoSaid : Prop := watchRunsUptoRow.holds Tryz.pinned (OpenSpec.upto watchRunsSpec)

/-- 'auspexlaw22.WatchTags', WHERE WHAT IT READS IS OF BULK AT MOST 1048576: true; the input reads as it did. -/
def watchTagsUptoRow : OpenClaim := { program := "ytlhofpglndhfaaagreatdoor", sum := "5a6feb24359c83b8a5ea75dcf1a0d808ed4ba52fcb08196dc6a8cffdf2d3d21e", func := "auspex/auspexlaw22.WatchTags", spec := "watchTags", unfollowed := true, recurses := true, named := ["auspex/inst.codes"], apart := false, laid := [("auspex/inst.codes", laid_auspex_inst_codes)], narrowed := true }
def WatchTagsUptoSaid : Prop := watchTagsUptoRow.holds Tryz.pinned (OpenSpec.upto watchTagsSpec)

/-- 'auspexlaw22.WatchFirst', WHERE WHAT IT READS IS OF BULK AT MOST 1048576: true; the input reads as it did. -/
def watchFirstUptoRow : OpenClaim := { program := "ytlhofpglndhfaaagreatdoor", sum := "5a6feb24359c83b8a5ea75dcf1a0d808ed4ba52fcb08196dc6a8cffdf2d3d21e", func := "auspex/auspexlaw22.WatchFirst", spec := "watchFirst", unfollowed := true, recurses := true, named := ["auspex/inst.codes"], apart := false, laid := [("auspex/inst.codes", laid_auspex_inst_codes)], narrowed := true }
def WatchFirstUptoSaid : Prop := watchFirstUptoRow.holds Tryz.pinned (OpenSpec.upto watchFirstSpec)

end Rows
end Go.Proofs.YtlhofpglndhfaaaGreatDoor
