/-
  NARROWER THAN 'FOR EVERY INPUT', by the rows' own cells (each row's printed sentence says how): TopBlind: laid · TwinTaints: laid · TwinHolds: laid · TwinShows: laid.
  DERIVED. THE GIVEN ROWS OF THIS SEAT. 4 by the template 'for every input the law returns true; each argument reads behind the call as it read before'; 0 by the template 'total and deterministic' (their statements: YtiaekocjeinkjaaGreatDoorTotals.lean).
  GIVEN WITH THE SEED: the statements are not yours to turn. If you find one false, say at which input.
  Laid BY PROGRAM, IN A SANDBOX (cutbox-rows.mjs): the forced cells as the released guide's own fill.sh prints them over the translation 538ac3af4dd8f2c9… (all of the seat's roots in one cut). By AI agents, Wed Nov 11 2026. No macro, syntax, notation, axiom, sorry.
-/
import Derived.Test.YtiaekocjeinkjaaGreatDoorChecked
import GoSem.Claim
import GoSem.ClaimJoined
import GoSem.ClaimMapViews
import Derived.JoinedTies
import Derived.KernelRfl
namespace Go.Proofs.YtiaekocjeinkjaaGreatDoor
/- THE CELL 'sum', in the pinned program and in every row, IS THE sha256 OF THE DUMP (.gsa) THAT YtiaekocjeinkjaaGreatDoorProg.lean LOADS. Nothing in Lean hashes anything: it is a label: what it is worth is what the hold of that sum in a sandbox is worth. -/
noncomputable def Tryz.pinned : Pinned := { name := "ytiaekocjeinkjaagreatdoor", sum := "538ac3af4dd8f2c9bbe815a686595f0e005b431a9c723fb73c5173242b785e44", checked := Tryz.checked }
namespace Rows
def none {H : Type} : Left H := { results := [], args := [] }

/- WHAT THE LISTED PACKAGE-LEVEL VARIABLES READ AS WHEN THE CALL BEGINS. Each datum BY PROGRAM (the guide's laid-datum.mjs) off the statement by which the dump's own 'gosem.cut.vars' lays the variable. In a bare row this is a premise. The card (YtiaekocjeinkjaaGreatDoorCards.lean) ties it to the program's text. -/
def laid_auspex_inst_codes {H : Type} : DataW H := .agg [.lit (.int .u32 0), .lit (.int .u32 55), .lit (.int .u32 23), .lit (.int .u32 111), .lit (.int .u32 103), .lit (.int .u32 99), .lit (.int .u32 4195), .lit (.int .u32 16483), .lit (.int .u32 20579), .lit (.int .u32 24675), .lit (.int .u32 28771), .lit (.int .u32 3), .lit (.int .u32 4099), .lit (.int .u32 8195), .lit (.int .u32 16387), .lit (.int .u32 20483), .lit (.int .u32 35), .lit (.int .u32 4131), .lit (.int .u32 8227), .lit (.int .u32 19), .lit (.int .u32 8211), .lit (.int .u32 12307), .lit (.int .u32 16403), .lit (.int .u32 24595), .lit (.int .u32 28691), .lit (.int .u32 4115), .lit (.int .u32 20499), .lit (.int .u32 1073762323), .lit (.int .u32 51), .lit (.int .u32 1073741875), .lit (.int .u32 4147), .lit (.int .u32 8243), .lit (.int .u32 12339), .lit (.int .u32 16435), .lit (.int .u32 20531), .lit (.int .u32 1073762355), .lit (.int .u32 24627), .lit (.int .u32 28723), .lit (.int .u32 33554483), .lit (.int .u32 33558579), .lit (.int .u32 33562675), .lit (.int .u32 33566771), .lit (.int .u32 33570867), .lit (.int .u32 33574963), .lit (.int .u32 33579059), .lit (.int .u32 33583155), .lit (.int .u32 15), .lit (.int .u32 115), .lit (.int .u32 1048691)]

/-- 'auspextop.TopBlind': WHATEVER THE INPUT: true; the input reads as it did. -/
def topBlindSpec : ChangeSpec := { name := "topBlind", fn := fun _ => fun
  | [d1, d2, d3, d4, d5, d6] => { results := [.lit (.bool true)], args := [d1, d2, d3, d4, d5, d6] }
  | _ => none }
def topBlindRow : OpenClaim := { program := "ytiaekocjeinkjaagreatdoor", sum := "538ac3af4dd8f2c9bbe815a686595f0e005b431a9c723fb73c5173242b785e44", func := "auspex/auspextop.TopBlind", spec := "topBlind", unfollowed := true, recurses := true, named := ["auspex/inst.codes"], apart := false, laid := [("auspex/inst.codes", laid_auspex_inst_codes)] }
def TopBlindSaid : Prop := topBlindRow.holds Tryz.pinned (OpenSpec.ofChange topBlindSpec)

/-- ITS FALSE NEIGHBOUR: 'it returns false'. Refute it at one input. -/
def topBlindWrong : ChangeSpec := { name := "topBlind", fn := fun _ => fun
  | [d1, d2, d3, d4, d5, d6] => { results := [.lit (.bool false)], args := [d1, d2, d3, d4, d5, d6] }
  | _ => none }
def TopBlindWrongFalsely : Prop := topBlindRow.holds Tryz.pinned (OpenSpec.ofChange topBlindWrong)

/-- 'auspexlaw23.TwinTaints': WHATEVER THE INPUT: true; the input reads as it did. -/
def twinTaintsSpec : ChangeSpec := { name := "twinTaints", fn := fun _ => fun
  | [d1, d2, d3, d4, d5] => { results := [.lit (.bool true)], args := [d1, d2, d3, d4, d5] }
  | _ => none }
def twinTaintsRow : OpenClaim := { program := "ytiaekocjeinkjaagreatdoor", sum := "538ac3af4dd8f2c9bbe815a686595f0e005b431a9c723fb73c5173242b785e44", func := "auspex/auspexlaw23.TwinTaints", spec := "twinTaints", unfollowed := true, recurses := true, named := ["auspex/inst.codes"], apart := false, laid := [("auspex/inst.codes", laid_auspex_inst_codes)] }
def TwinTaintsSaid : Prop := twinTaintsRow.holds Tryz.pinned (OpenSpec.ofChange twinTaintsSpec)

/-- ITS FALSE NEIGHBOUR: 'it returns false'. Refute it at one input. -/
def twinTaintsWrong : ChangeSpec := { name := "twinTaints", fn := fun _ => fun
  | [d1, d2, d3, d4, d5] => { results := [.lit (.bool false)], args := [d1, d2, d3, d4, d5] }
  | _ => none }
def TwinTaintsWrongFalsely : Prop := twinTaintsRow.holds Tryz.pinned (OpenSpec.ofChange twinTaintsWrong)

/-- 'auspexlaw23.TwinHolds': WHATEVER THE INPUT: true; the input reads as it did. -/
def twinHoldsSpec : ChangeSpec := { name := "twinHolds", fn := fun _ => fun
  | [d1, d2, d3, d4, d5] => { results := [.lit (.bool true)], args := [d1, d2, d3, d4, d5] }
  | _ => none }
def twinHoldsRow : OpenClaim := { program := "ytiaekocjeinkjaagreatdoor", sum := "538ac3af4dd8f2c9bbe815a686595f0e005b431a9c723fb73c5173242b785e44", func := "auspex/auspexlaw23.TwinHolds", spec := "twinHolds", unfollowed := true, recurses := true, named := ["auspex/inst.codes"], apart := false, laid := [("auspex/inst.codes", laid_auspex_inst_codes)] }
def TwinHoldsSaid : Prop := twinHoldsRow.holds Tryz.pinned (OpenSpec.ofChange twinHoldsSpec)

/-- ITS FALSE NEIGHBOUR: 'it returns false'. Refute it at one input. -/
def twinHoldsWrong : ChangeSpec := { name := "twinHolds", fn := fun _ => fun
  | [d1, d2, d3, d4, d5] => { results := [.lit (.bool false)], args := [d1, d2, d3, d4, d5] }
  | _ => none }
def TwinHoldsWrongFalsely : Prop := twinHoldsRow.holds Tryz.pinned (OpenSpec.ofChange twinHoldsWrong)

/-- 'auspexlaw23.TwinShows': WHATEVER THE INPUT: true; the input reads as it did. -/
def twinShowsSpec : ChangeSpec := { name := "twinShows", fn := fun _ => fun
  | [d] => { results := [.lit (.bool true)], args := [d] }
  | _ => none }
def twinShowsRow : OpenClaim := { program := "ytiaekocjeinkjaagreatdoor", sum := "538ac3af4dd8f2c9bbe815a686595f0e005b431a9c723fb73c5173242b785e44", func := "auspex/auspexlaw23.TwinShows", spec := "twinShows", inPlace := ["internal/abi.NoEscape", "internal/bytealg.MakeNoZero"], unfollowed := true, recurses := true, named := ["auspex/inst.codes"], apart := false, laid := [("auspex/inst.codes", laid_auspex_inst_codes)] }
def TwinShowsSaid : Prop := twinShowsRow.holds Tryz.pinned (OpenSpec.ofChange twinShowsSpec)

/-- ITS FALSE NEIGHBOUR: 'it returns false'. Refute it at one input. -/
def twinShowsWrong : ChangeSpec := { name := "twinShows", fn := fun _ => fun
  | [d] => { results := [.lit (.bool false)], args := [d] }
  | _ => none }
def TwinShowsWrongFalsely : Prop := twinShowsRow.holds Tryz.pinned (OpenSpec.ofChange twinShowsWrong)

/- THE SECOND FORM. 'bulk': how many values and letters a reading holds, each counted each time it is reached (what is shared counts as often as it is met; a slice's spare places count too). A statement '..UptoSaid' is the law's where the arguments, and the package variables that the reading takes, are together of bulk at most 1048576: NARROWER than '..Said'. Prove '..Said' where nothing that the law and all that it calls make is longer than what came in: it says more and counts as full. Else prove '..UptoSaid'. A law counts once. -/
mutual
def uptoBulk {H : Type} : DataW H → Nat
  | .lit (.string bytes) => bytes.length + 1
  | .lit _ => 1
  | .nil => 1
  | .ptr d => uptoBulk d + 1
  | .slice elems spare => uptoBulkAll elems + uptoBulkAll spare + 1
  | .agg parts => uptoBulkAll parts + 1
  | .iface _ d => uptoBulk d + 1
  | .map entries => uptoBulkEntries entries + 1
  | .held _ => 1
def uptoBulkAll {H : Type} : List (DataW H) → Nat
  | [] => 0
  | d :: r => uptoBulk d + uptoBulkAll r
def uptoBulkEntries {H : Type} : List (Lit × DataW H) → Nat
  | [] => 0
  | x :: r => uptoBulkEntry x + uptoBulkEntries r
def uptoBulkEntry {H : Type} : Lit × DataW H → Nat
  | (.string bytes, d) => bytes.length + uptoBulk d + 1
  | (_, d) => uptoBulk d + 1
 end
def uptoSmall : (H : Type) → List (DataW H) → Bool := fun _ ds => decide (uptoBulkAll ds ≤ 1048576)
def OpenSpec.upto (s : _root_.Go.ChangeSpec) : _root_.Go.OpenSpec := { _root_.Go.OpenSpec.ofChange s with cond := some uptoSmall }

/-- 'auspextop.TopBlind', WHERE WHAT IT READS IS OF BULK AT MOST 1048576: true; the input reads as it did. -/
def topBlindUptoRow : OpenClaim := { program := "ytiaekocjeinkjaagreatdoor", sum := "538ac3af4dd8f2c9bbe815a686595f0e005b431a9c723fb73c5173242b785e44", func := "auspex/auspextop.TopBlind", spec := "topBlind", unfollowed := true, recurses := true, named := ["auspex/inst.codes"], apart := false, laid := [("auspex/inst.codes", laid_auspex_inst_codes)], narrowed := true }
def TopBlindUptoSaid : Prop := topBlindUptoRow.holds Tryz.pinned (OpenSpec.upto topBlindSpec)

/-- 'auspexlaw23.TwinTaints', WHERE WHAT IT READS IS OF BULK AT MOST 1048576: true; the input reads as it did. -/
def twinTaintsUptoRow : OpenClaim := { program := "ytiaekocjeinkjaagreatdoor", sum := "538ac3af4dd8f2c9bbe815a686595f0e005b431a9c723fb73c5173242b785e44", func := "auspex/auspexlaw23.TwinTaints", spec := "twinTaints", unfollowed := true, recurses := true, named := ["auspex/inst.codes"], apart := false, laid := [("auspex/inst.codes", laid_auspex_inst_codes)], narrowed := true }
def TwinTaintsUptoSaid : Prop := twinTaintsUptoRow.holds Tryz.pinned (OpenSpec.upto twinTaintsSpec)

/-- 'auspexlaw23.TwinHolds', WHERE WHAT IT READS IS OF BULK AT MOST 1048576: true; the input reads as it did. -/
def twinHoldsUptoRow : OpenClaim := { program := "ytiaekocjeinkjaagreatdoor", sum := "538ac3af4dd8f2c9bbe815a686595f0e005b431a9c723fb73c5173242b785e44", func := "auspex/auspexlaw23.TwinHolds", spec := "twinHolds", unfollowed := true, recurses := true, named := ["auspex/inst.codes"], apart := false, laid := [("auspex/inst.codes", laid_auspex_inst_codes)], narrowed := true }
def TwinHoldsUptoSaid : Prop := twinHoldsUptoRow.holds Tryz.pinned (OpenSpec.upto twinHoldsSpec)

/-- 'auspexlaw23.TwinShows', WHERE WHAT IT READS IS OF BULK AT MOST 1048576: true; the input reads as it did. -/
def twinShowsUptoRow : OpenClaim := { program := "ytiaekocjeinkjaagreatdoor", sum := "538ac3af4dd8f2c9bbe815a686595f0e005b431a9c723fb73c5173242b785e44", func := "auspex/auspexlaw23.TwinShows", spec := "twinShows", inPlace := ["internal/abi.NoEscape", "internal/bytealg.MakeNoZero"], unfollowed := true, recurses := true, named := ["auspex/inst.codes"], apart := false, laid := [("auspex/inst.codes", laid_auspex_inst_codes)], narrowed := true }
def TwinShowsUptoSaid : Prop := twinShowsUptoRow.holds Tryz.pinned (OpenSpec.upto twinShowsSpec)

end Rows
end Go.Proofs.YtiaekocjeinkjaaGreatDoor
