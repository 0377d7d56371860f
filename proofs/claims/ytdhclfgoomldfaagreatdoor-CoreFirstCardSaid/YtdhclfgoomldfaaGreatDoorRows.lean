/-
  NARROWER THAN 'FOR EVERY INPUT', by the rows' own cells (each row's printed sentence says how): CoreGoes: laid · CoreFirst: laid.
  DERIVED. THE GIVEN ROWS OF THIS SEAT. 2 by the template 'for every input the law returns true; each argument reads behind the call as it read before'; 0 by the template 'total and deterministic' (their statements: YtdhclfgoomldfaaGreatDoorTotals.lean).
  GIVEN WITH THE SEED: the statements are not yours to turn. If you find one false, say at which input.
  Laid BY PROGRAM, IN A SANDBOX (cutbox-rows.mjs): the forced cells as the released guide's own fill.sh prints them over the translation 9ff21217e3e2400c… (all of the seat's roots in one cut). By AI agents, Wed Nov 11 2026. No macro, syntax, notation, axiom, sorry.
-/
import Derived.Test.YtdhclfgoomldfaaGreatDoorChecked
import GoSem.Claim
import GoSem.ClaimJoined
import GoSem.ClaimMapViews
import Derived.JoinedTies
import Derived.KernelRfl
namespace Go.Proofs.YtdhclfgoomldfaaGreatDoor
/- THE CELL 'sum', in the pinned program and in every row, IS THE sha256 OF THE DUMP (.gsa) THAT YtdhclfgoomldfaaGreatDoorProg.lean LOADS. Nothing in Lean hashes anything: it is a label: what it is worth is what the hold of that sum in a sandbox is worth. -/
noncomputable def Tryz.pinned : Pinned := { name := "ytdhclfgoomldfaagreatdoor", sum := "9ff21217e3e2400cb5254c085d978c7cf19115c904ce244bc9d6290c47ac7083", checked := Tryz.checked }
namespace Rows
def none {H : Type} : Left H := { results := [], args := [] }

/- WHAT THE LISTED PACKAGE-LEVEL VARIABLES READ AS WHEN THE CALL BEGINS. Each datum BY PROGRAM (the guide's laid-datum.mjs) off the statement by which the dump's own 'gosem.cut.vars' lays the variable. In a bare row this is a premise. The card (YtdhclfgoomldfaaGreatDoorCards.lean) ties it to the program's text. -/
def laid_auspex_inst_codes {H : Type} : DataW H := .agg [.lit (.int .u32 0), .lit (.int .u32 55), .lit (.int .u32 23), .lit (.int .u32 111), .lit (.int .u32 103), .lit (.int .u32 99), .lit (.int .u32 4195), .lit (.int .u32 16483), .lit (.int .u32 20579), .lit (.int .u32 24675), .lit (.int .u32 28771), .lit (.int .u32 3), .lit (.int .u32 4099), .lit (.int .u32 8195), .lit (.int .u32 16387), .lit (.int .u32 20483), .lit (.int .u32 35), .lit (.int .u32 4131), .lit (.int .u32 8227), .lit (.int .u32 19), .lit (.int .u32 8211), .lit (.int .u32 12307), .lit (.int .u32 16403), .lit (.int .u32 24595), .lit (.int .u32 28691), .lit (.int .u32 4115), .lit (.int .u32 20499), .lit (.int .u32 1073762323), .lit (.int .u32 51), .lit (.int .u32 1073741875), .lit (.int .u32 4147), .lit (.int .u32 8243), .lit (.int .u32 12339), .lit (.int .u32 16435), .lit (.int .u32 20531), .lit (.int .u32 1073762355), .lit (.int .u32 24627), .lit (.int .u32 28723), .lit (.int .u32 33554483), .lit (.int .u32 33558579), .lit (.int .u32 33562675), .lit (.int .u32 33566771), .lit (.int .u32 33570867), .lit (.int .u32 33574963), .lit (.int .u32 33579059), .lit (.int .u32 33583155), .lit (.int .u32 15), .lit (.int .u32 115), .lit (.int .u32 1048691)]

/-- 'auspexlaw21.CoreGoes': WHATEVER THE INPUT: true; the input reads as it did. -/
def coreGoesSpec : ChangeSpec := { name := "coreGoes", fn := fun _ => fun
  | [d1, d2, d3, d4] => { results := [.lit (.bool true)], args := [d1, d2, d3, d4] }
  | _ => none }
def coreGoesRow : OpenClaim := { program := "ytdhclfgoomldfaagreatdoor", sum := "9ff21217e3e2400cb5254c085d978c7cf19115c904ce244bc9d6290c47ac7083", func := "auspex/auspexlaw21.CoreGoes", spec := "coreGoes", unfollowed := true, recurses := true, named := ["auspex/inst.codes"], apart := false, laid := [("auspex/inst.codes", laid_auspex_inst_codes)] }
def CoreGoesSaid : Prop := coreGoesRow.holds Tryz.pinned (OpenSpec.ofChange coreGoesSpec)

/-- ITS FALSE NEIGHBOUR: 'it returns false'. Refute it at one input. -/
def coreGoesWrong : ChangeSpec := { name := "coreGoes", fn := fun _ => fun
  | [d1, d2, d3, d4] => { results := [.lit (.bool false)], args := [d1, d2, d3, d4] }
  | _ => none }
def CoreGoesWrongFalsely : Prop := coreGoesRow.holds Tryz.pinned (OpenSpec.ofChange coreGoesWrong)

/-- 'auspexlaw21.CoreFirst': WHATEVER THE INPUT: true; the input reads as it did. -/
def coreFirstSpec : ChangeSpec := { name := "coreFirst", fn := fun _ => fun
  | [d1, d2, d3] => { results := [.lit (.bool true)], args := [d1, d2, d3] }
  | _ => none }
def coreFirstRow : OpenClaim := { program := "ytdhclfgoomldfaagreatdoor", sum := "9ff21217e3e2400cb5254c085d978c7cf19115c904ce244bc9d6290c47ac7083", func := "auspex/auspexlaw21.CoreFirst", spec := "coreFirst", unfollowed := true, recurses := true, named := ["auspex/inst.codes"], apart := false, laid := [("auspex/inst.codes", laid_auspex_inst_codes)] }
def CoreFirstSaid : Prop := coreFirstRow.holds Tryz.pinned (OpenSpec.ofChange coreFirstSpec)

/-- ITS FALSE NEIGHBOUR: 'it returns false'. Refute it at one input. -/
def coreFirstWrong : ChangeSpec := { name := "coreFirst", fn := fun _ => fun
  | [d1, d2, d3] => { results := [.lit (.bool false)], args := [d1, d2, d3] }
  | _ => none }
def CoreFirstWrongFalsely : Prop := coreFirstRow.holds Tryz.pinned (OpenSpec.ofChange coreFirstWrong)

/- THE SECOND FORM. 'bulk': how many values and letters a reading holds, each counted each time it is reached (what is shared counts as often as it is met; a slice's spare places count too). A statement '..UptoSaid' is the law's where the arguments, and the package variables that the reading takes, are together of bulk at most 1048576: NARROWER than '..Said'. Prove '..Said' where nothing that the law and all that it calls make is longer than what came in: it says more and counts as full. Else prove '..UptoSaid'. A law counts once. -/
mutual
def uptoBulk {H : Type} : DataW H → Nat
  | .lit (.string bytes) => bytes.length + 1
  | .lit _ => 1
  | .nil => 1
  | .ptr d => uptoBulk d + 1
  | .slice elems spare => uptoBulkAll elems + uptoBulkAll spare + 1
  | .agg parts => uptoBulkAll parts + 1
  | .iface _ d => uptoBulk d + 1
  | .map entries => uptoBulkEntries entries + 1
  | .held _ => 1
def uptoBulkAll {H : Type} : List (DataW H) → Nat
  | [] => 0
  | d :: r => uptoBulk d + uptoBulkAll r
def uptoBulkEntries {H : Type} : List (Lit × DataW H) → Nat
  | [] => 0
  | x :: r => uptoBulkEntry x + uptoBulkEntries r
def uptoBulkEntry {H : Type} : Lit × DataW H → Nat
  | (.string bytes, d) => bytes.length + uptoBulk d + 1
  | (_, d) => uptoBulk d + 1
 end
def uptoSmall : (H : Type) → List (DataW H) → Bool := fun _ ds => decide (uptoBulkAll ds ≤ 1048576)
def OpenSpec.upto (s : _root_.Go.ChangeSpec) : _root_.Go.OpenSpec := { _root_.Go.OpenSpec.ofChange s with cond := some uptoSmall }

/-- 'auspexlaw21.CoreGoes', WHERE WHAT IT READS IS OF BULK AT MOST 1048576: true; the input reads as it did. -/
def coreGoesUptoRow : OpenClaim := { program := "ytdhclfgoomldfaagreatdoor", sum := "9ff21217e3e2400cb5254c085d978c7cf19115c904ce244bc9d6290c47ac7083", func := "auspex/auspexlaw21.CoreGoes", spec := "coreGoes", unfollowed := true, recurses := true, named := ["auspex/inst.codes"], apart := false, laid := [("auspex/inst.codes", laid_auspex_inst_codes)], narrowed := true }
def CoreGoesUptoSaid : Prop := coreGoesUptoRow.holds Tryz.pinned (OpenSpec.upto coreGoesSpec)

/-- 'auspexlaw21.CoreFirst', WHERE WHAT IT READS IS OF BULK AT MOST 1048576: true; the input reads as it did. -/
def coreFirstUptoRow : OpenClaim := { program := "ytdhclfgoomldfaagreatdoor", sum := "9ff21217e3e2400cb5254c085d978c7cf19115c904ce244bc9d6290c47ac7083", func := "auspex/auspexlaw21.CoreFirst", spec := "coreFirst", unfollowed := true, recurses := true, named := ["auspex/inst.codes"], apart := false, laid := [("auspex/inst.codes", laid_auspex_inst_codes)], narrowed := true }
def CoreFirstUptoSaid : Prop := coreFirstUptoRow.holds Tryz.pinned (OpenSpec.upto coreFirstSpec)

end Rows
end Go.Proofs.YtdhclfgoomldfaaGreatDoor
