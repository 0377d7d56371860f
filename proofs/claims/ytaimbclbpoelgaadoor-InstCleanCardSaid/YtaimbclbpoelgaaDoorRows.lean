/-
  NARROWER THAN 'FOR EVERY INPUT', by the rows' own cells (each row's printed sentence says how): InstDecodes: laid · InstNumbers: laid · InstOne: laid · InstTurns: laid · InstEncodes: laid · InstBack: laid · InstClean: laid.
  DERIVED. THE GIVEN ROWS OF THIS SEAT. 7 by the template 'for every input the law returns true; each argument reads behind the call as it read before'; 0 by the template 'total and deterministic' (their statements: YtaimbclbpoelgaaDoorTotals.lean).
  GIVEN WITH THE SEED: the statements are not yours to turn. If you find one false, say at which input.
  Laid BY PROGRAM, IN A SANDBOX (cutbox-rows.mjs): the forced cells as the released guide's own fill.sh prints them over the translation 9ec35e2884e591ba… (all of the seat's roots in one cut). By AI agents, Wed Nov 11 2026. No macro, syntax, notation, axiom, sorry.
-/
import Derived.Test.YtaimbclbpoelgaaDoorChecked
import GoSem.Claim
import GoSem.ClaimJoined
import GoSem.ClaimMapViews
import Derived.JoinedTies
import Derived.KernelRfl
namespace Go.Proofs.YtaimbclbpoelgaaDoor
/- THE CELL 'sum', in the pinned program and in every row, IS THE sha256 OF THE DUMP (.gsa) THAT YtaimbclbpoelgaaDoorProg.lean LOADS. Nothing in Lean hashes anything: it is a label: what it is worth is what the hold of that sum in a sandbox is worth. -/
noncomputable def Tryd.pinned : Pinned := { name := "ytaimbclbpoelgaadoor", sum := "9ec35e2884e591badeff1d475ddf8e95c7041df2534b012114aa49c5a5537ca7", checked := Tryd.checked }
namespace Rows
def none {H : Type} : Left H := { results := [], args := [] }

/- WHAT THE LISTED PACKAGE-LEVEL VARIABLES READ AS WHEN THE CALL BEGINS. Each datum BY PROGRAM (the guide's laid-datum.mjs) off the statement by which the dump's own 'gosem.cut.vars' lays the variable. In a bare row this is a premise. The card (YtaimbclbpoelgaaDoorCards.lean) ties it to the program's text. -/
def laid_auspex_inst_codes {H : Type} : DataW H := .agg [.lit (.int .u32 0), .lit (.int .u32 55), .lit (.int .u32 23), .lit (.int .u32 111), .lit (.int .u32 103), .lit (.int .u32 99), .lit (.int .u32 4195), .lit (.int .u32 16483), .lit (.int .u32 20579), .lit (.int .u32 24675), .lit (.int .u32 28771), .lit (.int .u32 3), .lit (.int .u32 4099), .lit (.int .u32 8195), .lit (.int .u32 16387), .lit (.int .u32 20483), .lit (.int .u32 35), .lit (.int .u32 4131), .lit (.int .u32 8227), .lit (.int .u32 19), .lit (.int .u32 8211), .lit (.int .u32 12307), .lit (.int .u32 16403), .lit (.int .u32 24595), .lit (.int .u32 28691), .lit (.int .u32 4115), .lit (.int .u32 20499), .lit (.int .u32 1073762323), .lit (.int .u32 51), .lit (.int .u32 1073741875), .lit (.int .u32 4147), .lit (.int .u32 8243), .lit (.int .u32 12339), .lit (.int .u32 16435), .lit (.int .u32 20531), .lit (.int .u32 1073762355), .lit (.int .u32 24627), .lit (.int .u32 28723), .lit (.int .u32 33554483), .lit (.int .u32 33558579), .lit (.int .u32 33562675), .lit (.int .u32 33566771), .lit (.int .u32 33570867), .lit (.int .u32 33574963), .lit (.int .u32 33579059), .lit (.int .u32 33583155), .lit (.int .u32 15), .lit (.int .u32 115), .lit (.int .u32 1048691)]

/-- 'auspexlaw02.InstDecodes': WHATEVER THE INPUT: true; the input reads as it did. -/
def instDecodesSpec : ChangeSpec := { name := "instDecodes", fn := fun _ => fun
  | [d] => { results := [.lit (.bool true)], args := [d] }
  | _ => none }
def instDecodesRow : OpenClaim := { program := "ytaimbclbpoelgaadoor", sum := "9ec35e2884e591badeff1d475ddf8e95c7041df2534b012114aa49c5a5537ca7", func := "auspex/auspexlaw02.InstDecodes", spec := "instDecodes", named := ["auspex/inst.codes"], apart := false, laid := [("auspex/inst.codes", laid_auspex_inst_codes)] }
def InstDecodesSaid : Prop := instDecodesRow.holds Tryd.pinned (OpenSpec.ofChange instDecodesSpec)

/-- ITS FALSE NEIGHBOUR: 'it returns false'. Refute it at one input. -/
def instDecodesWrong : ChangeSpec := { name := "instDecodes", fn := fun _ => fun
  | [d] => { results := [.lit (.bool false)], args := [d] }
  | _ => none }
def InstDecodesWrongFalsely : Prop := instDecodesRow.holds Tryd.pinned (OpenSpec.ofChange instDecodesWrong)

/-- 'auspexlaw02.InstNumbers': WHATEVER THE INPUT: true; the input reads as it did. -/
def instNumbersSpec : ChangeSpec := { name := "instNumbers", fn := fun _ => fun
  | [d] => { results := [.lit (.bool true)], args := [d] }
  | _ => none }
def instNumbersRow : OpenClaim := { program := "ytaimbclbpoelgaadoor", sum := "9ec35e2884e591badeff1d475ddf8e95c7041df2534b012114aa49c5a5537ca7", func := "auspex/auspexlaw02.InstNumbers", spec := "instNumbers", named := ["auspex/inst.codes"], apart := false, laid := [("auspex/inst.codes", laid_auspex_inst_codes)] }
def InstNumbersSaid : Prop := instNumbersRow.holds Tryd.pinned (OpenSpec.ofChange instNumbersSpec)

/-- ITS FALSE NEIGHBOUR: 'it returns false'. Refute it at one input. -/
def instNumbersWrong : ChangeSpec := { name := "instNumbers", fn := fun _ => fun
  | [d] => { results := [.lit (.bool false)], args := [d] }
  | _ => none }
def InstNumbersWrongFalsely : Prop := instNumbersRow.holds Tryd.pinned (OpenSpec.ofChange instNumbersWrong)

/-- 'auspexlaw02.InstOne': WHATEVER THE INPUT: true; the input reads as it did. -/
def instOneSpec : ChangeSpec := { name := "instOne", fn := fun _ => fun
  | [d1, d2] => { results := [.lit (.bool true)], args := [d1, d2] }
  | _ => none }
def instOneRow : OpenClaim := { program := "ytaimbclbpoelgaadoor", sum := "9ec35e2884e591badeff1d475ddf8e95c7041df2534b012114aa49c5a5537ca7", func := "auspex/auspexlaw02.InstOne", spec := "instOne", named := ["auspex/inst.codes"], apart := false, laid := [("auspex/inst.codes", laid_auspex_inst_codes)] }
def InstOneSaid : Prop := instOneRow.holds Tryd.pinned (OpenSpec.ofChange instOneSpec)

/-- ITS FALSE NEIGHBOUR: 'it returns false'. Refute it at one input. -/
def instOneWrong : ChangeSpec := { name := "instOne", fn := fun _ => fun
  | [d1, d2] => { results := [.lit (.bool false)], args := [d1, d2] }
  | _ => none }
def InstOneWrongFalsely : Prop := instOneRow.holds Tryd.pinned (OpenSpec.ofChange instOneWrong)

/-- 'auspexlaw02.InstTurns': WHATEVER THE INPUT: true; the input reads as it did. -/
def instTurnsSpec : ChangeSpec := { name := "instTurns", fn := fun _ => fun
  | [d1, d2] => { results := [.lit (.bool true)], args := [d1, d2] }
  | _ => none }
def instTurnsRow : OpenClaim := { program := "ytaimbclbpoelgaadoor", sum := "9ec35e2884e591badeff1d475ddf8e95c7041df2534b012114aa49c5a5537ca7", func := "auspex/auspexlaw02.InstTurns", spec := "instTurns", named := ["auspex/inst.codes"], apart := false, laid := [("auspex/inst.codes", laid_auspex_inst_codes)] }
def InstTurnsSaid : Prop := instTurnsRow.holds Tryd.pinned (OpenSpec.ofChange instTurnsSpec)

/-- ITS FALSE NEIGHBOUR: 'it returns false'. Refute it at one input. -/
def instTurnsWrong : ChangeSpec := { name := "instTurns", fn := fun _ => fun
  | [d1, d2] => { results := [.lit (.bool false)], args := [d1, d2] }
  | _ => none }
def InstTurnsWrongFalsely : Prop := instTurnsRow.holds Tryd.pinned (OpenSpec.ofChange instTurnsWrong)

/-- 'auspexlaw02.InstEncodes': WHATEVER THE INPUT: true; the input reads as it did. -/
def instEncodesSpec : ChangeSpec := { name := "instEncodes", fn := fun _ => fun
  | [d1, d2] => { results := [.lit (.bool true)], args := [d1, d2] }
  | _ => none }
def instEncodesRow : OpenClaim := { program := "ytaimbclbpoelgaadoor", sum := "9ec35e2884e591badeff1d475ddf8e95c7041df2534b012114aa49c5a5537ca7", func := "auspex/auspexlaw02.InstEncodes", spec := "instEncodes", named := ["auspex/inst.codes"], apart := false, laid := [("auspex/inst.codes", laid_auspex_inst_codes)] }
def InstEncodesSaid : Prop := instEncodesRow.holds Tryd.pinned (OpenSpec.ofChange instEncodesSpec)

/-- ITS FALSE NEIGHBOUR: 'it returns false'. Refute it at one input. -/
def instEncodesWrong : ChangeSpec := { name := "instEncodes", fn := fun _ => fun
  | [d1, d2] => { results := [.lit (.bool false)], args := [d1, d2] }
  | _ => none }
def InstEncodesWrongFalsely : Prop := instEncodesRow.holds Tryd.pinned (OpenSpec.ofChange instEncodesWrong)

/-- 'auspexlaw02.InstBack': WHATEVER THE INPUT: true; the input reads as it did. -/
def instBackSpec : ChangeSpec := { name := "instBack", fn := fun _ => fun
  | [d1, d2] => { results := [.lit (.bool true)], args := [d1, d2] }
  | _ => none }
def instBackRow : OpenClaim := { program := "ytaimbclbpoelgaadoor", sum := "9ec35e2884e591badeff1d475ddf8e95c7041df2534b012114aa49c5a5537ca7", func := "auspex/auspexlaw02.InstBack", spec := "instBack", named := ["auspex/inst.codes"], apart := false, laid := [("auspex/inst.codes", laid_auspex_inst_codes)] }
def InstBackSaid : Prop := instBackRow.holds Tryd.pinned (OpenSpec.ofChange instBackSpec)

/-- ITS FALSE NEIGHBOUR: 'it returns false'. Refute it at one input. -/
def instBackWrong : ChangeSpec := { name := "instBack", fn := fun _ => fun
  | [d1, d2] => { results := [.lit (.bool false)], args := [d1, d2] }
  | _ => none }
def InstBackWrongFalsely : Prop := instBackRow.holds Tryd.pinned (OpenSpec.ofChange instBackWrong)

/-- 'auspexlaw02.InstClean': WHATEVER THE INPUT: true; the input reads as it did. -/
def instCleanSpec : ChangeSpec := { name := "instClean", fn := fun _ => fun
  | [d] => { results := [.lit (.bool true)], args := [d] }
  | _ => none }
def instCleanRow : OpenClaim := { program := "ytaimbclbpoelgaadoor", sum := "9ec35e2884e591badeff1d475ddf8e95c7041df2534b012114aa49c5a5537ca7", func := "auspex/auspexlaw02.InstClean", spec := "instClean", unfollowed := true, recurses := true, named := ["auspex/inst.codes"], apart := false, laid := [("auspex/inst.codes", laid_auspex_inst_codes)] }
def InstCleanSaid : Prop := instCleanRow.holds Tryd.pinned (OpenSpec.ofChange instCleanSpec)

/-- ITS FALSE NEIGHBOUR: 'it returns false'. Refute it at one input. -/
def instCleanWrong : ChangeSpec := { name := "instClean", fn := fun _ => fun
  | [d] => { results := [.lit (.bool false)], args := [d] }
  | _ => none }
def InstCleanWrongFalsely : Prop := instCleanRow.holds Tryd.pinned (OpenSpec.ofChange instCleanWrong)

/- THE SECOND FORM. 'bulk': how many values and letters a reading holds, each counted each time it is reached (what is shared counts as often as it is met; a slice's spare places count too). A statement '..UptoSaid' is the law's where the arguments, and the package variables that the reading takes, are together of bulk at most 1048576: NARROWER than '..Said'. Prove '..Said' where nothing that the law and all that it calls make is longer than what came in: it says more and counts as full. Else prove '..UptoSaid'. A law counts once. -/
mutual
def uptoBulk {H : Type} : DataW H → Nat
  | .lit (.string bytes) => bytes.length + 1
  | .lit _ => 1
  | .nil => 1
  | .ptr d => uptoBulk d + 1
  | .slice elems spare => uptoBulkAll elems + uptoBulkAll spare + 1
  | .agg parts => uptoBulkAll parts + 1
  | .iface _ d => uptoBulk d + 1
  | .map entries => uptoBulkEntries entries + 1
  | .held _ => 1
def uptoBulkAll {H : Type} : List (DataW H) → Nat
  | [] => 0
  | d :: r => uptoBulk d + uptoBulkAll r
def uptoBulkEntries {H : Type} : List (Lit × DataW H) → Nat
  | [] => 0
  | x :: r => uptoBulkEntry x + uptoBulkEntries r
def uptoBulkEntry {H : Type} : Lit × DataW H → Nat
  | (.string bytes, d) => bytes.length + uptoBulk d + 1
  | (_, d) => uptoBulk d + 1
 end
def uptoSmall : (H : Type) → List (DataW H) → Bool := fun _ ds => decide (uptoBulkAll ds ≤ 1048576)
def OpenSpec.upto (s : _root_.Go.ChangeSpec) : _root_.Go.OpenSpec := { _root_.Go.OpenSpec.ofChange s with cond := some uptoSmall }

/-- 'auspexlaw02.InstDecodes', WHERE WHAT IT READS IS OF BULK AT MOST 1048576: true; the input reads as it did. -/
def instDecodesUptoRow : OpenClaim := { program := "ytaimbclbpoelgaadoor", sum := "9ec35e2884e591badeff1d475ddf8e95c7041df2534b012114aa49c5a5537ca7", func := "auspex/auspexlaw02.InstDecodes", spec := "instDecodes", named := ["auspex/inst.codes"], apart := false, laid := [("auspex/inst.codes", laid_auspex_inst_codes)], narrowed := true }
def InstDecodesUptoSaid : Prop := instDecodesUptoRow.holds Tryd.pinned (OpenSpec.upto instDecodesSpec)

/-- 'auspexlaw02.InstNumbers', WHERE WHAT IT READS IS OF BULK AT MOST 1048576: true; the input reads as it did. -/
def instNumbersUptoRow : OpenClaim := { program := "ytaimbclbpoelgaadoor", sum := "9ec35e2884e591badeff1d475ddf8e95c7041df2534b012114aa49c5a5537ca7", func := "auspex/auspexlaw02.InstNumbers", spec := "instNumbers", named := ["auspex/inst.codes"], apart := false, laid := [("auspex/inst.codes", laid_auspex_inst_codes)], narrowed := true }
def InstNumbersUptoSaid : Prop := instNumbersUptoRow.holds Tryd.pinned (OpenSpec.upto instNumbersSpec)

/-- 'auspexlaw02.InstOne', WHERE WHAT IT READS IS OF BULK AT MOST 1048576: true; the input reads as it did. -/
def instOneUptoRow : OpenClaim := { program := "ytaimbclbpoelgaadoor", sum := "9ec35e2884e591badeff1d475ddf8e95c7041df2534b012114aa49c5a5537ca7", func := "auspex/auspexlaw02.InstOne", spec := "instOne", named := ["auspex/inst.codes"], apart := false, laid := [("auspex/inst.codes", laid_auspex_inst_codes)], narrowed := true }
def InstOneUptoSaid : Prop := instOneUptoRow.holds Tryd.pinned (OpenSpec.upto instOneSpec)

/-- 'auspexlaw02.InstTurns', WHERE WHAT IT READS IS OF BULK AT MOST 1048576: true; the input reads as it did. -/
def instTurnsUptoRow : OpenClaim := { program := "ytaimbclbpoelgaadoor", sum := "9ec35e2884e591badeff1d475ddf8e95c7041df2534b012114aa49c5a5537ca7", func := "auspex/auspexlaw02.InstTurns", spec := "instTurns", named := ["auspex/inst.codes"], apart := false, laid := [("auspex/inst.codes", laid_auspex_inst_codes)], narrowed := true }
def InstTurnsUptoSaid : Prop := instTurnsUptoRow.holds Tryd.pinned (OpenSpec.upto instTurnsSpec)

/-- 'auspexlaw02.InstEncodes', WHERE WHAT IT READS IS OF BULK AT MOST 1048576: true; the input reads as it did. -/
def instEncodesUptoRow : OpenClaim := { program := "ytaimbclbpoelgaadoor", sum := "9ec35e2884e591badeff1d475ddf8e95c7041df2534b012114aa49c5a5537ca7", func := "auspex/auspexlaw02.InstEncodes", spec := "instEncodes", named := ["auspex/inst.codes"], apart := false, laid := [("auspex/inst.codes", laid_auspex_inst_codes)], narrowed := true }
def InstEncodesUptoSaid : Prop := instEncodesUptoRow.holds Tryd.pinned (OpenSpec.upto instEncodesSpec)

/-- 'auspexlaw02.InstBack', WHERE WHAT IT READS IS OF BULK AT MOST 1048576: true; the input reads as it did. -/
def instBackUptoRow : OpenClaim := { program := "ytaimbclbpoelgaadoor", sum := "9ec35e2884e591badeff1d475ddf8e95c7041df2534b012114aa49c5a5537ca7", func := "auspex/auspexlaw02.InstBack", spec := "instBack", named := ["auspex/inst.codes"], apart := false, laid := [("auspex/inst.codes", laid_auspex_inst_codes)], narrowed := true }
def InstBackUptoSaid : Prop := instBackUptoRow.holds Tryd.pinned (OpenSpec.upto instBackSpec)

/-- 'auspexlaw02.InstClean', WHERE WHAT IT READS IS OF BULK AT MOST 1048576: true; the input reads as it did. -/
def instCleanUptoRow : OpenClaim := { program := "ytaimbclbpoelgaadoor", sum := "9ec35e2884e591badeff1d475ddf8e95c7041df2534b012114aa49c5a5537ca7", func := "auspex/auspexlaw02.InstClean", spec := "instClean", unfollowed := true, recurses := true, named := ["auspex/inst.codes"], apart := false, laid := [("auspex/inst.codes", laid_auspex_inst_codes)], narrowed := true }
def InstCleanUptoSaid : Prop := instCleanUptoRow.holds Tryd.pinned (OpenSpec.upto instCleanSpec)

end Rows
end Go.Proofs.YtaimbclbpoelgaaDoor
