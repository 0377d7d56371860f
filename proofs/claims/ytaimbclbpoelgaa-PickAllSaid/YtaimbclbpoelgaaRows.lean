/-
  No cell of these rows narrows 'for every input' (looked for: loops, veiled, ifaces, maps, wideKeys, modest, calm, conditions, laid).
  DERIVED. THE GIVEN ROWS OF THIS SEAT. 5 by the template 'for every input the law returns true; each argument reads behind the call as it read before'; 0 by the template 'total and deterministic' (their statements: YtaimbclbpoelgaaTotals.lean).
  GIVEN WITH THE SEED: the statements are not yours to turn. If you find one false, say at which input.
  Laid BY PROGRAM, IN A SANDBOX (cutbox-rows.mjs): the forced cells as the released guide's own fill.sh prints them over the translation a3d7ae71903ceebb… (all of the seat's roots in one cut). By AI agents, Wed Nov 11 2026. No macro, syntax, notation, axiom, sorry.
-/
import Derived.Test.YtaimbclbpoelgaaChecked
import GoSem.Claim
import GoSem.ClaimJoined
import GoSem.ClaimMapViews
import Derived.JoinedTies
import Derived.KernelRfl
namespace Go.Proofs.Ytaimbclbpoelgaa
/- THE CELL 'sum', in the pinned program and in every row, IS THE sha256 OF THE DUMP (.gsa) THAT YtaimbclbpoelgaaProg.lean LOADS. Nothing in Lean hashes anything: it is a label: what it is worth is what the hold of that sum in a sandbox is worth. -/
noncomputable def Try.pinned : Pinned := { name := "ytaimbclbpoelgaa", sum := "a3d7ae71903ceebbb5bd7e3e8545a50e5dc01c5f0de0ebf25a7067fc7662abb4", checked := Try.checked }
namespace Rows
def none {H : Type} : Left H := { results := [], args := [] }

/-- 'auspexlaw07.TraceOf': WHATEVER THE INPUT: true; the input reads as it did. -/
def traceOfSpec : ChangeSpec := { name := "traceOf", fn := fun _ => fun
  | [d1, d2, d3] => { results := [.lit (.bool true)], args := [d1, d2, d3] }
  | _ => none }
def traceOfRow : OpenClaim := { program := "ytaimbclbpoelgaa", sum := "a3d7ae71903ceebbb5bd7e3e8545a50e5dc01c5f0de0ebf25a7067fc7662abb4", func := "auspex/auspexlaw07.TraceOf", spec := "traceOf", apart := false }
def TraceOfSaid : Prop := traceOfRow.holds Try.pinned (OpenSpec.ofChange traceOfSpec)

/-- ITS FALSE NEIGHBOUR: 'it returns false'. Refute it at one input. -/
def traceOfWrong : ChangeSpec := { name := "traceOf", fn := fun _ => fun
  | [d1, d2, d3] => { results := [.lit (.bool false)], args := [d1, d2, d3] }
  | _ => none }
def TraceOfWrongFalsely : Prop := traceOfRow.holds Try.pinned (OpenSpec.ofChange traceOfWrong)

/-- 'auspexlaw07.TraceLess': WHATEVER THE INPUT: true; the input reads as it did. -/
def traceLessSpec : ChangeSpec := { name := "traceLess", fn := fun _ => fun
  | [d1, d2] => { results := [.lit (.bool true)], args := [d1, d2] }
  | _ => none }
def traceLessRow : OpenClaim := { program := "ytaimbclbpoelgaa", sum := "a3d7ae71903ceebbb5bd7e3e8545a50e5dc01c5f0de0ebf25a7067fc7662abb4", func := "auspex/auspexlaw07.TraceLess", spec := "traceLess", apart := false }
def TraceLessSaid : Prop := traceLessRow.holds Try.pinned (OpenSpec.ofChange traceLessSpec)

/-- ITS FALSE NEIGHBOUR: 'it returns false'. Refute it at one input. -/
def traceLessWrong : ChangeSpec := { name := "traceLess", fn := fun _ => fun
  | [d1, d2] => { results := [.lit (.bool false)], args := [d1, d2] }
  | _ => none }
def TraceLessWrongFalsely : Prop := traceLessRow.holds Try.pinned (OpenSpec.ofChange traceLessWrong)

/-- 'auspexlaw17.PickTakes': WHATEVER THE INPUT: true; the input reads as it did. -/
def pickTakesSpec : ChangeSpec := { name := "pickTakes", fn := fun _ => fun
  | [d1, d2, d3, d4] => { results := [.lit (.bool true)], args := [d1, d2, d3, d4] }
  | _ => none }
def pickTakesRow : OpenClaim := { program := "ytaimbclbpoelgaa", sum := "a3d7ae71903ceebbb5bd7e3e8545a50e5dc01c5f0de0ebf25a7067fc7662abb4", func := "auspex/auspexlaw17.PickTakes", spec := "pickTakes", apart := false }
def PickTakesSaid : Prop := pickTakesRow.holds Try.pinned (OpenSpec.ofChange pickTakesSpec)

/-- ITS FALSE NEIGHBOUR: 'it returns false'. Refute it at one input. -/
def pickTakesWrong : ChangeSpec := { name := "pickTakes", fn := fun _ => fun
  | [d1, d2, d3, d4] => { results := [.lit (.bool false)], args := [d1, d2, d3, d4] }
  | _ => none }
def PickTakesWrongFalsely : Prop := pickTakesRow.holds Try.pinned (OpenSpec.ofChange pickTakesWrong)

/-- 'auspexlaw17.PickFirst': WHATEVER THE INPUT: true; the input reads as it did. -/
def pickFirstSpec : ChangeSpec := { name := "pickFirst", fn := fun _ => fun
  | [d1, d2, d3, d4, d5] => { results := [.lit (.bool true)], args := [d1, d2, d3, d4, d5] }
  | _ => none }
def pickFirstRow : OpenClaim := { program := "ytaimbclbpoelgaa", sum := "a3d7ae71903ceebbb5bd7e3e8545a50e5dc01c5f0de0ebf25a7067fc7662abb4", func := "auspex/auspexlaw17.PickFirst", spec := "pickFirst", unfollowed := true, recurses := true, apart := false }
def PickFirstSaid : Prop := pickFirstRow.holds Try.pinned (OpenSpec.ofChange pickFirstSpec)

/-- ITS FALSE NEIGHBOUR: 'it returns false'. Refute it at one input. -/
def pickFirstWrong : ChangeSpec := { name := "pickFirst", fn := fun _ => fun
  | [d1, d2, d3, d4, d5] => { results := [.lit (.bool false)], args := [d1, d2, d3, d4, d5] }
  | _ => none }
def PickFirstWrongFalsely : Prop := pickFirstRow.holds Try.pinned (OpenSpec.ofChange pickFirstWrong)

/-- 'auspexlaw17.PickAll': WHATEVER THE INPUT: true; the input reads as it did. -/
def pickAllSpec : ChangeSpec := { name := "pickAll", fn := fun _ => fun
  | [d1, d2, d3, d4] => { results := [.lit (.bool true)], args := [d1, d2, d3, d4] }
  | _ => none }
def pickAllRow : OpenClaim := { program := "ytaimbclbpoelgaa", sum := "a3d7ae71903ceebbb5bd7e3e8545a50e5dc01c5f0de0ebf25a7067fc7662abb4", func := "auspex/auspexlaw17.PickAll", spec := "pickAll", apart := false }
def PickAllSaid : Prop := pickAllRow.holds Try.pinned (OpenSpec.ofChange pickAllSpec)

/-- ITS FALSE NEIGHBOUR: 'it returns false'. Refute it at one input. -/
def pickAllWrong : ChangeSpec := { name := "pickAll", fn := fun _ => fun
  | [d1, d2, d3, d4] => { results := [.lit (.bool false)], args := [d1, d2, d3, d4] }
  | _ => none }
def PickAllWrongFalsely : Prop := pickAllRow.holds Try.pinned (OpenSpec.ofChange pickAllWrong)

/- THE SECOND FORM. 'bulk': how many values and letters a reading holds, each counted each time it is reached (what is shared counts as often as it is met; a slice's spare places count too). A statement '..UptoSaid' is the law's where the arguments, and the package variables that the reading takes, are together of bulk at most 1048576: NARROWER than '..Said'. Prove '..Said' where nothing that the law and all that it calls make is longer than what came in: it says more and counts as full. Else prove '..UptoSaid'. A law counts once. -/
mutual
def uptoBulk {H : Type} : DataW H → Nat
  | .lit (.string bytes) => bytes.length + 1
  | .lit _ => 1
  | .nil => 1
  | .ptr d => uptoBulk d + 1
  | .slice elems spare => uptoBulkAll elems + uptoBulkAll spare + 1
  | .agg parts => uptoBulkAll parts + 1
  | .iface _ d => uptoBulk d + 1
  | .map entries => uptoBulkEntries entries + 1
  | .held _ => 1
def uptoBulkAll {H : Type} : List (DataW H) → Nat
  | [] => 0
  | d :: r => uptoBulk d + uptoBulkAll r
def uptoBulkEntries {H : Type} : List (Lit × DataW H) → Nat
  | [] => 0
  | x :: r => uptoBulkEntry x + uptoBulkEntries r
def uptoBulkEntry {H : Type} : Lit × DataW H → Nat
  | (.string bytes, d) => bytes.length + uptoBulk d + 1
  | (_, d) => uptoBulk d + 1
 end
def uptoSmall : (H : Type) → List (DataW H) → Bool := fun _ ds => decide (uptoBulkAll ds ≤ 1048576)
def OpenSpec.upto (s : _root_.Go.ChangeSpec) : _root_.Go.OpenSpec := { _root_.Go.OpenSpec.ofChange s with cond := some uptoSmall }

/-- 'auspexlaw07.TraceOf', WHERE WHAT IT READS IS OF BULK AT MOST 1048576: true; the input reads as it did. -/
def traceOfUptoRow : OpenClaim := { program := "ytaimbclbpoelgaa", sum := "a3d7ae71903ceebbb5bd7e3e8545a50e5dc01c5f0de0ebf25a7067fc7662abb4", func := "auspex/auspexlaw07.TraceOf", spec := "traceOf", apart := false, narrowed := true }
def TraceOfUptoSaid : Prop := traceOfUptoRow.holds Try.pinned (OpenSpec.upto traceOfSpec)

/-- 'auspexlaw07.TraceLess', WHERE WHAT IT READS IS OF BULK AT MOST 1048576: true; the input reads as it did. -/
def traceLessUptoRow : OpenClaim := { program := "ytaimbclbpoelgaa", sum := "a3d7ae71903ceebbb5bd7e3e8545a50e5dc01c5f0de0ebf25a7067fc7662abb4", func := "auspex/auspexlaw07.TraceLess", spec := "traceLess", apart := false, narrowed := true }
def TraceLessUptoSaid : Prop := traceLessUptoRow.holds Try.pinned (OpenSpec.upto traceLessSpec)

/-- 'auspexlaw17.PickTakes', WHERE WHAT IT READS IS OF BULK AT MOST 1048576: true; the input reads as it did. -/
def pickTakesUptoRow : OpenClaim := { program := "ytaimbclbpoelgaa", sum := "a3d7ae71903ceebbb5bd7e3e8545a50e5dc01c5f0de0ebf25a7067fc7662abb4", func := "auspex/auspexlaw17.PickTakes", spec := "pickTakes", apart := false, narrowed := true }
def PickTakesUptoSaid : Prop := pickTakesUptoRow.holds Try.pinned (OpenSpec.upto pickTakesSpec)

/-- 'auspexlaw17.PickFirst', WHERE WHAT IT READS IS OF BULK AT MOST 1048576: true; the input reads as it did. -/
def pickFirstUptoRow : OpenClaim := { program := "ytaimbclbpoelgaa", sum := "a3d7ae71903ceebbb5bd7e3e8545a50e5dc01c5f0de0ebf25a7067fc7662abb4", func := "auspex/auspexlaw17.PickFirst", spec := "pickFirst", unfollowed := true, recurses := true, apart := false, narrowed := true }
def PickFirstUptoSaid : Prop := pickFirstUptoRow.holds Try.pinned (OpenSpec.upto pickFirstSpec)

/-- 'auspexlaw17.PickAll', WHERE WHAT IT READS IS OF BULK AT MOST 1048576: true; the input reads as it did. -/
def pickAllUptoRow : OpenClaim := { program := "ytaimbclbpoelgaa", sum := "a3d7ae71903ceebbb5bd7e3e8545a50e5dc01c5f0de0ebf25a7067fc7662abb4", func := "auspex/auspexlaw17.PickAll", spec := "pickAll", apart := false, narrowed := true }
def PickAllUptoSaid : Prop := pickAllUptoRow.holds Try.pinned (OpenSpec.upto pickAllSpec)

end Rows
end Go.Proofs.Ytaimbclbpoelgaa
