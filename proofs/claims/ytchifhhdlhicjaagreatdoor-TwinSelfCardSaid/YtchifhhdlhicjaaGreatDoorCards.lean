/-
  DERIVED. GIVEN WITH THE SEED: THE CARDS: each row of YtchifhhdlhicjaaGreatDoorRows.lean that lists a variable, with what it lists TIED to the program's text (the seventh form; the later family's looks); each row that meets fmt, with fmt's text TOLD by the authors' own Lean function (tested against real Go, not proved from fmt's source: count such statements apart). THE CARD IS WHAT COUNTS. Prove the row's statement (the work); the ties are given (YtchifhhdlhicjaaGreatDoorTie.lean); close each card by the builder's one call (the guide's Derived/Test/ToyasCard.lean, 'card_holds'). Laid BY PROGRAM, IN A SANDBOX (cutbox-door.mjs). By AI agents, Wed Nov 11 2026. No macro, syntax, notation, axiom, sorry.
-/
import Derived.Test.YtchifhhdlhicjaaGreatDoorRows
import GoSem.ClaimSeven
namespace Go.Proofs.YtchifhhdlhicjaaGreatDoor
namespace Rows

/-- THE TIED CARD OF 'auspexlaw23.TwinSelf'. -/
def twinSelfCard : Claim7 := { stood := { row := twinSelfRow, standIns := [], harness := (true, "bbb1bc84b7bb3c0100c3424d8410531715038e057af6a0fa9737b2f61911ea45"), looks := false }, kinds := [], alts := [], laidByText := true, laidKinds := [.data], laidTests := true, laidLooks := .later }
def TwinSelfCardSaid : Prop := Claim7.holds Tryz.pinned (.plain (OpenSpec.ofChange twinSelfSpec)) twinSelfCard

/-- THE SECOND FORM's CARD OF 'auspexlaw23.TwinSelf'. -/
def twinSelfUptoCard : Claim7 := { stood := { row := twinSelfUptoRow, standIns := [], harness := (true, "bbb1bc84b7bb3c0100c3424d8410531715038e057af6a0fa9737b2f61911ea45"), looks := false }, kinds := [], alts := [], laidByText := true, laidKinds := [.data], laidTests := true, laidLooks := .later }
def TwinSelfUptoCardSaid : Prop := Claim7.holds Tryz.pinned (.plain (OpenSpec.upto twinSelfSpec)) twinSelfUptoCard
end Rows
end Go.Proofs.YtchifhhdlhicjaaGreatDoor
