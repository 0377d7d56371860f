/-
  DERIVED. GIVEN WITH THE SEED: THE CARDS: each row of YtmbhlpgmfafmbaaGreatDoorRows.lean that lists a variable, with what it lists TIED to the program's text (the seventh form; the later family's looks); each row that meets fmt, with fmt's text TOLD by the authors' own Lean function (tested against real Go, not proved from fmt's source: count such statements apart). THE CARD IS WHAT COUNTS. Prove the row's statement (the work); the ties are given (YtmbhlpgmfafmbaaGreatDoorTie.lean); close each card by the builder's one call (the guide's Derived/Test/ToyasCard.lean, 'card_holds'). Laid BY PROGRAM, IN A SANDBOX (cutbox-door.mjs). By AI agents, Wed Nov 11 2026. No macro, syntax, notation, axiom, sorry.
-/
import Derived.Test.YtmbhlpgmfafmbaaGreatDoorRows
import GoSem.ClaimSeven
namespace Go.Proofs.YtmbhlpgmfafmbaaGreatDoor
namespace Rows

/-- THE TIED CARD OF 'auspextop.TopModes'. -/
def topModesCard : Claim7 := { stood := { row := topModesRow, standIns := [], harness := (true, "ed6f47e350c29857b1d1a0ed53dc0f2fab265d46c419bdad9b68c0307ae53bfd"), looks := false }, kinds := [], alts := [], laidByText := true, laidKinds := [.data], laidTests := true, laidLooks := .later }
def TopModesCardSaid : Prop := Claim7.holds Tryz.pinned (.plain (OpenSpec.ofChange topModesSpec)) topModesCard

/-- THE SECOND FORM's CARD OF 'auspextop.TopModes'. -/
def topModesUptoCard : Claim7 := { stood := { row := topModesUptoRow, standIns := [], harness := (true, "ed6f47e350c29857b1d1a0ed53dc0f2fab265d46c419bdad9b68c0307ae53bfd"), looks := false }, kinds := [], alts := [], laidByText := true, laidKinds := [.data], laidTests := true, laidLooks := .later }
def TopModesUptoCardSaid : Prop := Claim7.holds Tryz.pinned (.plain (OpenSpec.upto topModesSpec)) topModesUptoCard
end Rows
end Go.Proofs.YtmbhlpgmfafmbaaGreatDoor
