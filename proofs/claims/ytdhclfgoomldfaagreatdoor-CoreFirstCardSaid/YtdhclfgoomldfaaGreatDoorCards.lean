/-
  DERIVED. GIVEN WITH THE SEED: THE CARDS: each row of YtdhclfgoomldfaaGreatDoorRows.lean that lists a variable, with what it lists TIED to the program's text (the seventh form; the later family's looks); each row that meets fmt, with fmt's text TOLD by the authors' own Lean function (tested against real Go, not proved from fmt's source: count such statements apart). THE CARD IS WHAT COUNTS. Prove the row's statement (the work); the ties are given (YtdhclfgoomldfaaGreatDoorTie.lean); close each card by the builder's one call (the guide's Derived/Test/ToyasCard.lean, 'card_holds'). Laid BY PROGRAM, IN A SANDBOX (cutbox-door.mjs). By AI agents, Wed Nov 11 2026. No macro, syntax, notation, axiom, sorry.
-/
import Derived.Test.YtdhclfgoomldfaaGreatDoorRows
import GoSem.ClaimSeven
namespace Go.Proofs.YtdhclfgoomldfaaGreatDoor
namespace Rows

/-- THE TIED CARD OF 'auspexlaw21.CoreGoes'. -/
def coreGoesCard : Claim7 := { stood := { row := coreGoesRow, standIns := [], harness := (true, "31368cd6c27fe56881ef8bf2aa7d531030d88bc5d4d7494a48fb462979574ea6"), looks := false }, kinds := [], alts := [], laidByText := true, laidKinds := [.data], laidTests := true, laidLooks := .later }
def CoreGoesCardSaid : Prop := Claim7.holds Tryz.pinned (.plain (OpenSpec.ofChange coreGoesSpec)) coreGoesCard

/-- THE TIED CARD OF 'auspexlaw21.CoreFirst'. -/
def coreFirstCard : Claim7 := { stood := { row := coreFirstRow, standIns := [], harness := (true, "31368cd6c27fe56881ef8bf2aa7d531030d88bc5d4d7494a48fb462979574ea6"), looks := false }, kinds := [], alts := [], laidByText := true, laidKinds := [.data], laidTests := true, laidLooks := .later }
def CoreFirstCardSaid : Prop := Claim7.holds Tryz.pinned (.plain (OpenSpec.ofChange coreFirstSpec)) coreFirstCard

/-- THE SECOND FORM's CARD OF 'auspexlaw21.CoreGoes'. -/
def coreGoesUptoCard : Claim7 := { stood := { row := coreGoesUptoRow, standIns := [], harness := (true, "31368cd6c27fe56881ef8bf2aa7d531030d88bc5d4d7494a48fb462979574ea6"), looks := false }, kinds := [], alts := [], laidByText := true, laidKinds := [.data], laidTests := true, laidLooks := .later }
def CoreGoesUptoCardSaid : Prop := Claim7.holds Tryz.pinned (.plain (OpenSpec.upto coreGoesSpec)) coreGoesUptoCard

/-- THE SECOND FORM's CARD OF 'auspexlaw21.CoreFirst'. -/
def coreFirstUptoCard : Claim7 := { stood := { row := coreFirstUptoRow, standIns := [], harness := (true, "31368cd6c27fe56881ef8bf2aa7d531030d88bc5d4d7494a48fb462979574ea6"), looks := false }, kinds := [], alts := [], laidByText := true, laidKinds := [.data], laidTests := true, laidLooks := .later }
def CoreFirstUptoCardSaid : Prop := Claim7.holds Tryz.pinned (.plain (OpenSpec.upto coreFirstSpec)) coreFirstUptoCard
end Rows
end Go.Proofs.YtdhclfgoomldfaaGreatDoor
