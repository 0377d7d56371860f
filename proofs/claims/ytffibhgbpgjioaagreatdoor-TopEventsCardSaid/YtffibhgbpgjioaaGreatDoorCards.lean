/-
  DERIVED. GIVEN WITH THE SEED: THE CARDS: each row of YtffibhgbpgjioaaGreatDoorRows.lean that lists a variable, with what it lists TIED to the program's text (the seventh form; the later family's looks); each row that meets fmt, with fmt's text TOLD by the authors' own Lean function (tested against real Go, not proved from fmt's source: count such statements apart). THE CARD IS WHAT COUNTS. Prove the row's statement (the work); the ties are given (YtffibhgbpgjioaaGreatDoorTie.lean); close each card by the builder's one call (the guide's Derived/Test/ToyasCard.lean, 'card_holds'). Laid BY PROGRAM, IN A SANDBOX (cutbox-door.mjs). By AI agents, Wed Nov 11 2026. No macro, syntax, notation, axiom, sorry.
-/
import Derived.Test.YtffibhgbpgjioaaGreatDoorRows
import GoSem.ClaimSeven
namespace Go.Proofs.YtffibhgbpgjioaaGreatDoor
namespace Rows

/-- THE TIED CARD OF 'auspextop.TopEvents'. -/
def topEventsCard : Claim7 := { stood := { row := topEventsRow, standIns := [], harness := (true, "7f4b46cac41f49a94478774a5051a3fed9e869d9fafd5ca33a9fa1abcccd4dbb"), looks := false }, kinds := [], alts := [], laidByText := true, laidKinds := [.data], laidTests := true, laidLooks := .later }
def TopEventsCardSaid : Prop := Claim7.holds Tryz.pinned (.plain (OpenSpec.ofChange topEventsSpec)) topEventsCard

/-- THE TIED CARD OF 'auspexlaw21.CoreRuns'. -/
def coreRunsCard : Claim7 := { stood := { row := coreRunsRow, standIns := [], harness := (true, "7f4b46cac41f49a94478774a5051a3fed9e869d9fafd5ca33a9fa1abcccd4dbb"), looks := false }, kinds := [], alts := [], laidByText := true, laidKinds := [.data], laidTests := true, laidLooks := .later }
def CoreRunsCardSaid : Prop := Claim7.holds Tryz.pinned (.plain (OpenSpec.ofChange coreRunsSpec)) coreRunsCard

/-- THE SECOND FORM's CARD OF 'auspextop.TopEvents'. -/
def topEventsUptoCard : Claim7 := { stood := { row := topEventsUptoRow, standIns := [], harness := (true, "7f4b46cac41f49a94478774a5051a3fed9e869d9fafd5ca33a9fa1abcccd4dbb"), looks := false }, kinds := [], alts := [], laidByText := true, laidKinds := [.data], laidTests := true, laidLooks := .later }
def TopEventsUptoCardSaid : Prop := Claim7.holds Tryz.pinned (.plain (OpenSpec.upto topEventsSpec)) topEventsUptoCard

/-- THE SECOND FORM's CARD OF 'auspexlaw21.CoreRuns'. -/
def coreRunsUptoCard : Claim7 := { stood := { row := coreRunsUptoRow, standIns := [], harness := (true, "7f4b46cac41f49a94478774a5051a3fed9e869d9fafd5ca33a9fa1abcccd4dbb"), looks := false }, kinds := [], alts := [], laidByText := true, laidKinds := [.data], laidTests := true, laidLooks := .later }
def CoreRunsUptoCardSaid : Prop := Claim7.holds Tryz.pinned (.plain (OpenSpec.upto coreRunsSpec)) coreRunsUptoCard
end Rows
end Go.Proofs.YtffibhgbpgjioaaGreatDoor
