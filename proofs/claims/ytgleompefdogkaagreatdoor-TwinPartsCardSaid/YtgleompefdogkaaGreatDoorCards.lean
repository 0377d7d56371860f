/-
  DERIVED. GIVEN WITH THE SEED: THE CARDS: each row of YtgleompefdogkaaGreatDoorRows.lean that lists a variable, with what it lists TIED to the program's text (the seventh form; the later family's looks); each row that meets fmt, with fmt's text TOLD by the authors' own Lean function (tested against real Go, not proved from fmt's source: count such statements apart). THE CARD IS WHAT COUNTS. Prove the row's statement (the work); the ties are given (YtgleompefdogkaaGreatDoorTie.lean); close each card by the builder's one call (the guide's Derived/Test/ToyasCard.lean, 'card_holds'). Laid BY PROGRAM, IN A SANDBOX (cutbox-door.mjs). By AI agents, Wed Nov 11 2026. No macro, syntax, notation, axiom, sorry.
-/
import Derived.Test.YtgleompefdogkaaGreatDoorRows
import GoSem.ClaimSeven
namespace Go.Proofs.YtgleompefdogkaaGreatDoor
namespace Rows

/-- THE TIED CARD OF 'auspexlaw22.WatchRuns'. -/
def watchRunsCard : Claim7 := { stood := { row := watchRunsRow, standIns := [], harness := (true, "c83d45d2838098cc85c043be517dfe0ad1b2acf669cea55d0a6e45578e65030b"), looks := false }, kinds := [], alts := [], laidByText := true, laidKinds := [.data], laidTests := true, laidLooks := .later }
def WatchRunsCardSaid : Prop := Claim7.holds Tryz.pinned (.plain (OpenSpec.ofChange watchRunsSpec)) watchRunsCard

/-- THE TIED CARD OF 'auspexlaw23.TwinSwaps'. -/
def twinSwapsCard : Claim7 := { stood := { row := twinSwapsRow, standIns := [], harness := (true, "c83d45d2838098cc85c043be517dfe0ad1b2acf669cea55d0a6e45578e65030b"), looks := false }, kinds := [], alts := [], laidByText := true, laidKinds := [.data], laidTests := true, laidLooks := .later }
def TwinSwapsCardSaid : Prop := Claim7.holds Tryz.pinned (.plain (OpenSpec.ofChange twinSwapsSpec)) twinSwapsCard

/-- THE TIED CARD OF 'auspexlaw23.TwinParts'. -/
def twinPartsCard : Claim7 := { stood := { row := twinPartsRow, standIns := [], harness := (true, "c83d45d2838098cc85c043be517dfe0ad1b2acf669cea55d0a6e45578e65030b"), looks := false }, kinds := [], alts := [], laidByText := true, laidKinds := [.data], laidTests := true, laidLooks := .later }
def TwinPartsCardSaid : Prop := Claim7.holds Tryz.pinned (.plain (OpenSpec.ofChange twinPartsSpec)) twinPartsCard

/-- THE SECOND FORM's CARD OF 'auspexlaw22.WatchRuns'. -/
def watchRunsUptoCard : Claim7 := { stood := { row := watchRunsUptoRow, standIns := [], harness := (true, "c83d45d2838098cc85c043be517dfe0ad1b2acf669cea55d0a6e45578e65030b"), looks := false }, kinds := [], alts := [], laidByText := true, laidKinds := [.data], laidTests := true, laidLooks := .later }
def WatchRunsUptoCardSaid : Prop := Claim7.holds Tryz.pinned (.plain (OpenSpec.upto watchRunsSpec)) watchRunsUptoCard

/-- THE SECOND FORM's CARD OF 'auspexlaw23.TwinSwaps'. -/
def twinSwapsUptoCard : Claim7 := { stood := { row := twinSwapsUptoRow, standIns := [], harness := (true, "c83d45d2838098cc85c043be517dfe0ad1b2acf669cea55d0a6e45578e65030b"), looks := false }, kinds := [], alts := [], laidByText := true, laidKinds := [.data], laidTests := true, laidLooks := .later }
def TwinSwapsUptoCardSaid : Prop := Claim7.holds Tryz.pinned (.plain (OpenSpec.upto twinSwapsSpec)) twinSwapsUptoCard

/-- THE SECOND FORM's CARD OF 'auspexlaw23.TwinParts'. -/
def twinPartsUptoCard : Claim7 := { stood := { row := twinPartsUptoRow, standIns := [], harness := (true, "c83d45d2838098cc85c043be517dfe0ad1b2acf669cea55d0a6e45578e65030b"), looks := false }, kinds := [], alts := [], laidByText := true, laidKinds := [.data], laidTests := true, laidLooks := .later }
def TwinPartsUptoCardSaid : Prop := Claim7.holds Tryz.pinned (.plain (OpenSpec.upto twinPartsSpec)) twinPartsUptoCard
end Rows
end Go.Proofs.YtgleompefdogkaaGreatDoor
