/-
  DERIVED. GIVEN WITH THE SEED: THE CARDS: each row of YtlpkggpdjobpmaaGreatDoorRows.lean that lists a variable, with what it lists TIED to the program's text (the seventh form; the later family's looks); each row that meets fmt, with fmt's text TOLD by the authors' own Lean function (tested against real Go, not proved from fmt's source: count such statements apart). THE CARD IS WHAT COUNTS. Prove the row's statement (the work); the ties are given (YtlpkggpdjobpmaaGreatDoorTie.lean); close each card by the builder's one call (the guide's Derived/Test/ToyasCard.lean, 'card_holds'). Laid BY PROGRAM, IN A SANDBOX (cutbox-door.mjs). By AI agents, Wed Nov 11 2026. No macro, syntax, notation, axiom, sorry.
-/
import Derived.Test.YtlpkggpdjobpmaaGreatDoorRows
import GoSem.ClaimSeven
namespace Go.Proofs.YtlpkggpdjobpmaaGreatDoor
namespace Rows

/-- THE TIED CARD OF 'auspexlaw21.CoreRuns'. -/
def coreRunsCard : Claim7 := { stood := { row := coreRunsRow, standIns := [], harness := (true, "c3f69c46388428aca8ce686f05098df2ccd55c3a6b291a233818163c0375ddde"), looks := false }, kinds := [], alts := [], laidByText := true, laidKinds := [.data], laidTests := true, laidLooks := .later }
def CoreRunsCardSaid : Prop := Claim7.holds Tryz.pinned (.plain (OpenSpec.ofChange coreRunsSpec)) coreRunsCard

/-- THE SECOND FORM's CARD OF 'auspexlaw21.CoreRuns'. -/
def coreRunsUptoCard : Claim7 := { stood := { row := coreRunsUptoRow, standIns := [], harness := (true, "c3f69c46388428aca8ce686f05098df2ccd55c3a6b291a233818163c0375ddde"), looks := false }, kinds := [], alts := [], laidByText := true, laidKinds := [.data], laidTests := true, laidLooks := .later }
def CoreRunsUptoCardSaid : Prop := Claim7.holds Tryz.pinned (.plain (OpenSpec.upto coreRunsSpec)) coreRunsUptoCard
end Rows
end Go.Proofs.YtlpkggpdjobpmaaGreatDoor
