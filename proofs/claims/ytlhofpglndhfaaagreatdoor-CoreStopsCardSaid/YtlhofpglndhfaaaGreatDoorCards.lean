/-
  DERIVED. GIVEN WITH THE SEED: THE CARDS: each row of YtlhofpglndhfaaaGreatDoorRows.lean that lists a variable, with what it lists TIED to the program's text (the seventh form; the later family's looks); each row that meets fmt, with fmt's text TOLD by the authors' own Lean function (tested against real Go, not proved from fmt's source: count such statements apart). THE CARD IS WHAT COUNTS. Prove the row's statement (the work); the ties are given (YtlhofpglndhfaaaGreatDoorTie.lean); close each card by the builder's one call (the guide's Derived/Test/ToyasCard.lean, 'card_holds'). Laid BY PROGRAM, IN A SANDBOX (cutbox-door.mjs). By AI agents, Wed Nov 11 2026. No macro, syntax, notation, axiom, sorry.
-/
import Derived.Test.YtlhofpglndhfaaaGreatDoorRows
import GoSem.ClaimSeven
namespace Go.Proofs.YtlhofpglndhfaaaGreatDoor
namespace Rows

/-- THE TIED CARD OF 'auspexlaw21.CoreNews'. -/
def coreNewsCard : Claim7 := { stood := { row := coreNewsRow, standIns := [], harness := (true, "21d9afec82f0bd7b733735d36af2b3dccba2783b529c70502f59daaaa80a9f9a"), looks := false }, kinds := [], alts := [], laidByText := true, laidKinds := [.data], laidTests := true, laidLooks := .later }
def CoreNewsCardSaid : Prop := Claim7.holds Tryz.pinned (.plain (OpenSpec.ofChange coreNewsSpec)) coreNewsCard

/-- THE TIED CARD OF 'auspexlaw21.CoreRuns'. -/
def coreRunsCard : Claim7 := { stood := { row := coreRunsRow, standIns := [], harness := (true, "21d9afec82f0bd7b733735d36af2b3dccba2783b529c70502f59daaaa80a9f9a"), looks := false }, kinds := [], alts := [], laidByText := true, laidKinds := [.data], laidTests := true, laidLooks := .later }
def CoreRunsCardSaid : Prop := Claim7.holds Tryz.pinned (.plain (OpenSpec.ofChange coreRunsSpec)) coreRunsCard

/-- THE TIED CARD OF 'auspexlaw21.CoreGoes'. -/
def coreGoesCard : Claim7 := { stood := { row := coreGoesRow, standIns := [], harness := (true, "21d9afec82f0bd7b733735d36af2b3dccba2783b529c70502f59daaaa80a9f9a"), looks := false }, kinds := [], alts := [], laidByText := true, laidKinds := [.data], laidTests := true, laidLooks := .later }
def CoreGoesCardSaid : Prop := Claim7.holds Tryz.pinned (.plain (OpenSpec.ofChange coreGoesSpec)) coreGoesCard

/-- THE TIED CARD OF 'auspexlaw21.CoreParts'. -/
def corePartsCard : Claim7 := { stood := { row := corePartsRow, standIns := [], harness := (true, "21d9afec82f0bd7b733735d36af2b3dccba2783b529c70502f59daaaa80a9f9a"), looks := false }, kinds := [], alts := [], laidByText := true, laidKinds := [.data], laidTests := true, laidLooks := .later }
def CorePartsCardSaid : Prop := Claim7.holds Tryz.pinned (.plain (OpenSpec.ofChange corePartsSpec)) corePartsCard

/-- THE TIED CARD OF 'auspexlaw21.CoreWild'. -/
def coreWildCard : Claim7 := { stood := { row := coreWildRow, standIns := [], harness := (true, "21d9afec82f0bd7b733735d36af2b3dccba2783b529c70502f59daaaa80a9f9a"), looks := false }, kinds := [], alts := [], laidByText := true, laidKinds := [.data], laidTests := true, laidLooks := .later }
def CoreWildCardSaid : Prop := Claim7.holds Tryz.pinned (.plain (OpenSpec.ofChange coreWildSpec)) coreWildCard

/-- THE TIED CARD OF 'auspexlaw21.CoreKeeps'. -/
def coreKeepsCard : Claim7 := { stood := { row := coreKeepsRow, standIns := [], harness := (true, "21d9afec82f0bd7b733735d36af2b3dccba2783b529c70502f59daaaa80a9f9a"), looks := false }, kinds := [], alts := [], laidByText := true, laidKinds := [.data], laidTests := true, laidLooks := .later }
def CoreKeepsCardSaid : Prop := Claim7.holds Tryz.pinned (.plain (OpenSpec.ofChange coreKeepsSpec)) coreKeepsCard

/-- THE TIED CARD OF 'auspexlaw21.CoreCounts'. -/
def coreCountsCard : Claim7 := { stood := { row := coreCountsRow, standIns := [], harness := (true, "21d9afec82f0bd7b733735d36af2b3dccba2783b529c70502f59daaaa80a9f9a"), looks := false }, kinds := [], alts := [], laidByText := true, laidKinds := [.data], laidTests := true, laidLooks := .later }
def CoreCountsCardSaid : Prop := Claim7.holds Tryz.pinned (.plain (OpenSpec.ofChange coreCountsSpec)) coreCountsCard

/-- THE TIED CARD OF 'auspexlaw21.CoreStops'. -/
def coreStopsCard : Claim7 := { stood := { row := coreStopsRow, standIns := [], harness := (true, "21d9afec82f0bd7b733735d36af2b3dccba2783b529c70502f59daaaa80a9f9a"), looks := false }, kinds := [], alts := [], laidByText := true, laidKinds := [.data], laidTests := true, laidLooks := .later }
def CoreStopsCardSaid : Prop := Claim7.holds Tryz.pinned (.plain (OpenSpec.ofChange coreStopsSpec)) coreStopsCard

/-- THE TIED CARD OF 'auspexlaw21.CoreFirst'. -/
def coreFirstCard : Claim7 := { stood := { row := coreFirstRow, standIns := [], harness := (true, "21d9afec82f0bd7b733735d36af2b3dccba2783b529c70502f59daaaa80a9f9a"), looks := false }, kinds := [], alts := [], laidByText := true, laidKinds := [.data], laidTests := true, laidLooks := .later }
def CoreFirstCardSaid : Prop := Claim7.holds Tryz.pinned (.plain (OpenSpec.ofChange coreFirstSpec)) coreFirstCard

/-- THE TIED CARD OF 'auspexlaw22.WatchRuns'. -/
def watchRunsCard : Claim7 := { stood := { row := watchRunsRow, standIns := [], harness := (true, "21d9afec82f0bd7b733735d36af2b3dccba2783b529c70502f59daaaa80a9f9a"), looks := false }, kinds := [], alts := [], laidByText := true, laidKinds := [.data], laidTests := true, laidLooks := .later }
def WatchRunsCardSaid : Prop := Claim7.holds Tryz.pinned (.plain (OpenSpec.ofChange watchRunsSpec)) watchRunsCard

/-- THE TIED CARD OF 'auspexlaw22.WatchTags'. -/
def watchTagsCard : Claim7 := { stood := { row := watchTagsRow, standIns := [], harness := (true, "21d9afec82f0bd7b733735d36af2b3dccba2783b529c70502f59daaaa80a9f9a"), looks := false }, kinds := [], alts := [], laidByText := true, laidKinds := [.data], laidTests := true, laidLooks := .later }
def WatchTagsCardSaid : Prop := Claim7.holds Tryz.pinned (.plain (OpenSpec.ofChange watchTagsSpec)) watchTagsCard

/-- THE TIED CARD OF 'auspexlaw22.WatchFirst'. -/
def watchFirstCard : Claim7 := { stood := { row := watchFirstRow, standIns := [], harness := (true, "21d9afec82f0bd7b733735d36af2b3dccba2783b529c70502f59daaaa80a9f9a"), looks := false }, kinds := [], alts := [], laidByText := true, laidKinds := [.data], laidTests := true, laidLooks := .later }
def WatchFirstCardSaid : Prop := Claim7.holds Tryz.pinned (.plain (OpenSpec.ofChange watchFirstSpec)) watchFirstCard

/-- THE SECOND FORM's CARD OF 'auspexlaw21.CoreNews'. -/
def coreNewsUptoCard : Claim7 := { stood := { row := coreNewsUptoRow, standIns := [], harness := (true, "21d9afec82f0bd7b733735d36af2b3dccba2783b529c70502f59daaaa80a9f9a"), looks := false }, kinds := [], alts := [], laidByText := true, laidKinds := [.data], laidTests := true, laidLooks := .later }
def CoreNewsUptoCardSaid : Prop := Claim7.holds Tryz.pinned (.plain (OpenSpec.upto coreNewsSpec)) coreNewsUptoCard

/-- THE SECOND FORM's CARD OF 'auspexlaw21.CoreRuns'. -/
def coreRunsUptoCard : Claim7 := { stood := { row := coreRunsUptoRow, standIns := [], harness := (true, "21d9afec82f0bd7b733735d36af2b3dccba2783b529c70502f59daaaa80a9f9a"), looks := false }, kinds := [], alts := [], laidByText := true, laidKinds := [.data], laidTests := true, laidLooks := .later }
def CoreRunsUptoCardSaid : Prop := Claim7.holds Tryz.pinned (.plain (OpenSpec.upto coreRunsSpec)) coreRunsUptoCard

/-- THE SECOND FORM's CARD OF 'auspexlaw21.CoreGoes'. -/
def coreGoesUptoCard : Claim7 := { stood := { row := coreGoesUptoRow, standIns := [], harness := (true, "21d9afec82f0bd7b733735d36af2b3dccba2783b529c70502f59daaaa80a9f9a"), looks := false }, kinds := [], alts := [], laidByText := true, laidKinds := [.data], laidTests := true, laidLooks := .later }
def CoreGoesUptoCardSaid : Prop := Claim7.holds Tryz.pinned (.plain (OpenSpec.upto coreGoesSpec)) coreGoesUptoCard

/-- THE SECOND FORM's CARD OF 'auspexlaw21.CoreParts'. -/
def corePartsUptoCard : Claim7 := { stood := { row := corePartsUptoRow, standIns := [], harness := (true, "21d9afec82f0bd7b733735d36af2b3dccba2783b529c70502f59daaaa80a9f9a"), looks := false }, kinds := [], alts := [], laidByText := true, laidKinds := [.data], laidTests := true, laidLooks := .later }
def CorePartsUptoCardSaid : Prop := Claim7.holds Tryz.pinned (.plain (OpenSpec.upto corePartsSpec)) corePartsUptoCard

/-- THE SECOND FORM's CARD OF 'auspexlaw21.CoreWild'. -/
def coreWildUptoCard : Claim7 := { stood := { row := coreWildUptoRow, standIns := [], harness := (true, "21d9afec82f0bd7b733735d36af2b3dccba2783b529c70502f59daaaa80a9f9a"), looks := false }, kinds := [], alts := [], laidByText := true, laidKinds := [.data], laidTests := true, laidLooks := .later }
def CoreWildUptoCardSaid : Prop := Claim7.holds Tryz.pinned (.plain (OpenSpec.upto coreWildSpec)) coreWildUptoCard

/-- THE SECOND FORM's CARD OF 'auspexlaw21.CoreKeeps'. -/
def coreKeepsUptoCard : Claim7 := { stood := { row := coreKeepsUptoRow, standIns := [], harness := (true, "21d9afec82f0bd7b733735d36af2b3dccba2783b529c70502f59daaaa80a9f9a"), looks := false }, kinds := [], alts := [], laidByText := true, laidKinds := [.data], laidTests := true, laidLooks := .later }
def CoreKeepsUptoCardSaid : Prop := Claim7.holds Tryz.pinned (.plain (OpenSpec.upto coreKeepsSpec)) coreKeepsUptoCard

/-- THE SECOND FORM's CARD OF 'auspexlaw21.CoreCounts'. -/
def coreCountsUptoCard : Claim7 := { stood := { row := coreCountsUptoRow, standIns := [], harness := (true, "21d9afec82f0bd7b733735d36af2b3dccba2783b529c70502f59daaaa80a9f9a"), looks := false }, kinds := [], alts := [], laidByText := true, laidKinds := [.data], laidTests := true, laidLooks := .later }
def CoreCountsUptoCardSaid : Prop := Claim7.holds Tryz.pinned (.plain (OpenSpec.upto coreCountsSpec)) coreCountsUptoCard

/-- THE SECOND FORM's CARD OF 'auspexlaw21.CoreStops'. -/
def coreStopsUptoCard : Claim7 := { stood := { row := coreStopsUptoRow, standIns := [], harness := (true, "21d9afec82f0bd7b733735d36af2b3dccba2783b529c70502f59daaaa80a9f9a"), looks := false }, kinds := [], alts := [], laidByText := true, laidKinds := [.data], laidTests := true, laidLooks := .later }
def CoreStopsUptoCardSaid : Prop := Claim7.holds Tryz.pinned (.plain (OpenSpec.upto coreStopsSpec)) coreStopsUptoCard

/-- THE SECOND FORM's CARD OF 'auspexlaw21.CoreFirst'. -/
def coreFirstUptoCard : Claim7 := { stood := { row := coreFirstUptoRow, standIns := [], harness := (true, "21d9afec82f0bd7b733735d36af2b3dccba2783b529c70502f59daaaa80a9f9a"), looks := false }, kinds := [], alts := [], laidByText := true, laidKinds := [.data], laidTests := true, laidLooks := .later }
def CoreFirstUptoCardSaid : Prop := Claim7.holds Tryz.pinned (.plain (OpenSpec.upto coreFirstSpec)) coreFirstUptoCard

/-- THE SECOND FORM's CARD OF 'auspexlaw22.WatchRuns'. -/
def watchRunsUptoCard : Claim7 := { stood := { row := watchRunsUptoRow, standIns := [], harness := (true, "21d9afec82f0bd7b733735d36af2b3dccba2783b529c70502f59daaaa80a9f9a"), looks := false }, kinds := [], alts := [], laidByText := true, laidKinds := [.data], laidTests := true, laidLooks := .later }
def WatchRunsUptoCardSaid : Prop := Claim7.holds Tryz.pinned (.plain (OpenSpec.upto watchRunsSpec)) watchRunsUptoCard

/-- THE SECOND FORM's CARD OF 'auspexlaw22.WatchTags'. -/
def watchTagsUptoCard : Claim7 := { stood := { row := watchTagsUptoRow, standIns := [], harness := (true, "21d9afec82f0bd7b733735d36af2b3dccba2783b529c70502f59daaaa80a9f9a"), looks := false }, kinds := [], alts := [], laidByText := true, laidKinds := [.data], laidTests := true, laidLooks := .later }
def WatchTagsUptoCardSaid : Prop := Claim7.holds Tryz.pinned (.plain (OpenSpec.upto watchTagsSpec)) watchTagsUptoCard

/-- THE SECOND FORM's CARD OF 'auspexlaw22.WatchFirst'. -/
def watchFirstUptoCard : Claim7 := { stood := { row := watchFirstUptoRow, standIns := [], harness := (true, "21d9afec82f0bd7b733735d36af2b3dccba2783b529c70502f59daaaa80a9f9a"), looks := false }, kinds := [], alts := [], laidByText := true, laidKinds := [.data], laidTests := true, laidLooks := .later }
def WatchFirstUptoCardSaid : Prop := Claim7.holds Tryz.pinned (.plain (OpenSpec.upto watchFirstSpec)) watchFirstUptoCard
end Rows
end Go.Proofs.YtlhofpglndhfaaaGreatDoor
