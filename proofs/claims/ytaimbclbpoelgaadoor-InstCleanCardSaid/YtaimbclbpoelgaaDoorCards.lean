/-
  DERIVED. GIVEN WITH THE SEED: THE CARDS: each row of YtaimbclbpoelgaaDoorRows.lean that lists a variable, with what it lists TIED to the program's text (the seventh form; the later family's looks); each row that meets fmt, with fmt's text TOLD by the authors' own Lean function (tested against real Go, not proved from fmt's source: count such statements apart). THE CARD IS WHAT COUNTS. Prove the row's statement (the work); the ties are given (YtaimbclbpoelgaaDoorTie.lean); close each card by the builder's one call (the guide's Derived/Test/ToyasCard.lean, 'card_holds'). Laid BY PROGRAM, IN A SANDBOX (cutbox-door.mjs). By AI agents, Wed Nov 11 2026. No macro, syntax, notation, axiom, sorry.
-/
import Derived.Test.YtaimbclbpoelgaaDoorRows
import GoSem.ClaimSeven
namespace Go.Proofs.YtaimbclbpoelgaaDoor
namespace Rows

/-- THE TIED CARD OF 'auspexlaw02.InstDecodes'. -/
def instDecodesCard : Claim7 := { stood := { row := instDecodesRow, standIns := [], harness := (true, "5d3f654d333997ff8c06aff37d1a3c2a6929897307425be37710963327a1d4f7"), looks := false }, kinds := [], alts := [], laidByText := true, laidKinds := [.data], laidTests := true, laidLooks := .later }
def InstDecodesCardSaid : Prop := Claim7.holds Tryd.pinned (.plain (OpenSpec.ofChange instDecodesSpec)) instDecodesCard

/-- THE TIED CARD OF 'auspexlaw02.InstNumbers'. -/
def instNumbersCard : Claim7 := { stood := { row := instNumbersRow, standIns := [], harness := (true, "5d3f654d333997ff8c06aff37d1a3c2a6929897307425be37710963327a1d4f7"), looks := false }, kinds := [], alts := [], laidByText := true, laidKinds := [.data], laidTests := true, laidLooks := .later }
def InstNumbersCardSaid : Prop := Claim7.holds Tryd.pinned (.plain (OpenSpec.ofChange instNumbersSpec)) instNumbersCard

/-- THE TIED CARD OF 'auspexlaw02.InstOne'. -/
def instOneCard : Claim7 := { stood := { row := instOneRow, standIns := [], harness := (true, "5d3f654d333997ff8c06aff37d1a3c2a6929897307425be37710963327a1d4f7"), looks := false }, kinds := [], alts := [], laidByText := true, laidKinds := [.data], laidTests := true, laidLooks := .later }
def InstOneCardSaid : Prop := Claim7.holds Tryd.pinned (.plain (OpenSpec.ofChange instOneSpec)) instOneCard

/-- THE TIED CARD OF 'auspexlaw02.InstTurns'. -/
def instTurnsCard : Claim7 := { stood := { row := instTurnsRow, standIns := [], harness := (true, "5d3f654d333997ff8c06aff37d1a3c2a6929897307425be37710963327a1d4f7"), looks := false }, kinds := [], alts := [], laidByText := true, laidKinds := [.data], laidTests := true, laidLooks := .later }
def InstTurnsCardSaid : Prop := Claim7.holds Tryd.pinned (.plain (OpenSpec.ofChange instTurnsSpec)) instTurnsCard

/-- THE TIED CARD OF 'auspexlaw02.InstEncodes'. -/
def instEncodesCard : Claim7 := { stood := { row := instEncodesRow, standIns := [], harness := (true, "5d3f654d333997ff8c06aff37d1a3c2a6929897307425be37710963327a1d4f7"), looks := false }, kinds := [], alts := [], laidByText := true, laidKinds := [.data], laidTests := true, laidLooks := .later }
def InstEncodesCardSaid : Prop := Claim7.holds Tryd.pinned (.plain (OpenSpec.ofChange instEncodesSpec)) instEncodesCard

/-- THE TIED CARD OF 'auspexlaw02.InstBack'. -/
def instBackCard : Claim7 := { stood := { row := instBackRow, standIns := [], harness := (true, "5d3f654d333997ff8c06aff37d1a3c2a6929897307425be37710963327a1d4f7"), looks := false }, kinds := [], alts := [], laidByText := true, laidKinds := [.data], laidTests := true, laidLooks := .later }
def InstBackCardSaid : Prop := Claim7.holds Tryd.pinned (.plain (OpenSpec.ofChange instBackSpec)) instBackCard

/-- THE TIED CARD OF 'auspexlaw02.InstClean'. -/
def instCleanCard : Claim7 := { stood := { row := instCleanRow, standIns := [], harness := (true, "5d3f654d333997ff8c06aff37d1a3c2a6929897307425be37710963327a1d4f7"), looks := false }, kinds := [], alts := [], laidByText := true, laidKinds := [.data], laidTests := true, laidLooks := .later }
def InstCleanCardSaid : Prop := Claim7.holds Tryd.pinned (.plain (OpenSpec.ofChange instCleanSpec)) instCleanCard

/-- THE SECOND FORM's CARD OF 'auspexlaw02.InstDecodes'. -/
def instDecodesUptoCard : Claim7 := { stood := { row := instDecodesUptoRow, standIns := [], harness := (true, "5d3f654d333997ff8c06aff37d1a3c2a6929897307425be37710963327a1d4f7"), looks := false }, kinds := [], alts := [], laidByText := true, laidKinds := [.data], laidTests := true, laidLooks := .later }
def InstDecodesUptoCardSaid : Prop := Claim7.holds Tryd.pinned (.plain (OpenSpec.upto instDecodesSpec)) instDecodesUptoCard

/-- THE SECOND FORM's CARD OF 'auspexlaw02.InstNumbers'. -/
def instNumbersUptoCard : Claim7 := { stood := { row := instNumbersUptoRow, standIns := [], harness := (true, "5d3f654d333997ff8c06aff37d1a3c2a6929897307425be37710963327a1d4f7"), looks := false }, kinds := [], alts := [], laidByText := true, laidKinds := [.data], laidTests := true, laidLooks := .later }
def InstNumbersUptoCardSaid : Prop := Claim7.holds Tryd.pinned (.plain (OpenSpec.upto instNumbersSpec)) instNumbersUptoCard

/-- THE SECOND FORM's CARD OF 'auspexlaw02.InstOne'. -/
def instOneUptoCard : Claim7 := { stood := { row := instOneUptoRow, standIns := [], harness := (true, "5d3f654d333997ff8c06aff37d1a3c2a6929897307425be37710963327a1d4f7"), looks := false }, kinds := [], alts := [], laidByText := true, laidKinds := [.data], laidTests := true, laidLooks := .later }
def InstOneUptoCardSaid : Prop := Claim7.holds Tryd.pinned (.plain (OpenSpec.upto instOneSpec)) instOneUptoCard

/-- THE SECOND FORM's CARD OF 'auspexlaw02.InstTurns'. -/
def instTurnsUptoCard : Claim7 := { stood := { row := instTurnsUptoRow, standIns := [], harness := (true, "5d3f654d333997ff8c06aff37d1a3c2a6929897307425be37710963327a1d4f7"), looks := false }, kinds := [], alts := [], laidByText := true, laidKinds := [.data], laidTests := true, laidLooks := .later }
def InstTurnsUptoCardSaid : Prop := Claim7.holds Tryd.pinned (.plain (OpenSpec.upto instTurnsSpec)) instTurnsUptoCard

/-- THE SECOND FORM's CARD OF 'auspexlaw02.InstEncodes'. -/
def instEncodesUptoCard : Claim7 := { stood := { row := instEncodesUptoRow, standIns := [], harness := (true, "5d3f654d333997ff8c06aff37d1a3c2a6929897307425be37710963327a1d4f7"), looks := false }, kinds := [], alts := [], laidByText := true, laidKinds := [.data], laidTests := true, laidLooks := .later }
def InstEncodesUptoCardSaid : Prop := Claim7.holds Tryd.pinned (.plain (OpenSpec.upto instEncodesSpec)) instEncodesUptoCard

/-- THE SECOND FORM's CARD OF 'auspexlaw02.InstBack'. -/
def instBackUptoCard : Claim7 := { stood := { row := instBackUptoRow, standIns := [], harness := (true, "5d3f654d333997ff8c06aff37d1a3c2a6929897307425be37710963327a1d4f7"), looks := false }, kinds := [], alts := [], laidByText := true, laidKinds := [.data], laidTests := true, laidLooks := .later }
def InstBackUptoCardSaid : Prop := Claim7.holds Tryd.pinned (.plain (OpenSpec.upto instBackSpec)) instBackUptoCard

/-- THE SECOND FORM's CARD OF 'auspexlaw02.InstClean'. -/
def instCleanUptoCard : Claim7 := { stood := { row := instCleanUptoRow, standIns := [], harness := (true, "5d3f654d333997ff8c06aff37d1a3c2a6929897307425be37710963327a1d4f7"), looks := false }, kinds := [], alts := [], laidByText := true, laidKinds := [.data], laidTests := true, laidLooks := .later }
def InstCleanUptoCardSaid : Prop := Claim7.holds Tryd.pinned (.plain (OpenSpec.upto instCleanSpec)) instCleanUptoCard
end Rows
end Go.Proofs.YtaimbclbpoelgaaDoor
