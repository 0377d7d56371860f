/-
  DERIVED. GIVEN WITH THE SEED: THE CARDS: each row of YtahnhhbgkmlfcaaDoorRows.lean that lists a variable, with what it lists TIED to the program's text (the seventh form; the later family's looks); each row that meets fmt, with fmt's text TOLD by the authors' own Lean function (tested against real Go, not proved from fmt's source: count such statements apart). THE CARD IS WHAT COUNTS. Prove the row's statement (the work); the ties are given (YtahnhhbgkmlfcaaDoorTie.lean); close each card by the builder's one call (the guide's Derived/Test/ToyasCard.lean, 'card_holds'). Laid BY PROGRAM, IN A SANDBOX (cutbox-door.mjs). By AI agents, Wed Nov 11 2026. No macro, syntax, notation, axiom, sorry.
-/
import Derived.Test.YtahnhhbgkmlfcaaDoorRows
import GoSem.ClaimSeven
namespace Go.Proofs.YtahnhhbgkmlfcaaDoor
namespace Rows

/-- THE TIED CARD OF 'auspexlaw06.SeqRuns'. -/
def seqRunsCard : Claim7 := { stood := { row := seqRunsRow, standIns := [], harness := (true, "ffdcf19602f668422a4ca1f4c1ec0ab5c67e1113dd95f34fe321f26fd3b4bd40"), looks := false }, kinds := [], alts := [], laidByText := true, laidKinds := [.data], laidTests := true, laidLooks := .later }
def SeqRunsCardSaid : Prop := Claim7.holds Tryd.pinned (.plain (OpenSpec.ofChange seqRunsSpec)) seqRunsCard

/-- THE TIED CARD OF 'auspexlaw06.SeqGoes'. -/
def seqGoesCard : Claim7 := { stood := { row := seqGoesRow, standIns := [], harness := (true, "ffdcf19602f668422a4ca1f4c1ec0ab5c67e1113dd95f34fe321f26fd3b4bd40"), looks := false }, kinds := [], alts := [], laidByText := true, laidKinds := [.data], laidTests := true, laidLooks := .later }
def SeqGoesCardSaid : Prop := Claim7.holds Tryd.pinned (.plain (OpenSpec.ofChange seqGoesSpec)) seqGoesCard

/-- THE TIED CARD OF 'auspexlaw06.SeqReads'. -/
def seqReadsCard : Claim7 := { stood := { row := seqReadsRow, standIns := [], harness := (true, "ffdcf19602f668422a4ca1f4c1ec0ab5c67e1113dd95f34fe321f26fd3b4bd40"), looks := false }, kinds := [], alts := [], laidByText := true, laidKinds := [.data], laidTests := true, laidLooks := .later }
def SeqReadsCardSaid : Prop := Claim7.holds Tryd.pinned (.plain (OpenSpec.ofChange seqReadsSpec)) seqReadsCard

/-- THE TIED CARD OF 'auspexlaw06.SeqStops'. -/
def seqStopsCard : Claim7 := { stood := { row := seqStopsRow, standIns := [], harness := (true, "ffdcf19602f668422a4ca1f4c1ec0ab5c67e1113dd95f34fe321f26fd3b4bd40"), looks := false }, kinds := [], alts := [], laidByText := true, laidKinds := [.data], laidTests := true, laidLooks := .later }
def SeqStopsCardSaid : Prop := Claim7.holds Tryd.pinned (.plain (OpenSpec.ofChange seqStopsSpec)) seqStopsCard

/-- THE TIED CARD OF 'auspexlaw06.SeqAdds'. -/
def seqAddsCard : Claim7 := { stood := { row := seqAddsRow, standIns := [], harness := (true, "ffdcf19602f668422a4ca1f4c1ec0ab5c67e1113dd95f34fe321f26fd3b4bd40"), looks := false }, kinds := [], alts := [], laidByText := true, laidKinds := [.data], laidTests := true, laidLooks := .later }
def SeqAddsCardSaid : Prop := Claim7.holds Tryd.pinned (.plain (OpenSpec.ofChange seqAddsSpec)) seqAddsCard

/-- THE TIED CARD OF 'auspexlaw07.TraceTells'. -/
def traceTellsCard : Claim7 := { stood := { row := traceTellsRow, standIns := [], harness := (true, "ffdcf19602f668422a4ca1f4c1ec0ab5c67e1113dd95f34fe321f26fd3b4bd40"), looks := false }, kinds := [], alts := [], laidByText := true, laidKinds := [.data], laidTests := true, laidLooks := .later }
def TraceTellsCardSaid : Prop := Claim7.holds Tryd.pinned (.plain (OpenSpec.ofChange traceTellsSpec)) traceTellsCard

/-- THE TIED CARD OF 'auspexlaw07.TraceRuns'. -/
def traceRunsCard : Claim7 := { stood := { row := traceRunsRow, standIns := [], harness := (true, "ffdcf19602f668422a4ca1f4c1ec0ab5c67e1113dd95f34fe321f26fd3b4bd40"), looks := false }, kinds := [], alts := [], laidByText := true, laidKinds := [.data], laidTests := true, laidLooks := .later }
def TraceRunsCardSaid : Prop := Claim7.holds Tryd.pinned (.plain (OpenSpec.ofChange traceRunsSpec)) traceRunsCard

/-- THE SECOND FORM's CARD OF 'auspexlaw06.SeqRuns'. -/
def seqRunsUptoCard : Claim7 := { stood := { row := seqRunsUptoRow, standIns := [], harness := (true, "ffdcf19602f668422a4ca1f4c1ec0ab5c67e1113dd95f34fe321f26fd3b4bd40"), looks := false }, kinds := [], alts := [], laidByText := true, laidKinds := [.data], laidTests := true, laidLooks := .later }
def SeqRunsUptoCardSaid : Prop := Claim7.holds Tryd.pinned (.plain (OpenSpec.upto seqRunsSpec)) seqRunsUptoCard

/-- THE SECOND FORM's CARD OF 'auspexlaw06.SeqGoes'. -/
def seqGoesUptoCard : Claim7 := { stood := { row := seqGoesUptoRow, standIns := [], harness := (true, "ffdcf19602f668422a4ca1f4c1ec0ab5c67e1113dd95f34fe321f26fd3b4bd40"), looks := false }, kinds := [], alts := [], laidByText := true, laidKinds := [.data], laidTests := true, laidLooks := .later }
def SeqGoesUptoCardSaid : Prop := Claim7.holds Tryd.pinned (.plain (OpenSpec.upto seqGoesSpec)) seqGoesUptoCard

/-- THE SECOND FORM's CARD OF 'auspexlaw06.SeqReads'. -/
def seqReadsUptoCard : Claim7 := { stood := { row := seqReadsUptoRow, standIns := [], harness := (true, "ffdcf19602f668422a4ca1f4c1ec0ab5c67e1113dd95f34fe321f26fd3b4bd40"), looks := false }, kinds := [], alts := [], laidByText := true, laidKinds := [.data], laidTests := true, laidLooks := .later }
def SeqReadsUptoCardSaid : Prop := Claim7.holds Tryd.pinned (.plain (OpenSpec.upto seqReadsSpec)) seqReadsUptoCard

/-- THE SECOND FORM's CARD OF 'auspexlaw06.SeqStops'. -/
def seqStopsUptoCard : Claim7 := { stood := { row := seqStopsUptoRow, standIns := [], harness := (true, "ffdcf19602f668422a4ca1f4c1ec0ab5c67e1113dd95f34fe321f26fd3b4bd40"), looks := false }, kinds := [], alts := [], laidByText := true, laidKinds := [.data], laidTests := true, laidLooks := .later }
def SeqStopsUptoCardSaid : Prop := Claim7.holds Tryd.pinned (.plain (OpenSpec.upto seqStopsSpec)) seqStopsUptoCard

/-- THE SECOND FORM's CARD OF 'auspexlaw06.SeqAdds'. -/
def seqAddsUptoCard : Claim7 := { stood := { row := seqAddsUptoRow, standIns := [], harness := (true, "ffdcf19602f668422a4ca1f4c1ec0ab5c67e1113dd95f34fe321f26fd3b4bd40"), looks := false }, kinds := [], alts := [], laidByText := true, laidKinds := [.data], laidTests := true, laidLooks := .later }
def SeqAddsUptoCardSaid : Prop := Claim7.holds Tryd.pinned (.plain (OpenSpec.upto seqAddsSpec)) seqAddsUptoCard

/-- THE SECOND FORM's CARD OF 'auspexlaw07.TraceTells'. -/
def traceTellsUptoCard : Claim7 := { stood := { row := traceTellsUptoRow, standIns := [], harness := (true, "ffdcf19602f668422a4ca1f4c1ec0ab5c67e1113dd95f34fe321f26fd3b4bd40"), looks := false }, kinds := [], alts := [], laidByText := true, laidKinds := [.data], laidTests := true, laidLooks := .later }
def TraceTellsUptoCardSaid : Prop := Claim7.holds Tryd.pinned (.plain (OpenSpec.upto traceTellsSpec)) traceTellsUptoCard

/-- THE SECOND FORM's CARD OF 'auspexlaw07.TraceRuns'. -/
def traceRunsUptoCard : Claim7 := { stood := { row := traceRunsUptoRow, standIns := [], harness := (true, "ffdcf19602f668422a4ca1f4c1ec0ab5c67e1113dd95f34fe321f26fd3b4bd40"), looks := false }, kinds := [], alts := [], laidByText := true, laidKinds := [.data], laidTests := true, laidLooks := .later }
def TraceRunsUptoCardSaid : Prop := Claim7.holds Tryd.pinned (.plain (OpenSpec.upto traceRunsSpec)) traceRunsUptoCard
end Rows
end Go.Proofs.YtahnhhbgkmlfcaaDoor
