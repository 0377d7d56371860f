/-
  DERIVED. GIVEN WITH THE SEED: THE CARDS: each row of YtiaekocjeinkjaaGreatDoorRows.lean that lists a variable, with what it lists TIED to the program's text (the seventh form; the later family's looks); each row that meets fmt, with fmt's text TOLD by the authors' own Lean function (tested against real Go, not proved from fmt's source: count such statements apart). THE CARD IS WHAT COUNTS. Prove the row's statement (the work); the ties are given (YtiaekocjeinkjaaGreatDoorTie.lean); close each card by the builder's one call (the guide's Derived/Test/ToyasCard.lean, 'card_holds'). Laid BY PROGRAM, IN A SANDBOX (cutbox-door.mjs). By AI agents, Wed Nov 11 2026. No macro, syntax, notation, axiom, sorry.
-/
import Derived.Test.YtiaekocjeinkjaaGreatDoorRows
import GoSem.ClaimSeven
namespace Go.Proofs.YtiaekocjeinkjaaGreatDoor
namespace Rows

/-- THE TIED CARD OF 'auspextop.TopBlind'. -/
def topBlindCard : Claim7 := { stood := { row := topBlindRow, standIns := [], harness := (true, "f26a31bfe172e2632cda1d1403b31b5b8f6abb5ed09a740627f90a668733c126"), looks := false }, kinds := [], alts := [], laidByText := true, laidKinds := [.data], laidTests := true, laidLooks := .later }
def TopBlindCardSaid : Prop := Claim7.holds Tryz.pinned (.plain (OpenSpec.ofChange topBlindSpec)) topBlindCard

/-- THE TIED CARD OF 'auspexlaw23.TwinTaints'. -/
def twinTaintsCard : Claim7 := { stood := { row := twinTaintsRow, standIns := [], harness := (true, "f26a31bfe172e2632cda1d1403b31b5b8f6abb5ed09a740627f90a668733c126"), looks := false }, kinds := [], alts := [], laidByText := true, laidKinds := [.data], laidTests := true, laidLooks := .later }
def TwinTaintsCardSaid : Prop := Claim7.holds Tryz.pinned (.plain (OpenSpec.ofChange twinTaintsSpec)) twinTaintsCard

/-- THE TIED CARD OF 'auspexlaw23.TwinHolds'. -/
def twinHoldsCard : Claim7 := { stood := { row := twinHoldsRow, standIns := [], harness := (true, "f26a31bfe172e2632cda1d1403b31b5b8f6abb5ed09a740627f90a668733c126"), looks := false }, kinds := [], alts := [], laidByText := true, laidKinds := [.data], laidTests := true, laidLooks := .later }
def TwinHoldsCardSaid : Prop := Claim7.holds Tryz.pinned (.plain (OpenSpec.ofChange twinHoldsSpec)) twinHoldsCard

/-- THE TIED CARD OF 'auspexlaw23.TwinShows'. -/
def twinShowsCard : Claim7 := { stood := { row := twinShowsRow, standIns := [], harness := (true, "f26a31bfe172e2632cda1d1403b31b5b8f6abb5ed09a740627f90a668733c126"), looks := false }, kinds := [], alts := [], laidByText := true, laidKinds := [.data], laidTests := true, laidLooks := .later }
def TwinShowsCardSaid : Prop := Claim7.holds Tryz.pinned (.plain (OpenSpec.ofChange twinShowsSpec)) twinShowsCard

/-- THE SECOND FORM's CARD OF 'auspextop.TopBlind'. -/
def topBlindUptoCard : Claim7 := { stood := { row := topBlindUptoRow, standIns := [], harness := (true, "f26a31bfe172e2632cda1d1403b31b5b8f6abb5ed09a740627f90a668733c126"), looks := false }, kinds := [], alts := [], laidByText := true, laidKinds := [.data], laidTests := true, laidLooks := .later }
def TopBlindUptoCardSaid : Prop := Claim7.holds Tryz.pinned (.plain (OpenSpec.upto topBlindSpec)) topBlindUptoCard

/-- THE SECOND FORM's CARD OF 'auspexlaw23.TwinTaints'. -/
def twinTaintsUptoCard : Claim7 := { stood := { row := twinTaintsUptoRow, standIns := [], harness := (true, "f26a31bfe172e2632cda1d1403b31b5b8f6abb5ed09a740627f90a668733c126"), looks := false }, kinds := [], alts := [], laidByText := true, laidKinds := [.data], laidTests := true, laidLooks := .later }
def TwinTaintsUptoCardSaid : Prop := Claim7.holds Tryz.pinned (.plain (OpenSpec.upto twinTaintsSpec)) twinTaintsUptoCard

/-- THE SECOND FORM's CARD OF 'auspexlaw23.TwinHolds'. -/
def twinHoldsUptoCard : Claim7 := { stood := { row := twinHoldsUptoRow, standIns := [], harness := (true, "f26a31bfe172e2632cda1d1403b31b5b8f6abb5ed09a740627f90a668733c126"), looks := false }, kinds := [], alts := [], laidByText := true, laidKinds := [.data], laidTests := true, laidLooks := .later }
def TwinHoldsUptoCardSaid : Prop := Claim7.holds Tryz.pinned (.plain (OpenSpec.upto twinHoldsSpec)) twinHoldsUptoCard

/-- THE SECOND FORM's CARD OF 'auspexlaw23.TwinShows'. -/
def twinShowsUptoCard : Claim7 := { stood := { row := twinShowsUptoRow, standIns := [], harness := (true, "f26a31bfe172e2632cda1d1403b31b5b8f6abb5ed09a740627f90a668733c126"), looks := false }, kinds := [], alts := [], laidByText := true, laidKinds := [.data], laidTests := true, laidLooks := .later }
def TwinShowsUptoCardSaid : Prop := Claim7.holds Tryz.pinned (.plain (OpenSpec.upto twinShowsSpec)) twinShowsUptoCard
end Rows
end Go.Proofs.YtiaekocjeinkjaaGreatDoor
