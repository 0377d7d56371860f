/- The table of package inst: from the row's condition to what a walk reads; a world that meets it. -/
import Derived.Test.YtahnhhbgkmlfcaaDoorInst5
import Derived.Test.YtahnhhbgkmlfcaaDoorRows
import Derived.Test.YtahnhhbgkmlfcaaDoorCards
import Derived.Test.YtahnhhbgkmlfcaaDoorTie
import Derived.ProofKit
import Derived.LaidMore
import Derived.Lib.LaidTab
import Derived.Stop.Joined
namespace Go.Proofs.YtahnhhbgkmlfcaaDoor
open Go.RowKit Go.ChangeShapes Go.WideShapes Go.ChangeAt

theorem ownK : ownKnob Tryd.prog.godebug = none := by kernel_rfl
theorem laidOutK : laidOutB Tryd.prog = true := by kernel_rfl
def laid0 : List (String × DataW Unit) := [("auspex/inst.codes", Rows.laid_auspex_inst_codes)]
theorem gCodes : Tryd.prog.globalNamed "auspex/inst.codes" = some 0 := by kernel_rfl
theorem tCodes : (Tryd.prog.globals[0]?).map (·.type) = some 85 := by kernel_rfl

theorem door_met (os : Os) (args : Array Value) : laidMetH Tryd.prog laid0 ((World.doorLaid Tryd.prog 400 os).forCall (fun _ _ => 0) ⟨#[], args, []⟩).memory :=
  laidMetH_of_parts3 (fuel := 8) (laidMet_of_run' 8 (by kernel_rfl) (by kernel_rfl)) (by kernel_rfl) (by kernel_rfl)

theorem codes_of_laid {W : World} (h : laidMetH Tryd.prog laid0 W) : Codes W := by
  rw [MakeChecks.laidMetH_plain _ _ _ (by kernel_rfl)] at h
  have h2 : laidMet Tryd.prog (("auspex/inst.codes", Lib.tabData .u32 (codesL.map Int.ofNat)) :: []) W := h
  have hT := Lib.tabIs_of_head gCodes tCodes Tryd.underlying85 Tryd.underlying25 (by kernel_rfl) (by kernel_rfl) h2
  intro k hk
  have := hT.cell gCodes k (by simpa [codesL] using hk)
  rw [this]
  have : ∀ k, k < 49 → (codesL.map Int.ofNat).getD k 0 = (code k : Int) := by decide
  rw [this k hk]
theorem u32_nat {n : Int} (h : (Lit.int .u32 n).wf = true) : ∃ m : Nat, n = m ∧ m < 4294967296 := by
  simp only [Lit.wf, IntKind.min, IntKind.max, IntKind.signed, IntKind.bits, Bool.and_eq_true, decide_eq_true_eq] at h
  simp at h
  exact ⟨n.toNat, by omega, by omega⟩
end Go.Proofs.YtahnhhbgkmlfcaaDoor
