
/- The contract of inst.read, form by form (printed by wip/bin/readgen.py). -/
import Derived.Test.YtckjihpdjefpgaaInst3
import Derived.Deep.DeepCutAuto
namespace Go.Proofs.Ytckjihpdjefpgaa
open Go.RowKit

structure SI where
  op : Int
  rd : Int
  rs1 : Int
  rs2 : Int
  imm : Nat

def SI.val (i : SI) : Value := .agg #[.int .i64 i.op, .int .i64 i.rd, .int .i64 i.rs1, .int .i64 i.rs2, .int .u32 i.imm]
def immOf (f x : Nat) : Nat :=
  if f = 3 then (gatherN x (partsOf f)).1 * 2 ^ lowOf f % 4294967296
  else if f = 1 ∨ f = 8 then 0
  else sext ((gatherN x (partsOf f)).1 * 2 ^ lowOf f % 4294967296) (sizes (partsOf f) + lowOf f)
def readN (op : Int) (x : Nat) : SI :=
  { op := op, rd := if hasRd (formOf op) then (field x 7 5 : Nat) else 0, rs1 := if hasRs1 (formOf op) then (field x 15 5 : Nat) else 0,
    rs2 := if hasRs2 (formOf op) then (field x 20 5 : Nat) else 0, imm := immOf (formOf op) x }

theorem cell_same' {w : World} {a : Addr} {v : Value} (h : (w.cell? a).isSome = true) : (w.setCell a v).cell? a = some v := by
  obtain ⟨u, hu⟩ := Option.isSome_iff_exists.1 h
  exact World.cell?_setCell_same _ _ _ hu
theorem below_set {B : Nat} {a w : World} {b k : Nat} {v : Value} (h : Below B a w) (hb : B ≤ b) : Below B a (w.setCell ⟨b, k, none⟩ v) := Below.setCell h hb v

theorem sext_none (w : World) : Calls Try.prog 71 #[.int .u32 0, .int .i64 0] w fun e w' => e = .returned (.int .u32 0) ∧ Below w.heap.size w w' := by
  go_enter Try.func71, Try.ntmps71
  go_wp2
  go_ret
  exact ⟨rfl, below_self _⟩

theorem gather_size (x f : Nat) : (gatherN x (partsOf f)).2 = sizes (partsOf f) ∧ (gatherN x (partsOf f)).1 < 4294967296 := by
  have := gather_inv x (partsOf f) (0, 0) (by show 0 < 4294967296; omega) (partsOf_ok f).1 (by have := (partsOf_ok f).2; show 0 + _ ≤ 32; omega)
  exact ⟨by have h := this.2; unfold gatherN; rw [h]; exact Nat.zero_add _, this.1⟩

theorem sext_lt (x n : Nat) (h2 : n ≤ 32) : sext x n < 4294967296 := by
  have hp := pow_le32 h2
  have := Nat.mod_lt x (Nat.two_pow_pos n)
  unfold sext
  split <;> omega

end Go.Proofs.Ytckjihpdjefpgaa
