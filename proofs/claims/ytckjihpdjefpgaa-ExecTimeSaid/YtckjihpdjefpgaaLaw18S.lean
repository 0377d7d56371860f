/- The law ExecTime, of an entry that is not started (printed by wip/bin/law18gen.py). -/
import Derived.Test.YtckjihpdjefpgaaLaw18
namespace Go.Proofs.Ytckjihpdjefpgaa
open Go.RowKit

set_option maxRecDepth 100000 in
set_option maxHeartbeats 16000000 in
theorem time_same (e0 : En) (a b : Nat) (w : World) (hi : e0.imm < 4294967296) (hp : e0.pc < 4294967296) (ha : a < 4294967296) (hb : b < 4294967296) (hsame : startP { e0 with is := 0, halt := 0 } a b = { e0 with is := 0, halt := 0 }) :
    Calls Try.prog 3 #[.agg #[.int .i64 e0.no, .int .u32 e0.pc, .int .i64 e0.op, .int .i64 e0.rd, .int .i64 e0.rs1, .int .i64 e0.rs2, .int .u32 e0.imm, .int .u32 e0.guess, .int .i64 e0.is, .int .i64 e0.left, .int .u32 e0.value, .int .u32 e0.next, .int .u32 e0.addr, .int .i64 e0.halt, .int .i64 e0.took, .bool e0.known, .bool e0.filled], .int .u32 a, .int .u32 b] w fun e w' => e = .returned (.bool true) ∧ Below w.heap.size w w' := by
  have cst := fun w => start_any { e0 with is := 0, halt := 0 } a b w hi hp ha hb
  rw [hsame] at cst
  have ckd := fun w => rKind_any e0.op w
  have hk7 := kind_seven e0.op
  have M0 : Mine (w.alloc (.cells e0.cells.toArray 26)) w.heap.size e0.cells := Mine.new w e0.cells.toArray _
  have hb0 := below_all (w := w) (.cells e0.cells.toArray 26)
  generalize hw1 : w.alloc (.cells e0.cells.toArray 26) = w1 at M0 hb0
  have HW := Lib.hid hw1
  clear hw1
  have hk := Lib.hid hk7
  clear hk7 hsame
  have c8 : w1.cell? ⟨w.heap.size, 8, none⟩ = some (.int .i64 e0.is) := M0.c 8 _ rfl
  have c13 : w1.cell? ⟨w.heap.size, 13, none⟩ = some (.int .i64 e0.halt) := M0.c 13 _ rfl
  have g8 := M0.g 8
  have g13 := M0.g 13
  go_enter Try.func3, Try.ntmps3
  go_upto_region 1 with (fail)
  have hw2 : w.alloc (.cells #[.int .i64 e0.no, .int .u32 e0.pc, .int .i64 e0.op, .int .i64 e0.rd, .int .i64 e0.rs1, .int .i64 e0.rs2, .int .u32 e0.imm, .int .u32 e0.guess, .int .i64 e0.is, .int .i64 e0.left, .int .u32 e0.value, .int .u32 e0.next, .int .u32 e0.addr, .int .i64 e0.halt, .int .i64 e0.took, .bool e0.known, .bool e0.filled] 26) = w1 := HW.out
  rw [hw2]
  clear hw2 HW
  go_upto_region 2 with (fail)
  have M2 : Mine ((w1.setCell ⟨w.heap.size, 8, none⟩ (.int .i64 0)).setCell ⟨w.heap.size, 13, none⟩ (.int .i64 0)) w.heap.size (En.cells { e0 with is := 0, halt := 0 }) := (M0.set 8 (.int .i64 0) (by show 8 < 17; omega)).set 13 (.int .i64 0) (by rw [List.length_set]; show 13 < 17; omega)
  have hb2 : Below w.heap.size w ((w1.setCell ⟨w.heap.size, 8, none⟩ (.int .i64 0)).setCell ⟨w.heap.size, 13, none⟩ (.int .i64 0)) := below_set (below_set hb0 (Nat.le_refl _)) (Nat.le_refl _)
  clear M0 hb0 c8 c13 g8 g13
  generalize (w1.setCell _ _).setCell _ _ = w2 at *
  refine wp_region_lit ?_
  refine wpList_load_mid rfl 26 (.tmp 3) rfl w.heap.size 0 rfl (En.cells { e0 with is := 0, halt := 0 }) _ (En.range M2) Try.underlying26 rfl (by kernel_rfl) ?_
  simp only [Act.put, List.setIfInBounds_toArray, List.set_cons_zero, List.set_cons_succ]
  have hcell1 : (En.cells { e0 with is := 0, halt := 0 }).toArray = #[.int .i64 e0.no, .int .u32 e0.pc, .int .i64 e0.op, .int .i64 e0.rd, .int .i64 e0.rs1, .int .i64 e0.rs2, .int .u32 e0.imm, .int .u32 e0.guess, .int .i64 0, .int .i64 e0.left, .int .u32 e0.value, .int .u32 e0.next, .int .u32 e0.addr, .int .i64 0, .int .i64 e0.took, .bool e0.known, .bool e0.filled] := rfl
  rw [hcell1]
  clear hcell1
  go_wp2_with fail
  refine (cst _).mono ?_; rintro e w3 ⟨rfl, B3⟩
  have M3 := M2.kept B3
  have hb3 := hb2.and B3
  clear M2 hb2 B3 cst
  go_upto_region 3 with (fail)
  have M4 := M3.alloc (.cells (En.cells { e0 with is := 0, halt := 0 }).toArray 26)
  have N4 : Mine (w3.alloc (.cells (En.cells { e0 with is := 0, halt := 0 }).toArray 26)) w3.heap.size (En.cells { e0 with is := 0, halt := 0 }) := Mine.new w3 (En.cells { e0 with is := 0, halt := 0 }).toArray _
  have hb4 := hb3.and (below_all (.cells (En.cells { e0 with is := 0, halt := 0 }).toArray 26))
  have hne : w.heap.size ≠ w3.heap.size := by have := M3.lt; omega
  have hle : w.heap.size ≤ w3.heap.size := by have := M3.lt; omega
  clear M3 hb3
  have hw4 : w3.alloc (.cells #[.int .i64 e0.no, .int .u32 e0.pc, .int .i64 e0.op, .int .i64 e0.rd, .int .i64 e0.rs1, .int .i64 e0.rs2, .int .u32 e0.imm, .int .u32 e0.guess, .int .i64 0, .int .i64 e0.left, .int .u32 e0.value, .int .u32 e0.next, .int .u32 e0.addr, .int .i64 0, .int .i64 e0.took, .bool e0.known, .bool e0.filled] 26) = w3.alloc (.cells (En.cells { e0 with is := 0, halt := 0 }).toArray 26) := rfl
  rw [hw4]
  generalize w3.alloc (.cells (En.cells { e0 with is := 0, halt := 0 }).toArray 26) = w4 at *
  generalize w3.heap.size = b7 at *
  clear hw4

  have d8 : w4.cell? ⟨b7, 8, none⟩ = some (.int .i64 0) := N4.c 8 _ rfl
  go_wp2_with fail
  refine (alive18 _).mono ?_; rintro e w5 ⟨rfl, B5⟩
  rename_i hK
  have M5 := M4.kept B5
  have N5 := N4.kept B5
  have hb5 := hb4.and B5
  clear M4 N4 hb4 B5 d8
  refine hK _ _ ?_
  clear hK
  (try simp only [Act.put, List.setIfInBounds_toArray, List.set_cons_zero, List.set_cons_succ])
  refine wpList_plain rfl (fun K hK => ?_)
  go_simp
  refine hK _ _ ?_
  clear hK
  (try simp only [Act.put, List.setIfInBounds_toArray, List.set_cons_zero, List.set_cons_succ])
  refine BigFrame.wpList_want (by rfl) (fun K hK => wp_load_mid 26 (.tmp 7) rfl b7 0 rfl (En.cells { e0 with is := 0, halt := 0 }) _ (En.range N5) Try.underlying26 rfl (by kernel_rfl) (hK _ _ ?_))
  (try simp only [Act.put, List.setIfInBounds_toArray, List.set_cons_zero, List.set_cons_succ])
  refine BigFrame.wpList_want (by rfl) (fun K hK => wp_load_mid 26 (.tmp 3) rfl w.heap.size 0 rfl (En.cells { e0 with is := 0, halt := 0 }) _ (En.range M5) Try.underlying26 rfl (by kernel_rfl) (hK _ _ ?_))
  (try simp only [Act.put, List.setIfInBounds_toArray, List.set_cons_zero, List.set_cons_succ])
  have hcellz : (En.cells { e0 with is := 0, halt := 0 }).toArray = #[.int .i64 e0.no, .int .u32 e0.pc, .int .i64 e0.op, .int .i64 e0.rd, .int .i64 e0.rs1, .int .i64 e0.rs2, .int .u32 e0.imm, .int .u32 e0.guess, .int .i64 0, .int .i64 e0.left, .int .u32 e0.value, .int .u32 e0.next, .int .u32 e0.addr, .int .i64 0, .int .i64 e0.took, .bool e0.known, .bool e0.filled] := rfl
  rw [hcellz]
  clear hcellz M5 N5
  go_wp2_with fail
  go_ret
  exact ⟨rfl, hb5⟩
end Go.Proofs.Ytckjihpdjefpgaa
