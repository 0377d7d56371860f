/- The law ExecTime, of an entry that goes (printed by wip/bin/law18gen.py). -/
import Derived.Test.YtckjihpdjefpgaaLaw18
namespace Go.Proofs.Ytckjihpdjefpgaa
open Go.RowKit

set_option maxRecDepth 100000 in
set_option maxHeartbeats 16000000 in
theorem time_runs (e0 : En) (a b : Nat) (w : World) (hi : e0.imm < 4294967296) (hp : e0.pc < 4294967296) (ha : a < 4294967296) (hb : b < 4294967296) (x : En) (hx : x = startP { e0 with is := 0, halt := 0 } a b) (L : Nat) (hL1 : 1 ≤ L) (hL2 : L ≤ 34) (hxis : x.is = 1) (hxleft : x.left = L) (hxop : x.op = e0.op) (hxhalt : x.halt = 0 ∨ x.halt = 3) (hLm : kindOf e0.op = 1 → L = 3) (hLd : kindOf e0.op = 2 → x.took = L) (hLp : kindOf e0.op ≠ 1 → kindOf e0.op ≠ 2 → L = 1) :
    Calls Try.prog 3 #[.agg #[.int .i64 e0.no, .int .u32 e0.pc, .int .i64 e0.op, .int .i64 e0.rd, .int .i64 e0.rs1, .int .i64 e0.rs2, .int .u32 e0.imm, .int .u32 e0.guess, .int .i64 e0.is, .int .i64 e0.left, .int .u32 e0.value, .int .u32 e0.next, .int .u32 e0.addr, .int .i64 e0.halt, .int .i64 e0.took, .bool e0.known, .bool e0.filled], .int .u32 a, .int .u32 b] w fun e w' => e = .returned (.bool true) ∧ Below w.heap.size w w' := by
  have cst := fun w => start_any { e0 with is := 0, halt := 0 } a b w hi hp ha hb
  rw [← hx] at cst
  clear hx
  have HX := Lib.hid (show x.is = 1 ∧ x.op = e0.op ∧ (x.halt = 0 ∨ x.halt = 3) ∧ (kindOf e0.op = 1 → L = 3) ∧ (kindOf e0.op = 2 → x.took = L) ∧ (kindOf e0.op ≠ 1 → kindOf e0.op ≠ 2 → L = 1) from ⟨hxis, hxop, hxhalt, hLm, hLd, hLp⟩)
  have hag0 : agedP x L 0 = x := by
    unfold agedP
    rw [if_pos (show 0 < L by omega)]
    obtain ⟨⟩ := x
    dsimp only at hxleft
    subst hxleft
    simp
  have hstep := Lib.hid (fun (k : Nat) (hk : k < L) => go_aged x L k hxis hk (by omega))
  have hL0 := Lib.hid hag0
  clear hag0 hxis hxleft hxop hxhalt hLm hLd hLp
  have ckd := fun w => rKind_any e0.op w
  have hk7 := kind_seven e0.op
  have M0 : Mine (w.alloc (.cells e0.cells.toArray 26)) w.heap.size e0.cells := Mine.new w e0.cells.toArray _
  have hb0 := below_all (w := w) (.cells e0.cells.toArray 26)
  generalize hw1 : w.alloc (.cells e0.cells.toArray 26) = w1 at M0 hb0
  have HW := Lib.hid hw1
  clear hw1
  have hk := Lib.hid hk7
  clear hk7
  have c8 : w1.cell? ⟨w.heap.size, 8, none⟩ = some (.int .i64 e0.is) := M0.c 8 _ rfl
  have c13 : w1.cell? ⟨w.heap.size, 13, none⟩ = some (.int .i64 e0.halt) := M0.c 13 _ rfl
  have g8 := M0.g 8
  have g13 := M0.g 13
  go_enter Try.func3, Try.ntmps3
  go_upto_region 1 with (fail)
  have hw2 : w.alloc (.cells #[.int .i64 e0.no, .int .u32 e0.pc, .int .i64 e0.op, .int .i64 e0.rd, .int .i64 e0.rs1, .int .i64 e0.rs2, .int .u32 e0.imm, .int .u32 e0.guess, .int .i64 e0.is, .int .i64 e0.left, .int .u32 e0.value, .int .u32 e0.next, .int .u32 e0.addr, .int .i64 e0.halt, .int .i64 e0.took, .bool e0.known, .bool e0.filled] 26) = w1 := HW.out
  rw [hw2]
  clear hw2 HW
  go_upto_region 2 with (fail)
  have M2 : Mine ((w1.setCell ⟨w.heap.size, 8, none⟩ (.int .i64 0)).setCell ⟨w.heap.size, 13, none⟩ (.int .i64 0)) w.heap.size (En.cells { e0 with is := 0, halt := 0 }) := (M0.set 8 (.int .i64 0) (by show 8 < 17; omega)).set 13 (.int .i64 0) (by rw [List.length_set]; show 13 < 17; omega)
  have hb2 : Below w.heap.size w ((w1.setCell ⟨w.heap.size, 8, none⟩ (.int .i64 0)).setCell ⟨w.heap.size, 13, none⟩ (.int .i64 0)) := below_set (below_set hb0 (Nat.le_refl _)) (Nat.le_refl _)
  clear M0 hb0 c8 c13 g8 g13
  generalize (w1.setCell _ _).setCell _ _ = w2 at *
  refine wp_region_lit ?_
  refine wpList_load_mid rfl 26 (.tmp 3) rfl w.heap.size 0 rfl (En.cells { e0 with is := 0, halt := 0 }) _ (En.range M2) Try.underlying26 rfl (by kernel_rfl) ?_
  simp only [Act.put, List.setIfInBounds_toArray, List.set_cons_zero, List.set_cons_succ]
  have hcell1 : (En.cells { e0 with is := 0, halt := 0 }).toArray = #[.int .i64 e0.no, .int .u32 e0.pc, .int .i64 e0.op, .int .i64 e0.rd, .int .i64 e0.rs1, .int .i64 e0.rs2, .int .u32 e0.imm, .int .u32 e0.guess, .int .i64 0, .int .i64 e0.left, .int .u32 e0.value, .int .u32 e0.next, .int .u32 e0.addr, .int .i64 0, .int .i64 e0.took, .bool e0.known, .bool e0.filled] := rfl
  rw [hcell1]
  clear hcell1
  go_wp2_with fail
  refine (cst _).mono ?_; rintro e w3 ⟨rfl, B3⟩
  have M3 := M2.kept B3
  have hb3 := hb2.and B3
  clear M2 hb2 B3 cst
  go_upto_region 3 with (fail)
  have M4 := M3.alloc (.cells x.cells.toArray 26)
  have N4 : Mine (w3.alloc (.cells x.cells.toArray 26)) w3.heap.size x.cells := Mine.new w3 x.cells.toArray _
  have hb4 := hb3.and (below_all (.cells x.cells.toArray 26))
  have hne : w.heap.size ≠ w3.heap.size := by have := M3.lt; omega
  have hle : w.heap.size ≤ w3.heap.size := by have := M3.lt; omega
  clear M3 hb3
  have hw4 : w3.alloc (.cells #[.int .i64 x.no, .int .u32 x.pc, .int .i64 x.op, .int .i64 x.rd, .int .i64 x.rs1, .int .i64 x.rs2, .int .u32 x.imm, .int .u32 x.guess, .int .i64 x.is, .int .i64 x.left, .int .u32 x.value, .int .u32 x.next, .int .u32 x.addr, .int .i64 x.halt, .int .i64 x.took, .bool x.known, .bool x.filled] 26) = w3.alloc (.cells x.cells.toArray 26) := rfl
  rw [hw4]
  generalize w3.alloc (.cells x.cells.toArray 26) = w4 at *
  generalize w3.heap.size = b7 at *
  clear hw4
  have d8 : w4.cell? ⟨b7, 8, none⟩ = some (.int .i64 1) := (N4.c 8 _ rfl).trans (by rw [HX.out.1])
  go_upto_region 5 with (fail)
  clear d8
  go_wp2_with fail
  go_loopw [8] (fun n wr => ∃ k : Nat, n = .int .i64 k ∧ k ≤ L ∧ Mine wr b7 (agedP x L k).cells ∧ Mine wr w.heap.size (En.cells { e0 with is := 0, halt := 0 }) ∧ Below w.heap.size w wr) (fun n _ => L - (intOf n).toNat)
  case atStart => exact ⟨0, rfl, Nat.zero_le _, by rw [hL0.out]; exact N4, M4, hb4⟩
  case round =>
    obtain ⟨k, rfl, hkL, N, M, hbr⟩ := hrel
    clear N4 M4 hb4
    by_cases hk : k < L
    · have hnext := Lib.hid (hstep.out k hk)
      have hyis : Hid ((agedP x L k).is = 1) := by show _ = _; unfold agedP; rw [if_pos hk]; exact HX.out.1
      have hk50 : (k : Int) < 50 := by omega
      generalize agedP x L k = y at *
      have d8 : wr.cell? ⟨b7, 8, none⟩ = some (.int .i64 1) := (N.c 8 _ rfl).trans (by rw [hyis.out])
      go_upto_region 7 with (fail)
      clear d8
      refine wp_region_lit ?_
      refine wpList_load_mid rfl 26 (.tmp 7) rfl b7 0 rfl y.cells _ (En.range N) Try.underlying26 rfl (by kernel_rfl) ?_
      simp only [Act.put, List.setIfInBounds_toArray, List.set_cons_zero, List.set_cons_succ]
      have hcells : y.cells.toArray = #[.int .i64 y.no, .int .u32 y.pc, .int .i64 y.op, .int .i64 y.rd, .int .i64 y.rs1, .int .i64 y.rs2, .int .u32 y.imm, .int .u32 y.guess, .int .i64 y.is, .int .i64 y.left, .int .u32 y.value, .int .u32 y.next, .int .u32 y.addr, .int .i64 y.halt, .int .i64 y.took, .bool y.known, .bool y.filled] := rfl
      rw [hcells]
      go_wp2_with fail
      refine (go_any y _).mono ?_; rintro e w6 ⟨rfl, B6⟩
      rename_i hK
      rw [hnext.out]
      have N6 := N.kept B6
      have M6 := M.kept B6
      have hb6 := hbr.and B6
      clear N M hbr B6 hyis hcells
      refine hK _ _ ?_
      clear hK
      refine wpList_store_mid rfl 26 (.tmp 7) (.tmp 33) rfl b7 0 (agedP x L (k + 1)).cells.toArray rfl rfl (En.there N6 rfl) (by kernel_rfl) (en_one _) ?_
      have N7 := N6.setCells (agedP x L (k + 1)).cells rfl
      have M7 := M6.setCells_other (b' := b7) (agedP x L (k + 1)).cells hne
      have hb7 := setCells_below b7 (agedP x L (k + 1)).cells 0 w6 hb6 hle
      clear N6 M6 hb6 hnext
      have hcl : (agedP x L (k + 1)).cells.toArray.toList = (agedP x L (k + 1)).cells := rfl
      rw [hcl]
      clear hcl
      generalize w6.setCells b7 0 _ = w7 at *
      simp only [Act.put, List.setIfInBounds_toArray, List.set_cons_zero, List.set_cons_succ]
      go_wp2_with fail
      go_roundw
      case rel => exact ⟨k + 1, by go_num, by omega, N7, M7, hb7⟩
      case measure => simp [intOf]; omega
    · have hkL2 : k = L := by omega
      have hy : agedP x L k = { x with left := 0, is := 3, known := if kindOf x.op = 5 ∧ x.halt = 0 then true else x.known } := by unfold agedP; rw [if_neg hk]
      rw [hy] at N
      clear hy
      generalize (if kindOf x.op = 5 ∧ x.halt = 0 then true else x.known) = kn at *
      have d8 : wr.cell? ⟨b7, 8, none⟩ = some (.int .i64 3) := N.c 8 _ rfl
      have d14 : wr.cell? ⟨b7, 14, none⟩ = some (.int .i64 x.took) := N.c 14 _ rfl
      have c2 : wr.cell? ⟨w.heap.size, 2, none⟩ = some (.int .i64 e0.op) := M.c 2 _ rfl
      have hkc : (kindOf e0.op = 1 ∧ k = 3) ∨ (kindOf e0.op = 2 ∧ x.took = k) ∨ (kindOf e0.op ≠ 1 ∧ kindOf e0.op ≠ 2 ∧ k = 1) := by
        obtain ⟨-, -, -, q1, q2, q3⟩ := HX.out
        by_cases h1 : kindOf e0.op = 1
        · exact .inl ⟨h1, by have := q1 h1; omega⟩
        · by_cases h2 : kindOf e0.op = 2
          · exact .inr (.inl ⟨h2, by have := q2 h2; omega⟩)
          · exact .inr (.inr ⟨h1, h2, by have := q3 h1 h2; omega⟩)
      have HH := Lib.hid (show x.halt = 0 ∨ x.halt = 3 from HX.out.2.2.1)
      clear HX hstep hL0 hk hkL hkL2
      generalize kindOf e0.op = kd at *
      rcases hkc with ⟨rfl, rfl⟩ | ⟨rfl, htk⟩ | ⟨n1, n2, rfl⟩
      case' inr.inl => rw [htk] at d14
      case' inr.inr =>
        have m1 : ((kd : Int) == 1) = false := by simp; omega
        have m2 : ((kd : Int) == 2) = false := by simp; omega
        clear n1 n2
      all_goals
        go_wp2_with fail
        refine (ckd _).mono ?_; rintro e w8 ⟨rfl, rfl⟩
        go_wp2_with fail
        refine (alive18 _).mono ?_; rintro e w9 ⟨rfl, B9⟩
        have hb9 := hbr.and B9
        have f8 : w9.cell? ⟨b7, 8, none⟩ = some (.int .i64 3) := (N.kept B9).c 8 _ rfl
        have f9 : w9.cell? ⟨b7, 9, none⟩ = some (.int .i64 0) := (N.kept B9).c 9 _ rfl
        have f13 : w9.cell? ⟨b7, 13, none⟩ = some (.int .i64 x.halt) := (N.kept B9).c 13 _ rfl
        clear N M hbr B9 d8 d14 c2
        rcases HH.out with hh | hh
        all_goals
          rw [hh] at f13
          clear hh HH
          go_wp2_with fail
          go_ret
          exact ⟨rfl, hb9⟩
end Go.Proofs.Ytckjihpdjefpgaa
