/- The contract of inst.read, form by form (printed by wip/bin/readgen.py). -/
import Derived.Test.YtahnhhbgkmlfcaaDoorInst3
import Derived.Deep.DeepCutAuto
namespace Go.Proofs.YtahnhhbgkmlfcaaDoor
open Go.RowKit

structure SI where
  op : Int
  rd : Int
  rs1 : Int
  rs2 : Int
  imm : Nat

def SI.val (i : SI) : Value := .agg #[.int .i64 i.op, .int .i64 i.rd, .int .i64 i.rs1, .int .i64 i.rs2, .int .u32 i.imm]
def immOf (f x : Nat) : Nat :=
  if f = 3 then (gatherN x (partsOf f)).1 * 2 ^ lowOf f % 4294967296
  else if f = 1 ∨ f = 8 then 0
  else sext ((gatherN x (partsOf f)).1 * 2 ^ lowOf f % 4294967296) (sizes (partsOf f) + lowOf f)
def readN (op : Int) (x : Nat) : SI :=
  { op := op, rd := if hasRd (formOf op) then (field x 7 5 : Nat) else 0, rs1 := if hasRs1 (formOf op) then (field x 15 5 : Nat) else 0,
    rs2 := if hasRs2 (formOf op) then (field x 20 5 : Nat) else 0, imm := immOf (formOf op) x }

theorem cell_same' {w : World} {a : Addr} {v : Value} (h : (w.cell? a).isSome = true) : (w.setCell a v).cell? a = some v := by
  obtain ⟨u, hu⟩ := Option.isSome_iff_exists.1 h
  exact World.cell?_setCell_same _ _ _ hu
theorem below_set {B : Nat} {a w : World} {b k : Nat} {v : Value} (h : Below B a w) (hb : B ≤ b) : Below B a (w.setCell ⟨b, k, none⟩ v) := Below.setCell h hb v

theorem sext_none (w : World) : Calls Tryd.prog 81 #[.int .u32 0, .int .i64 0] w fun e w' => e = .returned (.int .u32 0) ∧ Below w.heap.size w w' := by
  go_enter Tryd.func81, Tryd.ntmps81
  go_wp2
  go_ret
  exact ⟨rfl, below_self _⟩

theorem gather_size (x f : Nat) : (gatherN x (partsOf f)).2 = sizes (partsOf f) ∧ (gatherN x (partsOf f)).1 < 4294967296 := by
  have := gather_inv x (partsOf f) (0, 0) (by show 0 < 4294967296; omega) (partsOf_ok f).1 (by have := (partsOf_ok f).2; show 0 + _ ≤ 32; omega)
  exact ⟨by have h := this.2; unfold gatherN; rw [h]; exact Nat.zero_add _, this.1⟩

theorem sext_lt (x n : Nat) (h2 : n ≤ 32) : sext x n < 4294967296 := by
  have hp := pow_le32 h2
  have := Nat.mod_lt x (Nat.two_pow_pos n)
  unfold sext
  split <;> omega

set_option maxRecDepth 100000 in
set_option maxHeartbeats 4000000 in
theorem read_1 (op : Int) (x : Nat) (w : World) (hf : formOf op = 1) (hx : x < 4294967296) : Calls Tryd.prog 52 #[.int .i64 op, .int .u32 x] w fun e w' => e = .returned (readN op x).val ∧ Below w.heap.size w w' := by
  obtain ⟨r, hr⟩ : ∃ r, r = readN op x := ⟨_, rfl⟩
  have HR := Lib.hid hr
  rw [← hr]
  clear hr
  have cform : ∀ w, Calls Tryd.prog 51 #[.int .i64 op] w fun e w' => e = .returned (.int .i64 1) ∧ w = w' := fun w => by
    have := form_any op w
    rw [hf] at this
    exact this
  have chas : ∀ w, Calls Tryd.prog 77 #[.int .i64 1] w fun e w' => e = .returned (.tuple #[.bool true, .bool true, .bool true]) ∧ w = w' := fun w => has_any 1 (by omega) w
  have cnum : ∀ w, Calls Tryd.prog 79 #[.int .i64 1] w fun e w' => ∃ v, e = .returned (.tuple #[v, .int .i64 0]) ∧ Sl 0 119 2 w' v 0 ((partsOf 1).flatMap spanCells) ∧ Below w.heap.size w w' := fun w => number_any 1 (by omega) w
  obtain ⟨V, hV⟩ : ∃ V, V = (gatherN x (partsOf 1)).1 := ⟨_, rfl⟩
  have HV := Lib.hid hV
  have hVl : V < 4294967296 := hV ▸ (gather_size x 1).2
  have cgat : ∀ (v : Value) (w : World), Sl 0 119 2 w v 0 ((partsOf 1).flatMap spanCells) → Calls Tryd.prog 80 #[.int .u32 x, v] w fun e w' => e = .returned (.tuple #[.int .u32 V, .int .i64 0]) ∧ Below w.heap.size w w' := fun v w hv => by
    have := gather_any x (partsOf 1) 0 0 v w hv rfl (partsOf_ok 1) (by omega) hx
    rw [(gather_size x 1).1, ← HV.out] at this
    exact this
  clear hV
  obtain ⟨F7, hF7⟩ : ∃ F, F = field x 7 5 := ⟨_, rfl⟩
  have HF7 := Lib.hid hF7
  have l7 : F7 < 32 := hF7 ▸ field_lt x 7 5
  have cf7 : ∀ w, Calls Tryd.prog 78 #[.int .u32 x, .int .i64 7, .int .i64 5] w fun e w' => e = .returned (.int .u32 F7) ∧ ∃ m, w' = w.drewN m := fun w => by
    have := field_q x 7 5 w (by omega) (by omega) hx
    rw [← HF7.out] at this
    exact this
  clear hF7
  obtain ⟨F15, hF15⟩ : ∃ F, F = field x 15 5 := ⟨_, rfl⟩
  have HF15 := Lib.hid hF15
  have l15 : F15 < 32 := hF15 ▸ field_lt x 15 5
  have cf15 : ∀ w, Calls Tryd.prog 78 #[.int .u32 x, .int .i64 15, .int .i64 5] w fun e w' => e = .returned (.int .u32 F15) ∧ ∃ m, w' = w.drewN m := fun w => by
    have := field_q x 15 5 w (by omega) (by omega) hx
    rw [← HF15.out] at this
    exact this
  clear hF15
  obtain ⟨F20, hF20⟩ : ∃ F, F = field x 20 5 := ⟨_, rfl⟩
  have HF20 := Lib.hid hF20
  have l20 : F20 < 32 := hF20 ▸ field_lt x 20 5
  have cf20 : ∀ w, Calls Tryd.prog 78 #[.int .u32 x, .int .i64 20, .int .i64 5] w fun e w' => e = .returned (.int .u32 F20) ∧ ∃ m, w' = w.drewN m := fun w => by
    have := field_q x 20 5 w (by omega) (by omega) hx
    rw [← HF20.out] at this
    exact this
  clear hF20
  obtain ⟨X, hX⟩ : ∃ X, X = (0 : Nat) := ⟨_, rfl⟩
  have HX := Lib.hid hX
  have csx : ∀ w, Calls Tryd.prog 81 #[.int .u32 (V : Int), .int .i64 0] w fun e w' => e = .returned (.int .u32 X) ∧ Below w.heap.size w w' := fun w => by
    rw [hX, show V = 0 from HV.out]
    exact sext_none w
  clear hX
  go_enter Tryd.func52, Tryd.ntmps52
  go_wp2_with fail
  refine (cform _).mono ?_; rintro e w1 ⟨rfl, rfl⟩
  go_wp2_with fail
  refine (chas _).mono ?_; rintro e w1 ⟨rfl, rfl⟩
  go_wp2_with fail
  refine (cf7 _).mono ?_; rintro e w1 ⟨rfl, m7, rfl⟩
  go_wp2_with fail
  refine (cf15 _).mono ?_; rintro e w1 ⟨rfl, m15, rfl⟩
  go_wp2_with fail
  refine (cf20 _).mono ?_; rintro e w1 ⟨rfl, m20, rfl⟩
  go_wp2_with fail
  refine (cnum _).mono ?_; rintro e w2 ⟨v, rfl, hv, B2⟩
  go_wp2_with fail
  refine (cgat v _ hv).mono ?_; rintro e w3 ⟨rfl, B3⟩
  have hs2 := B2.size
  have hs3 := B3.size
  have BB := B2.and B3
  have hb3 : Below w.heap.size w w3 := by
    refine Below.trans ?_ (BB.mono (by simp; omega))
    repeat' (first | exact Below.refl _ _ | refine below_drewN' ?_ _ | refine below_set ?_ (Nat.le_succ _) | refine Below.alloc ?_ (by first | exact Nat.le_refl _ | (simp; done) | (simp; omega)) _)
  have hbig : w.heap.size + 2 ≤ w3.heap.size := by have := BB.size; simp at this; omega
  have q0 := BB.cell (p := ⟨w.heap.size + 1, 0, none⟩) (by simp)
  have q1 := BB.cell (p := ⟨w.heap.size + 1, 1, none⟩) (by simp)
  have q2 := BB.cell (p := ⟨w.heap.size + 1, 2, none⟩) (by simp)
  have q3 := BB.cell (p := ⟨w.heap.size + 1, 3, none⟩) (by simp)
  have q4 := BB.cell (p := ⟨w.heap.size + 1, 4, none⟩) (by simp)
  have z4 := BB.frozen (p := ⟨w.heap.size + 1, 4, none⟩) (by simp)
  have y0 := BB.frozen (p := ⟨w.heap.size, 0, none⟩) (by simp; omega)
  have y1 := BB.frozen (p := ⟨w.heap.size, 1, none⟩) (by simp; omega)
  have y2 := BB.frozen (p := ⟨w.heap.size, 2, none⟩) (by simp; omega)
  have y3 := BB.frozen (p := ⟨w.heap.size, 3, none⟩) (by simp; omega)
  have y4 := BB.frozen (p := ⟨w.heap.size, 4, none⟩) (by simp; omega)
  have p0 := BB.cell (p := ⟨w.heap.size, 0, none⟩) (by simp; omega)
  have p1 := BB.cell (p := ⟨w.heap.size, 1, none⟩) (by simp; omega)
  have p2 := BB.cell (p := ⟨w.heap.size, 2, none⟩) (by simp; omega)
  have p3 := BB.cell (p := ⟨w.heap.size, 3, none⟩) (by simp; omega)
  have p4 := BB.cell (p := ⟨w.heap.size, 4, none⟩) (by simp; omega)
  simp [go_sem] at q0 q1 q2 q3 q4 z4 y0 y1 y2 y3 y4 p0 p1 p2 p3 p4
  go_wp2_with fail
  refine (csx _).mono ?_; rintro e w4 ⟨rfl, B4⟩
  have hs4 := B4.size
  have r0 := B4.cell (p := ⟨w.heap.size + 1, 0, none⟩) (by simp [World.setCell]; omega)
  have r1 := B4.cell (p := ⟨w.heap.size + 1, 1, none⟩) (by simp [World.setCell]; omega)
  have r2 := B4.cell (p := ⟨w.heap.size + 1, 2, none⟩) (by simp [World.setCell]; omega)
  have r3 := B4.cell (p := ⟨w.heap.size + 1, 3, none⟩) (by simp [World.setCell]; omega)
  have r4 := B4.cell (p := ⟨w.heap.size + 1, 4, none⟩) (by simp [World.setCell]; omega)
  have x4 := B4.frozen (p := ⟨w.heap.size + 1, 4, none⟩) (by simp [World.setCell]; omega)
  have t0 := B4.frozen (p := ⟨w.heap.size, 0, none⟩) (by simp [World.setCell]; omega)
  have t1 := B4.frozen (p := ⟨w.heap.size, 1, none⟩) (by simp [World.setCell]; omega)
  have t2 := B4.frozen (p := ⟨w.heap.size, 2, none⟩) (by simp [World.setCell]; omega)
  have t3 := B4.frozen (p := ⟨w.heap.size, 3, none⟩) (by simp [World.setCell]; omega)
  have t4 := B4.frozen (p := ⟨w.heap.size, 4, none⟩) (by simp [World.setCell]; omega)
  have s0 := B4.cell (p := ⟨w.heap.size, 0, none⟩) (by simp [World.setCell]; omega)
  have s1 := B4.cell (p := ⟨w.heap.size, 1, none⟩) (by simp [World.setCell]; omega)
  have s2 := B4.cell (p := ⟨w.heap.size, 2, none⟩) (by simp [World.setCell]; omega)
  have s3 := B4.cell (p := ⟨w.heap.size, 3, none⟩) (by simp [World.setCell]; omega)
  have s4 := B4.cell (p := ⟨w.heap.size, 4, none⟩) (by simp [World.setCell]; omega)
  simp [go_sem, q0, q1, q2, q3, q4, z4, y0, y1, y2, y3, y4, p0, p1, p2, p3, p4] at r0 r1 r2 r3 r4 x4 t0 t1 t2 t3 t4 s0 s1 s2 s3 s4
  have hb4 : Below w.heap.size w w4 := (Below.setCell hb3 (by show w.heap.size ≤ w.heap.size + 1; omega) _).trans (B4.mono (by simp [World.setCell]; omega))
  clear hb3 B4 B3 B2 BB
  go_upto_region 15 with (fail)
  generalize hwz : World.setCell w4 _ _ = wz
  have hbz : Below w.heap.size w wz := hwz ▸ below_set hb4 (Nat.le_succ _)
  have c0 := (World.cell?_setCell_other w4 ⟨w.heap.size + 1, 4, none⟩ ⟨w.heap.size + 1, 0, none⟩ (.int .u32 X) (by simp)).trans r0
  rw [hwz] at c0
  have c1 := (World.cell?_setCell_other w4 ⟨w.heap.size + 1, 4, none⟩ ⟨w.heap.size + 1, 1, none⟩ (.int .u32 X) (by simp)).trans r1
  rw [hwz] at c1
  have c2 := (World.cell?_setCell_other w4 ⟨w.heap.size + 1, 4, none⟩ ⟨w.heap.size + 1, 2, none⟩ (.int .u32 X) (by simp)).trans r2
  rw [hwz] at c2
  have c3 := (World.cell?_setCell_other w4 ⟨w.heap.size + 1, 4, none⟩ ⟨w.heap.size + 1, 3, none⟩ (.int .u32 X) (by simp)).trans r3
  rw [hwz] at c3
  have c4 : wz.cell? ⟨w.heap.size + 1, 4, none⟩ = some (.int .u32 X) := by rw [← hwz]; exact World.cell?_setCell_same _ _ _ r4
  have d0 := (World.cell?_setCell_other w4 ⟨w.heap.size + 1, 4, none⟩ ⟨w.heap.size, 0, none⟩ (.int .u32 X) (by simp)).trans s0
  rw [hwz] at d0
  have d1 := (World.cell?_setCell_other w4 ⟨w.heap.size + 1, 4, none⟩ ⟨w.heap.size, 1, none⟩ (.int .u32 X) (by simp)).trans s1
  rw [hwz] at d1
  have d2 := (World.cell?_setCell_other w4 ⟨w.heap.size + 1, 4, none⟩ ⟨w.heap.size, 2, none⟩ (.int .u32 X) (by simp)).trans s2
  rw [hwz] at d2
  have d3 := (World.cell?_setCell_other w4 ⟨w.heap.size + 1, 4, none⟩ ⟨w.heap.size, 3, none⟩ (.int .u32 X) (by simp)).trans s3
  rw [hwz] at d3
  have d4 := (World.cell?_setCell_other w4 ⟨w.heap.size + 1, 4, none⟩ ⟨w.heap.size, 4, none⟩ (.int .u32 X) (by simp)).trans s4
  rw [hwz] at d4
  have f0 : wz.frozen? ⟨w.heap.size, 0, none⟩ = false := by rw [← hwz]; simpa [go_sem] using t0
  have f1 : wz.frozen? ⟨w.heap.size, 1, none⟩ = false := by rw [← hwz]; simpa [go_sem] using t1
  have f2 : wz.frozen? ⟨w.heap.size, 2, none⟩ = false := by rw [← hwz]; simpa [go_sem] using t2
  have f3 : wz.frozen? ⟨w.heap.size, 3, none⟩ = false := by rw [← hwz]; simpa [go_sem] using t3
  have f4 : wz.frozen? ⟨w.heap.size, 4, none⟩ = false := by rw [← hwz]; simpa [go_sem] using t4
  clear hb4 hwz r0 r1 r2 r3 r4 x4 t0 t1 t2 t3 t4 s0 s1 s2 s3 s4 q0 q1 q2 q3 q4 z4 y0 y1 y2 y3 y4 p0 p1 p2 p3 p4
  go_wp2_with fail
  refine bodyPost_ret (v := .agg #[.int .i64 op, .int .i64 F7, .int .i64 F15, .int .i64 F20, .int .u32 X]) (by simp [results, Tryd.results52, go_sem, cell_same', d0, d1, d2, d3, d4]; done) rfl ?_
  refine ⟨?_, ?_⟩
  · rw [HR.out]
    simp [SI.val, readN, immOf, hf, hasRd, hasRs1, hasRs2, HF7.out, HF15.out, HF20.out, HX.out, HV.out, lowOf, partsOf, sizes]
  · repeat' (first | exact hbz | refine below_set ?_ (Nat.le_succ _) | refine below_set ?_ (Nat.le_refl _))

set_option maxRecDepth 100000 in
set_option maxHeartbeats 4000000 in
theorem read_2 (op : Int) (x : Nat) (w : World) (hf : formOf op = 2) (hx : x < 4294967296) : Calls Tryd.prog 52 #[.int .i64 op, .int .u32 x] w fun e w' => e = .returned (readN op x).val ∧ Below w.heap.size w w' := by
  obtain ⟨r, hr⟩ : ∃ r, r = readN op x := ⟨_, rfl⟩
  have HR := Lib.hid hr
  rw [← hr]
  clear hr
  have cform : ∀ w, Calls Tryd.prog 51 #[.int .i64 op] w fun e w' => e = .returned (.int .i64 2) ∧ w = w' := fun w => by
    have := form_any op w
    rw [hf] at this
    exact this
  have chas : ∀ w, Calls Tryd.prog 77 #[.int .i64 2] w fun e w' => e = .returned (.tuple #[.bool true, .bool true, .bool false]) ∧ w = w' := fun w => has_any 2 (by omega) w
  have cnum : ∀ w, Calls Tryd.prog 79 #[.int .i64 2] w fun e w' => ∃ v, e = .returned (.tuple #[v, .int .i64 0]) ∧ Sl 0 119 2 w' v 1 ((partsOf 2).flatMap spanCells) ∧ Below w.heap.size w w' := fun w => number_any 2 (by omega) w
  obtain ⟨V, hV⟩ : ∃ V, V = (gatherN x (partsOf 2)).1 := ⟨_, rfl⟩
  have HV := Lib.hid hV
  have hVl : V < 4294967296 := hV ▸ (gather_size x 2).2
  have cgat : ∀ (v : Value) (w : World), Sl 0 119 2 w v 1 ((partsOf 2).flatMap spanCells) → Calls Tryd.prog 80 #[.int .u32 x, v] w fun e w' => e = .returned (.tuple #[.int .u32 V, .int .i64 12]) ∧ Below w.heap.size w w' := fun v w hv => by
    have := gather_any x (partsOf 2) 0 1 v w hv rfl (partsOf_ok 2) (by omega) hx
    rw [(gather_size x 2).1, ← HV.out] at this
    exact this
  clear hV
  obtain ⟨F7, hF7⟩ : ∃ F, F = field x 7 5 := ⟨_, rfl⟩
  have HF7 := Lib.hid hF7
  have l7 : F7 < 32 := hF7 ▸ field_lt x 7 5
  have cf7 : ∀ w, Calls Tryd.prog 78 #[.int .u32 x, .int .i64 7, .int .i64 5] w fun e w' => e = .returned (.int .u32 F7) ∧ ∃ m, w' = w.drewN m := fun w => by
    have := field_q x 7 5 w (by omega) (by omega) hx
    rw [← HF7.out] at this
    exact this
  clear hF7
  obtain ⟨F15, hF15⟩ : ∃ F, F = field x 15 5 := ⟨_, rfl⟩
  have HF15 := Lib.hid hF15
  have l15 : F15 < 32 := hF15 ▸ field_lt x 15 5
  have cf15 : ∀ w, Calls Tryd.prog 78 #[.int .u32 x, .int .i64 15, .int .i64 5] w fun e w' => e = .returned (.int .u32 F15) ∧ ∃ m, w' = w.drewN m := fun w => by
    have := field_q x 15 5 w (by omega) (by omega) hx
    rw [← HF15.out] at this
    exact this
  clear hF15
  have hvl : (V : Int) = ((V * 2 ^ 0 % 4294967296 : Nat) : Int) := by omega
  obtain ⟨X, hX⟩ : ∃ X, X = sext (V * 2 ^ 0 % 4294967296) 12 := ⟨_, rfl⟩
  have HX := Lib.hid hX
  have lX : X < 4294967296 := hX ▸ sext_lt _ 12 (by omega)
  have csx : ∀ w, Calls Tryd.prog 81 #[.int .u32 (V : Int), .int .i64 12] w fun e w' => e = .returned (.int .u32 X) ∧ Below w.heap.size w w' := fun w => by
    have := sext_any (V * 2 ^ 0 % 4294967296) 12 w (by omega) (by omega) (by omega)
    rw [← HX.out, ← hvl] at this
    exact this
  clear hvl hX
  go_enter Tryd.func52, Tryd.ntmps52
  go_wp2_with fail
  refine (cform _).mono ?_; rintro e w1 ⟨rfl, rfl⟩
  go_wp2_with fail
  refine (chas _).mono ?_; rintro e w1 ⟨rfl, rfl⟩
  go_wp2_with fail
  refine (cf7 _).mono ?_; rintro e w1 ⟨rfl, m7, rfl⟩
  go_wp2_with fail
  refine (cf15 _).mono ?_; rintro e w1 ⟨rfl, m15, rfl⟩
  go_wp2_with fail
  refine (cnum _).mono ?_; rintro e w2 ⟨v, rfl, hv, B2⟩
  go_wp2_with fail
  refine (cgat v _ hv).mono ?_; rintro e w3 ⟨rfl, B3⟩
  have hs2 := B2.size
  have hs3 := B3.size
  have BB := B2.and B3
  have hb3 : Below w.heap.size w w3 := by
    refine Below.trans ?_ (BB.mono (by simp; omega))
    repeat' (first | exact Below.refl _ _ | refine below_drewN' ?_ _ | refine below_set ?_ (Nat.le_succ _) | refine Below.alloc ?_ (by first | exact Nat.le_refl _ | (simp; done) | (simp; omega)) _)
  have hbig : w.heap.size + 2 ≤ w3.heap.size := by have := BB.size; simp at this; omega
  have q0 := BB.cell (p := ⟨w.heap.size + 1, 0, none⟩) (by simp)
  have q1 := BB.cell (p := ⟨w.heap.size + 1, 1, none⟩) (by simp)
  have q2 := BB.cell (p := ⟨w.heap.size + 1, 2, none⟩) (by simp)
  have q3 := BB.cell (p := ⟨w.heap.size + 1, 3, none⟩) (by simp)
  have q4 := BB.cell (p := ⟨w.heap.size + 1, 4, none⟩) (by simp)
  have z4 := BB.frozen (p := ⟨w.heap.size + 1, 4, none⟩) (by simp)
  have y0 := BB.frozen (p := ⟨w.heap.size, 0, none⟩) (by simp; omega)
  have y1 := BB.frozen (p := ⟨w.heap.size, 1, none⟩) (by simp; omega)
  have y2 := BB.frozen (p := ⟨w.heap.size, 2, none⟩) (by simp; omega)
  have y3 := BB.frozen (p := ⟨w.heap.size, 3, none⟩) (by simp; omega)
  have y4 := BB.frozen (p := ⟨w.heap.size, 4, none⟩) (by simp; omega)
  have p0 := BB.cell (p := ⟨w.heap.size, 0, none⟩) (by simp; omega)
  have p1 := BB.cell (p := ⟨w.heap.size, 1, none⟩) (by simp; omega)
  have p2 := BB.cell (p := ⟨w.heap.size, 2, none⟩) (by simp; omega)
  have p3 := BB.cell (p := ⟨w.heap.size, 3, none⟩) (by simp; omega)
  have p4 := BB.cell (p := ⟨w.heap.size, 4, none⟩) (by simp; omega)
  simp [go_sem] at q0 q1 q2 q3 q4 z4 y0 y1 y2 y3 y4 p0 p1 p2 p3 p4
  go_wp2_with fail
  refine (csx _).mono ?_; rintro e w4 ⟨rfl, B4⟩
  have hs4 := B4.size
  have r0 := B4.cell (p := ⟨w.heap.size + 1, 0, none⟩) (by simp [World.setCell]; omega)
  have r1 := B4.cell (p := ⟨w.heap.size + 1, 1, none⟩) (by simp [World.setCell]; omega)
  have r2 := B4.cell (p := ⟨w.heap.size + 1, 2, none⟩) (by simp [World.setCell]; omega)
  have r3 := B4.cell (p := ⟨w.heap.size + 1, 3, none⟩) (by simp [World.setCell]; omega)
  have r4 := B4.cell (p := ⟨w.heap.size + 1, 4, none⟩) (by simp [World.setCell]; omega)
  have x4 := B4.frozen (p := ⟨w.heap.size + 1, 4, none⟩) (by simp [World.setCell]; omega)
  have t0 := B4.frozen (p := ⟨w.heap.size, 0, none⟩) (by simp [World.setCell]; omega)
  have t1 := B4.frozen (p := ⟨w.heap.size, 1, none⟩) (by simp [World.setCell]; omega)
  have t2 := B4.frozen (p := ⟨w.heap.size, 2, none⟩) (by simp [World.setCell]; omega)
  have t3 := B4.frozen (p := ⟨w.heap.size, 3, none⟩) (by simp [World.setCell]; omega)
  have t4 := B4.frozen (p := ⟨w.heap.size, 4, none⟩) (by simp [World.setCell]; omega)
  have s0 := B4.cell (p := ⟨w.heap.size, 0, none⟩) (by simp [World.setCell]; omega)
  have s1 := B4.cell (p := ⟨w.heap.size, 1, none⟩) (by simp [World.setCell]; omega)
  have s2 := B4.cell (p := ⟨w.heap.size, 2, none⟩) (by simp [World.setCell]; omega)
  have s3 := B4.cell (p := ⟨w.heap.size, 3, none⟩) (by simp [World.setCell]; omega)
  have s4 := B4.cell (p := ⟨w.heap.size, 4, none⟩) (by simp [World.setCell]; omega)
  simp [go_sem, q0, q1, q2, q3, q4, z4, y0, y1, y2, y3, y4, p0, p1, p2, p3, p4] at r0 r1 r2 r3 r4 x4 t0 t1 t2 t3 t4 s0 s1 s2 s3 s4
  have hb4 : Below w.heap.size w w4 := (Below.setCell hb3 (by show w.heap.size ≤ w.heap.size + 1; omega) _).trans (B4.mono (by simp [World.setCell]; omega))
  clear hb3 B4 B3 B2 BB
  go_upto_region 15 with (fail)
  generalize hwz : World.setCell w4 _ _ = wz
  have hbz : Below w.heap.size w wz := hwz ▸ below_set hb4 (Nat.le_succ _)
  have c0 := (World.cell?_setCell_other w4 ⟨w.heap.size + 1, 4, none⟩ ⟨w.heap.size + 1, 0, none⟩ (.int .u32 X) (by simp)).trans r0
  rw [hwz] at c0
  have c1 := (World.cell?_setCell_other w4 ⟨w.heap.size + 1, 4, none⟩ ⟨w.heap.size + 1, 1, none⟩ (.int .u32 X) (by simp)).trans r1
  rw [hwz] at c1
  have c2 := (World.cell?_setCell_other w4 ⟨w.heap.size + 1, 4, none⟩ ⟨w.heap.size + 1, 2, none⟩ (.int .u32 X) (by simp)).trans r2
  rw [hwz] at c2
  have c3 := (World.cell?_setCell_other w4 ⟨w.heap.size + 1, 4, none⟩ ⟨w.heap.size + 1, 3, none⟩ (.int .u32 X) (by simp)).trans r3
  rw [hwz] at c3
  have c4 : wz.cell? ⟨w.heap.size + 1, 4, none⟩ = some (.int .u32 X) := by rw [← hwz]; exact World.cell?_setCell_same _ _ _ r4
  have d0 := (World.cell?_setCell_other w4 ⟨w.heap.size + 1, 4, none⟩ ⟨w.heap.size, 0, none⟩ (.int .u32 X) (by simp)).trans s0
  rw [hwz] at d0
  have d1 := (World.cell?_setCell_other w4 ⟨w.heap.size + 1, 4, none⟩ ⟨w.heap.size, 1, none⟩ (.int .u32 X) (by simp)).trans s1
  rw [hwz] at d1
  have d2 := (World.cell?_setCell_other w4 ⟨w.heap.size + 1, 4, none⟩ ⟨w.heap.size, 2, none⟩ (.int .u32 X) (by simp)).trans s2
  rw [hwz] at d2
  have d3 := (World.cell?_setCell_other w4 ⟨w.heap.size + 1, 4, none⟩ ⟨w.heap.size, 3, none⟩ (.int .u32 X) (by simp)).trans s3
  rw [hwz] at d3
  have d4 := (World.cell?_setCell_other w4 ⟨w.heap.size + 1, 4, none⟩ ⟨w.heap.size, 4, none⟩ (.int .u32 X) (by simp)).trans s4
  rw [hwz] at d4
  have f0 : wz.frozen? ⟨w.heap.size, 0, none⟩ = false := by rw [← hwz]; simpa [go_sem] using t0
  have f1 : wz.frozen? ⟨w.heap.size, 1, none⟩ = false := by rw [← hwz]; simpa [go_sem] using t1
  have f2 : wz.frozen? ⟨w.heap.size, 2, none⟩ = false := by rw [← hwz]; simpa [go_sem] using t2
  have f3 : wz.frozen? ⟨w.heap.size, 3, none⟩ = false := by rw [← hwz]; simpa [go_sem] using t3
  have f4 : wz.frozen? ⟨w.heap.size, 4, none⟩ = false := by rw [← hwz]; simpa [go_sem] using t4
  clear hb4 hwz r0 r1 r2 r3 r4 x4 t0 t1 t2 t3 t4 s0 s1 s2 s3 s4 q0 q1 q2 q3 q4 z4 y0 y1 y2 y3 y4 p0 p1 p2 p3 p4
  go_wp2_with fail
  refine bodyPost_ret (v := .agg #[.int .i64 op, .int .i64 F7, .int .i64 F15, .int .i64 0, .int .u32 X]) (by simp [results, Tryd.results52, go_sem, cell_same', d0, d1, d2, d3, d4]; done) rfl ?_
  refine ⟨?_, ?_⟩
  · rw [HR.out]
    simp [SI.val, readN, immOf, hf, hasRd, hasRs1, hasRs2, HF7.out, HF15.out, HX.out, HV.out, lowOf, partsOf, sizes]
  · repeat' (first | exact hbz | refine below_set ?_ (Nat.le_succ _) | refine below_set ?_ (Nat.le_refl _))

set_option maxRecDepth 100000 in
set_option maxHeartbeats 4000000 in
theorem read_3 (op : Int) (x : Nat) (w : World) (hf : formOf op = 3) (hx : x < 4294967296) : Calls Tryd.prog 52 #[.int .i64 op, .int .u32 x] w fun e w' => e = .returned (readN op x).val ∧ Below w.heap.size w w' := by
  obtain ⟨r, hr⟩ : ∃ r, r = readN op x := ⟨_, rfl⟩
  have HR := Lib.hid hr
  rw [← hr]
  clear hr
  have cform : ∀ w, Calls Tryd.prog 51 #[.int .i64 op] w fun e w' => e = .returned (.int .i64 3) ∧ w = w' := fun w => by
    have := form_any op w
    rw [hf] at this
    exact this
  have chas : ∀ w, Calls Tryd.prog 77 #[.int .i64 3] w fun e w' => e = .returned (.tuple #[.bool true, .bool true, .bool false]) ∧ w = w' := fun w => has_any 3 (by omega) w
  have cnum : ∀ w, Calls Tryd.prog 79 #[.int .i64 3] w fun e w' => ∃ v, e = .returned (.tuple #[v, .int .i64 0]) ∧ Sl 0 119 2 w' v 1 ((partsOf 3).flatMap spanCells) ∧ Below w.heap.size w w' := fun w => number_any 3 (by omega) w
  obtain ⟨V, hV⟩ : ∃ V, V = (gatherN x (partsOf 3)).1 := ⟨_, rfl⟩
  have HV := Lib.hid hV
  have hVl : V < 4294967296 := hV ▸ (gather_size x 3).2
  have cgat : ∀ (v : Value) (w : World), Sl 0 119 2 w v 1 ((partsOf 3).flatMap spanCells) → Calls Tryd.prog 80 #[.int .u32 x, v] w fun e w' => e = .returned (.tuple #[.int .u32 V, .int .i64 5]) ∧ Below w.heap.size w w' := fun v w hv => by
    have := gather_any x (partsOf 3) 0 1 v w hv rfl (partsOf_ok 3) (by omega) hx
    rw [(gather_size x 3).1, ← HV.out] at this
    exact this
  clear hV
  obtain ⟨F7, hF7⟩ : ∃ F, F = field x 7 5 := ⟨_, rfl⟩
  have HF7 := Lib.hid hF7
  have l7 : F7 < 32 := hF7 ▸ field_lt x 7 5
  have cf7 : ∀ w, Calls Tryd.prog 78 #[.int .u32 x, .int .i64 7, .int .i64 5] w fun e w' => e = .returned (.int .u32 F7) ∧ ∃ m, w' = w.drewN m := fun w => by
    have := field_q x 7 5 w (by omega) (by omega) hx
    rw [← HF7.out] at this
    exact this
  clear hF7
  obtain ⟨F15, hF15⟩ : ∃ F, F = field x 15 5 := ⟨_, rfl⟩
  have HF15 := Lib.hid hF15
  have l15 : F15 < 32 := hF15 ▸ field_lt x 15 5
  have cf15 : ∀ w, Calls Tryd.prog 78 #[.int .u32 x, .int .i64 15, .int .i64 5] w fun e w' => e = .returned (.int .u32 F15) ∧ ∃ m, w' = w.drewN m := fun w => by
    have := field_q x 15 5 w (by omega) (by omega) hx
    rw [← HF15.out] at this
    exact this
  clear hF15
  obtain ⟨X, hX⟩ : ∃ X, X = V * 2 ^ 0 % 4294967296 := ⟨_, rfl⟩
  have HX := Lib.hid hX
  have hXV : X = V := by omega
  clear hX
  subst hXV
  go_enter Tryd.func52, Tryd.ntmps52
  go_wp2_with fail
  refine (cform _).mono ?_; rintro e w1 ⟨rfl, rfl⟩
  go_wp2_with fail
  refine (chas _).mono ?_; rintro e w1 ⟨rfl, rfl⟩
  go_wp2_with fail
  refine (cf7 _).mono ?_; rintro e w1 ⟨rfl, m7, rfl⟩
  go_wp2_with fail
  refine (cf15 _).mono ?_; rintro e w1 ⟨rfl, m15, rfl⟩
  go_wp2_with fail
  refine (cnum _).mono ?_; rintro e w2 ⟨v, rfl, hv, B2⟩
  go_wp2_with fail
  refine (cgat v _ hv).mono ?_; rintro e w3 ⟨rfl, B3⟩
  have hs2 := B2.size
  have hs3 := B3.size
  have BB := B2.and B3
  have hb3 : Below w.heap.size w w3 := by
    refine Below.trans ?_ (BB.mono (by simp; omega))
    repeat' (first | exact Below.refl _ _ | refine below_drewN' ?_ _ | refine below_set ?_ (Nat.le_succ _) | refine Below.alloc ?_ (by first | exact Nat.le_refl _ | (simp; done) | (simp; omega)) _)
  have hbig : w.heap.size + 2 ≤ w3.heap.size := by have := BB.size; simp at this; omega
  have q0 := BB.cell (p := ⟨w.heap.size + 1, 0, none⟩) (by simp)
  have q1 := BB.cell (p := ⟨w.heap.size + 1, 1, none⟩) (by simp)
  have q2 := BB.cell (p := ⟨w.heap.size + 1, 2, none⟩) (by simp)
  have q3 := BB.cell (p := ⟨w.heap.size + 1, 3, none⟩) (by simp)
  have q4 := BB.cell (p := ⟨w.heap.size + 1, 4, none⟩) (by simp)
  have z4 := BB.frozen (p := ⟨w.heap.size + 1, 4, none⟩) (by simp)
  have y0 := BB.frozen (p := ⟨w.heap.size, 0, none⟩) (by simp; omega)
  have y1 := BB.frozen (p := ⟨w.heap.size, 1, none⟩) (by simp; omega)
  have y2 := BB.frozen (p := ⟨w.heap.size, 2, none⟩) (by simp; omega)
  have y3 := BB.frozen (p := ⟨w.heap.size, 3, none⟩) (by simp; omega)
  have y4 := BB.frozen (p := ⟨w.heap.size, 4, none⟩) (by simp; omega)
  have p0 := BB.cell (p := ⟨w.heap.size, 0, none⟩) (by simp; omega)
  have p1 := BB.cell (p := ⟨w.heap.size, 1, none⟩) (by simp; omega)
  have p2 := BB.cell (p := ⟨w.heap.size, 2, none⟩) (by simp; omega)
  have p3 := BB.cell (p := ⟨w.heap.size, 3, none⟩) (by simp; omega)
  have p4 := BB.cell (p := ⟨w.heap.size, 4, none⟩) (by simp; omega)
  simp [go_sem] at q0 q1 q2 q3 q4 z4 y0 y1 y2 y3 y4 p0 p1 p2 p3 p4

  go_upto_region 15 with (fail)
  generalize hwz : World.setCell w3 _ _ = wz
  have hbz : Below w.heap.size w wz := hwz ▸ below_set hb3 (Nat.le_succ _)
  have c0 := (World.cell?_setCell_other w3 ⟨w.heap.size + 1, 4, none⟩ ⟨w.heap.size + 1, 0, none⟩ (.int .u32 X) (by simp)).trans q0
  rw [hwz] at c0
  have c1 := (World.cell?_setCell_other w3 ⟨w.heap.size + 1, 4, none⟩ ⟨w.heap.size + 1, 1, none⟩ (.int .u32 X) (by simp)).trans q1
  rw [hwz] at c1
  have c2 := (World.cell?_setCell_other w3 ⟨w.heap.size + 1, 4, none⟩ ⟨w.heap.size + 1, 2, none⟩ (.int .u32 X) (by simp)).trans q2
  rw [hwz] at c2
  have c3 := (World.cell?_setCell_other w3 ⟨w.heap.size + 1, 4, none⟩ ⟨w.heap.size + 1, 3, none⟩ (.int .u32 X) (by simp)).trans q3
  rw [hwz] at c3
  have c4 : wz.cell? ⟨w.heap.size + 1, 4, none⟩ = some (.int .u32 X) := by rw [← hwz]; exact World.cell?_setCell_same _ _ _ q4
  have d0 := (World.cell?_setCell_other w3 ⟨w.heap.size + 1, 4, none⟩ ⟨w.heap.size, 0, none⟩ (.int .u32 X) (by simp)).trans p0
  rw [hwz] at d0
  have d1 := (World.cell?_setCell_other w3 ⟨w.heap.size + 1, 4, none⟩ ⟨w.heap.size, 1, none⟩ (.int .u32 X) (by simp)).trans p1
  rw [hwz] at d1
  have d2 := (World.cell?_setCell_other w3 ⟨w.heap.size + 1, 4, none⟩ ⟨w.heap.size, 2, none⟩ (.int .u32 X) (by simp)).trans p2
  rw [hwz] at d2
  have d3 := (World.cell?_setCell_other w3 ⟨w.heap.size + 1, 4, none⟩ ⟨w.heap.size, 3, none⟩ (.int .u32 X) (by simp)).trans p3
  rw [hwz] at d3
  have d4 := (World.cell?_setCell_other w3 ⟨w.heap.size + 1, 4, none⟩ ⟨w.heap.size, 4, none⟩ (.int .u32 X) (by simp)).trans p4
  rw [hwz] at d4
  have f0 : wz.frozen? ⟨w.heap.size, 0, none⟩ = false := by rw [← hwz]; simpa [go_sem] using y0
  have f1 : wz.frozen? ⟨w.heap.size, 1, none⟩ = false := by rw [← hwz]; simpa [go_sem] using y1
  have f2 : wz.frozen? ⟨w.heap.size, 2, none⟩ = false := by rw [← hwz]; simpa [go_sem] using y2
  have f3 : wz.frozen? ⟨w.heap.size, 3, none⟩ = false := by rw [← hwz]; simpa [go_sem] using y3
  have f4 : wz.frozen? ⟨w.heap.size, 4, none⟩ = false := by rw [← hwz]; simpa [go_sem] using y4
  clear hb3 hwz q0 q1 q2 q3 q4 z4 y0 y1 y2 y3 y4 p0 p1 p2 p3 p4
  go_wp2_with fail
  refine bodyPost_ret (v := .agg #[.int .i64 op, .int .i64 F7, .int .i64 F15, .int .i64 0, .int .u32 X]) (by simp [results, Tryd.results52, go_sem, cell_same', d0, d1, d2, d3, d4]; done) rfl ?_
  refine ⟨?_, ?_⟩
  · rw [HR.out]
    simp [SI.val, readN, immOf, hf, hasRd, hasRs1, hasRs2, HF7.out, HF15.out, ← HV.out, lowOf, Nat.mod_eq_of_lt hVl]
  · repeat' (first | exact hbz | refine below_set ?_ (Nat.le_succ _) | refine below_set ?_ (Nat.le_refl _))

set_option maxRecDepth 100000 in
set_option maxHeartbeats 4000000 in
theorem read_4 (op : Int) (x : Nat) (w : World) (hf : formOf op = 4) (hx : x < 4294967296) : Calls Tryd.prog 52 #[.int .i64 op, .int .u32 x] w fun e w' => e = .returned (readN op x).val ∧ Below w.heap.size w w' := by
  obtain ⟨r, hr⟩ : ∃ r, r = readN op x := ⟨_, rfl⟩
  have HR := Lib.hid hr
  rw [← hr]
  clear hr
  have cform : ∀ w, Calls Tryd.prog 51 #[.int .i64 op] w fun e w' => e = .returned (.int .i64 4) ∧ w = w' := fun w => by
    have := form_any op w
    rw [hf] at this
    exact this
  have chas : ∀ w, Calls Tryd.prog 77 #[.int .i64 4] w fun e w' => e = .returned (.tuple #[.bool false, .bool true, .bool true]) ∧ w = w' := fun w => has_any 4 (by omega) w
  have cnum : ∀ w, Calls Tryd.prog 79 #[.int .i64 4] w fun e w' => ∃ v, e = .returned (.tuple #[v, .int .i64 0]) ∧ Sl 0 119 2 w' v 2 ((partsOf 4).flatMap spanCells) ∧ Below w.heap.size w w' := fun w => number_any 4 (by omega) w
  obtain ⟨V, hV⟩ : ∃ V, V = (gatherN x (partsOf 4)).1 := ⟨_, rfl⟩
  have HV := Lib.hid hV
  have hVl : V < 4294967296 := hV ▸ (gather_size x 4).2
  have cgat : ∀ (v : Value) (w : World), Sl 0 119 2 w v 2 ((partsOf 4).flatMap spanCells) → Calls Tryd.prog 80 #[.int .u32 x, v] w fun e w' => e = .returned (.tuple #[.int .u32 V, .int .i64 12]) ∧ Below w.heap.size w w' := fun v w hv => by
    have := gather_any x (partsOf 4) 0 2 v w hv rfl (partsOf_ok 4) (by omega) hx
    rw [(gather_size x 4).1, ← HV.out] at this
    exact this
  clear hV
  obtain ⟨F15, hF15⟩ : ∃ F, F = field x 15 5 := ⟨_, rfl⟩
  have HF15 := Lib.hid hF15
  have l15 : F15 < 32 := hF15 ▸ field_lt x 15 5
  have cf15 : ∀ w, Calls Tryd.prog 78 #[.int .u32 x, .int .i64 15, .int .i64 5] w fun e w' => e = .returned (.int .u32 F15) ∧ ∃ m, w' = w.drewN m := fun w => by
    have := field_q x 15 5 w (by omega) (by omega) hx
    rw [← HF15.out] at this
    exact this
  clear hF15
  obtain ⟨F20, hF20⟩ : ∃ F, F = field x 20 5 := ⟨_, rfl⟩
  have HF20 := Lib.hid hF20
  have l20 : F20 < 32 := hF20 ▸ field_lt x 20 5
  have cf20 : ∀ w, Calls Tryd.prog 78 #[.int .u32 x, .int .i64 20, .int .i64 5] w fun e w' => e = .returned (.int .u32 F20) ∧ ∃ m, w' = w.drewN m := fun w => by
    have := field_q x 20 5 w (by omega) (by omega) hx
    rw [← HF20.out] at this
    exact this
  clear hF20
  have hvl : (V : Int) = ((V * 2 ^ 0 % 4294967296 : Nat) : Int) := by omega
  obtain ⟨X, hX⟩ : ∃ X, X = sext (V * 2 ^ 0 % 4294967296) 12 := ⟨_, rfl⟩
  have HX := Lib.hid hX
  have lX : X < 4294967296 := hX ▸ sext_lt _ 12 (by omega)
  have csx : ∀ w, Calls Tryd.prog 81 #[.int .u32 (V : Int), .int .i64 12] w fun e w' => e = .returned (.int .u32 X) ∧ Below w.heap.size w w' := fun w => by
    have := sext_any (V * 2 ^ 0 % 4294967296) 12 w (by omega) (by omega) (by omega)
    rw [← HX.out, ← hvl] at this
    exact this
  clear hvl hX
  go_enter Tryd.func52, Tryd.ntmps52
  go_wp2_with fail
  refine (cform _).mono ?_; rintro e w1 ⟨rfl, rfl⟩
  go_wp2_with fail
  refine (chas _).mono ?_; rintro e w1 ⟨rfl, rfl⟩
  go_wp2_with fail
  refine (cf15 _).mono ?_; rintro e w1 ⟨rfl, m15, rfl⟩
  go_wp2_with fail
  refine (cf20 _).mono ?_; rintro e w1 ⟨rfl, m20, rfl⟩
  go_wp2_with fail
  refine (cnum _).mono ?_; rintro e w2 ⟨v, rfl, hv, B2⟩
  go_wp2_with fail
  refine (cgat v _ hv).mono ?_; rintro e w3 ⟨rfl, B3⟩
  have hs2 := B2.size
  have hs3 := B3.size
  have BB := B2.and B3
  have hb3 : Below w.heap.size w w3 := by
    refine Below.trans ?_ (BB.mono (by simp; omega))
    repeat' (first | exact Below.refl _ _ | refine below_drewN' ?_ _ | refine below_set ?_ (Nat.le_succ _) | refine Below.alloc ?_ (by first | exact Nat.le_refl _ | (simp; done) | (simp; omega)) _)
  have hbig : w.heap.size + 2 ≤ w3.heap.size := by have := BB.size; simp at this; omega
  have q0 := BB.cell (p := ⟨w.heap.size + 1, 0, none⟩) (by simp)
  have q1 := BB.cell (p := ⟨w.heap.size + 1, 1, none⟩) (by simp)
  have q2 := BB.cell (p := ⟨w.heap.size + 1, 2, none⟩) (by simp)
  have q3 := BB.cell (p := ⟨w.heap.size + 1, 3, none⟩) (by simp)
  have q4 := BB.cell (p := ⟨w.heap.size + 1, 4, none⟩) (by simp)
  have z4 := BB.frozen (p := ⟨w.heap.size + 1, 4, none⟩) (by simp)
  have y0 := BB.frozen (p := ⟨w.heap.size, 0, none⟩) (by simp; omega)
  have y1 := BB.frozen (p := ⟨w.heap.size, 1, none⟩) (by simp; omega)
  have y2 := BB.frozen (p := ⟨w.heap.size, 2, none⟩) (by simp; omega)
  have y3 := BB.frozen (p := ⟨w.heap.size, 3, none⟩) (by simp; omega)
  have y4 := BB.frozen (p := ⟨w.heap.size, 4, none⟩) (by simp; omega)
  have p0 := BB.cell (p := ⟨w.heap.size, 0, none⟩) (by simp; omega)
  have p1 := BB.cell (p := ⟨w.heap.size, 1, none⟩) (by simp; omega)
  have p2 := BB.cell (p := ⟨w.heap.size, 2, none⟩) (by simp; omega)
  have p3 := BB.cell (p := ⟨w.heap.size, 3, none⟩) (by simp; omega)
  have p4 := BB.cell (p := ⟨w.heap.size, 4, none⟩) (by simp; omega)
  simp [go_sem] at q0 q1 q2 q3 q4 z4 y0 y1 y2 y3 y4 p0 p1 p2 p3 p4
  go_wp2_with fail
  refine (csx _).mono ?_; rintro e w4 ⟨rfl, B4⟩
  have hs4 := B4.size
  have r0 := B4.cell (p := ⟨w.heap.size + 1, 0, none⟩) (by simp [World.setCell]; omega)
  have r1 := B4.cell (p := ⟨w.heap.size + 1, 1, none⟩) (by simp [World.setCell]; omega)
  have r2 := B4.cell (p := ⟨w.heap.size + 1, 2, none⟩) (by simp [World.setCell]; omega)
  have r3 := B4.cell (p := ⟨w.heap.size + 1, 3, none⟩) (by simp [World.setCell]; omega)
  have r4 := B4.cell (p := ⟨w.heap.size + 1, 4, none⟩) (by simp [World.setCell]; omega)
  have x4 := B4.frozen (p := ⟨w.heap.size + 1, 4, none⟩) (by simp [World.setCell]; omega)
  have t0 := B4.frozen (p := ⟨w.heap.size, 0, none⟩) (by simp [World.setCell]; omega)
  have t1 := B4.frozen (p := ⟨w.heap.size, 1, none⟩) (by simp [World.setCell]; omega)
  have t2 := B4.frozen (p := ⟨w.heap.size, 2, none⟩) (by simp [World.setCell]; omega)
  have t3 := B4.frozen (p := ⟨w.heap.size, 3, none⟩) (by simp [World.setCell]; omega)
  have t4 := B4.frozen (p := ⟨w.heap.size, 4, none⟩) (by simp [World.setCell]; omega)
  have s0 := B4.cell (p := ⟨w.heap.size, 0, none⟩) (by simp [World.setCell]; omega)
  have s1 := B4.cell (p := ⟨w.heap.size, 1, none⟩) (by simp [World.setCell]; omega)
  have s2 := B4.cell (p := ⟨w.heap.size, 2, none⟩) (by simp [World.setCell]; omega)
  have s3 := B4.cell (p := ⟨w.heap.size, 3, none⟩) (by simp [World.setCell]; omega)
  have s4 := B4.cell (p := ⟨w.heap.size, 4, none⟩) (by simp [World.setCell]; omega)
  simp [go_sem, q0, q1, q2, q3, q4, z4, y0, y1, y2, y3, y4, p0, p1, p2, p3, p4] at r0 r1 r2 r3 r4 x4 t0 t1 t2 t3 t4 s0 s1 s2 s3 s4
  have hb4 : Below w.heap.size w w4 := (Below.setCell hb3 (by show w.heap.size ≤ w.heap.size + 1; omega) _).trans (B4.mono (by simp [World.setCell]; omega))
  clear hb3 B4 B3 B2 BB
  go_upto_region 15 with (fail)
  generalize hwz : World.setCell w4 _ _ = wz
  have hbz : Below w.heap.size w wz := hwz ▸ below_set hb4 (Nat.le_succ _)
  have c0 := (World.cell?_setCell_other w4 ⟨w.heap.size + 1, 4, none⟩ ⟨w.heap.size + 1, 0, none⟩ (.int .u32 X) (by simp)).trans r0
  rw [hwz] at c0
  have c1 := (World.cell?_setCell_other w4 ⟨w.heap.size + 1, 4, none⟩ ⟨w.heap.size + 1, 1, none⟩ (.int .u32 X) (by simp)).trans r1
  rw [hwz] at c1
  have c2 := (World.cell?_setCell_other w4 ⟨w.heap.size + 1, 4, none⟩ ⟨w.heap.size + 1, 2, none⟩ (.int .u32 X) (by simp)).trans r2
  rw [hwz] at c2
  have c3 := (World.cell?_setCell_other w4 ⟨w.heap.size + 1, 4, none⟩ ⟨w.heap.size + 1, 3, none⟩ (.int .u32 X) (by simp)).trans r3
  rw [hwz] at c3
  have c4 : wz.cell? ⟨w.heap.size + 1, 4, none⟩ = some (.int .u32 X) := by rw [← hwz]; exact World.cell?_setCell_same _ _ _ r4
  have d0 := (World.cell?_setCell_other w4 ⟨w.heap.size + 1, 4, none⟩ ⟨w.heap.size, 0, none⟩ (.int .u32 X) (by simp)).trans s0
  rw [hwz] at d0
  have d1 := (World.cell?_setCell_other w4 ⟨w.heap.size + 1, 4, none⟩ ⟨w.heap.size, 1, none⟩ (.int .u32 X) (by simp)).trans s1
  rw [hwz] at d1
  have d2 := (World.cell?_setCell_other w4 ⟨w.heap.size + 1, 4, none⟩ ⟨w.heap.size, 2, none⟩ (.int .u32 X) (by simp)).trans s2
  rw [hwz] at d2
  have d3 := (World.cell?_setCell_other w4 ⟨w.heap.size + 1, 4, none⟩ ⟨w.heap.size, 3, none⟩ (.int .u32 X) (by simp)).trans s3
  rw [hwz] at d3
  have d4 := (World.cell?_setCell_other w4 ⟨w.heap.size + 1, 4, none⟩ ⟨w.heap.size, 4, none⟩ (.int .u32 X) (by simp)).trans s4
  rw [hwz] at d4
  have f0 : wz.frozen? ⟨w.heap.size, 0, none⟩ = false := by rw [← hwz]; simpa [go_sem] using t0
  have f1 : wz.frozen? ⟨w.heap.size, 1, none⟩ = false := by rw [← hwz]; simpa [go_sem] using t1
  have f2 : wz.frozen? ⟨w.heap.size, 2, none⟩ = false := by rw [← hwz]; simpa [go_sem] using t2
  have f3 : wz.frozen? ⟨w.heap.size, 3, none⟩ = false := by rw [← hwz]; simpa [go_sem] using t3
  have f4 : wz.frozen? ⟨w.heap.size, 4, none⟩ = false := by rw [← hwz]; simpa [go_sem] using t4
  clear hb4 hwz r0 r1 r2 r3 r4 x4 t0 t1 t2 t3 t4 s0 s1 s2 s3 s4 q0 q1 q2 q3 q4 z4 y0 y1 y2 y3 y4 p0 p1 p2 p3 p4
  go_wp2_with fail
  refine bodyPost_ret (v := .agg #[.int .i64 op, .int .i64 0, .int .i64 F15, .int .i64 F20, .int .u32 X]) (by simp [results, Tryd.results52, go_sem, cell_same', d0, d1, d2, d3, d4]; done) rfl ?_
  refine ⟨?_, ?_⟩
  · rw [HR.out]
    simp [SI.val, readN, immOf, hf, hasRd, hasRs1, hasRs2, HF15.out, HF20.out, HX.out, HV.out, lowOf, partsOf, sizes]
  · repeat' (first | exact hbz | refine below_set ?_ (Nat.le_succ _) | refine below_set ?_ (Nat.le_refl _))

set_option maxRecDepth 100000 in
set_option maxHeartbeats 4000000 in
theorem read_5 (op : Int) (x : Nat) (w : World) (hf : formOf op = 5) (hx : x < 4294967296) : Calls Tryd.prog 52 #[.int .i64 op, .int .u32 x] w fun e w' => e = .returned (readN op x).val ∧ Below w.heap.size w w' := by
  obtain ⟨r, hr⟩ : ∃ r, r = readN op x := ⟨_, rfl⟩
  have HR := Lib.hid hr
  rw [← hr]
  clear hr
  have cform : ∀ w, Calls Tryd.prog 51 #[.int .i64 op] w fun e w' => e = .returned (.int .i64 5) ∧ w = w' := fun w => by
    have := form_any op w
    rw [hf] at this
    exact this
  have chas : ∀ w, Calls Tryd.prog 77 #[.int .i64 5] w fun e w' => e = .returned (.tuple #[.bool false, .bool true, .bool true]) ∧ w = w' := fun w => has_any 5 (by omega) w
  have cnum : ∀ w, Calls Tryd.prog 79 #[.int .i64 5] w fun e w' => ∃ v, e = .returned (.tuple #[v, .int .i64 1]) ∧ Sl 0 119 2 w' v 4 ((partsOf 5).flatMap spanCells) ∧ Below w.heap.size w w' := fun w => number_any 5 (by omega) w
  obtain ⟨V, hV⟩ : ∃ V, V = (gatherN x (partsOf 5)).1 := ⟨_, rfl⟩
  have HV := Lib.hid hV
  have hVl : V < 4294967296 := hV ▸ (gather_size x 5).2
  have cgat : ∀ (v : Value) (w : World), Sl 0 119 2 w v 4 ((partsOf 5).flatMap spanCells) → Calls Tryd.prog 80 #[.int .u32 x, v] w fun e w' => e = .returned (.tuple #[.int .u32 V, .int .i64 12]) ∧ Below w.heap.size w w' := fun v w hv => by
    have := gather_any x (partsOf 5) 0 4 v w hv rfl (partsOf_ok 5) (by omega) hx
    rw [(gather_size x 5).1, ← HV.out] at this
    exact this
  clear hV
  obtain ⟨F15, hF15⟩ : ∃ F, F = field x 15 5 := ⟨_, rfl⟩
  have HF15 := Lib.hid hF15
  have l15 : F15 < 32 := hF15 ▸ field_lt x 15 5
  have cf15 : ∀ w, Calls Tryd.prog 78 #[.int .u32 x, .int .i64 15, .int .i64 5] w fun e w' => e = .returned (.int .u32 F15) ∧ ∃ m, w' = w.drewN m := fun w => by
    have := field_q x 15 5 w (by omega) (by omega) hx
    rw [← HF15.out] at this
    exact this
  clear hF15
  obtain ⟨F20, hF20⟩ : ∃ F, F = field x 20 5 := ⟨_, rfl⟩
  have HF20 := Lib.hid hF20
  have l20 : F20 < 32 := hF20 ▸ field_lt x 20 5
  have cf20 : ∀ w, Calls Tryd.prog 78 #[.int .u32 x, .int .i64 20, .int .i64 5] w fun e w' => e = .returned (.int .u32 F20) ∧ ∃ m, w' = w.drewN m := fun w => by
    have := field_q x 20 5 w (by omega) (by omega) hx
    rw [← HF20.out] at this
    exact this
  clear hF20
  have hvl : ((V : Int) * 2 % 4294967296) = ((V * 2 ^ 1 % 4294967296 : Nat) : Int) := by omega
  obtain ⟨X, hX⟩ : ∃ X, X = sext (V * 2 ^ 1 % 4294967296) 13 := ⟨_, rfl⟩
  have HX := Lib.hid hX
  have lX : X < 4294967296 := hX ▸ sext_lt _ 13 (by omega)
  have csx : ∀ w, Calls Tryd.prog 81 #[.int .u32 ((V : Int) * 2 % 4294967296), .int .i64 13] w fun e w' => e = .returned (.int .u32 X) ∧ Below w.heap.size w w' := fun w => by
    have := sext_any (V * 2 ^ 1 % 4294967296) 13 w (by omega) (by omega) (by omega)
    rw [← HX.out, ← hvl] at this
    exact this
  clear hvl hX
  go_enter Tryd.func52, Tryd.ntmps52
  go_wp2_with fail
  refine (cform _).mono ?_; rintro e w1 ⟨rfl, rfl⟩
  go_wp2_with fail
  refine (chas _).mono ?_; rintro e w1 ⟨rfl, rfl⟩
  go_wp2_with fail
  refine (cf15 _).mono ?_; rintro e w1 ⟨rfl, m15, rfl⟩
  go_wp2_with fail
  refine (cf20 _).mono ?_; rintro e w1 ⟨rfl, m20, rfl⟩
  go_wp2_with fail
  refine (cnum _).mono ?_; rintro e w2 ⟨v, rfl, hv, B2⟩
  go_wp2_with fail
  refine (cgat v _ hv).mono ?_; rintro e w3 ⟨rfl, B3⟩
  have hs2 := B2.size
  have hs3 := B3.size
  have BB := B2.and B3
  have hb3 : Below w.heap.size w w3 := by
    refine Below.trans ?_ (BB.mono (by simp; omega))
    repeat' (first | exact Below.refl _ _ | refine below_drewN' ?_ _ | refine below_set ?_ (Nat.le_succ _) | refine Below.alloc ?_ (by first | exact Nat.le_refl _ | (simp; done) | (simp; omega)) _)
  have hbig : w.heap.size + 2 ≤ w3.heap.size := by have := BB.size; simp at this; omega
  have q0 := BB.cell (p := ⟨w.heap.size + 1, 0, none⟩) (by simp)
  have q1 := BB.cell (p := ⟨w.heap.size + 1, 1, none⟩) (by simp)
  have q2 := BB.cell (p := ⟨w.heap.size + 1, 2, none⟩) (by simp)
  have q3 := BB.cell (p := ⟨w.heap.size + 1, 3, none⟩) (by simp)
  have q4 := BB.cell (p := ⟨w.heap.size + 1, 4, none⟩) (by simp)
  have z4 := BB.frozen (p := ⟨w.heap.size + 1, 4, none⟩) (by simp)
  have y0 := BB.frozen (p := ⟨w.heap.size, 0, none⟩) (by simp; omega)
  have y1 := BB.frozen (p := ⟨w.heap.size, 1, none⟩) (by simp; omega)
  have y2 := BB.frozen (p := ⟨w.heap.size, 2, none⟩) (by simp; omega)
  have y3 := BB.frozen (p := ⟨w.heap.size, 3, none⟩) (by simp; omega)
  have y4 := BB.frozen (p := ⟨w.heap.size, 4, none⟩) (by simp; omega)
  have p0 := BB.cell (p := ⟨w.heap.size, 0, none⟩) (by simp; omega)
  have p1 := BB.cell (p := ⟨w.heap.size, 1, none⟩) (by simp; omega)
  have p2 := BB.cell (p := ⟨w.heap.size, 2, none⟩) (by simp; omega)
  have p3 := BB.cell (p := ⟨w.heap.size, 3, none⟩) (by simp; omega)
  have p4 := BB.cell (p := ⟨w.heap.size, 4, none⟩) (by simp; omega)
  simp [go_sem] at q0 q1 q2 q3 q4 z4 y0 y1 y2 y3 y4 p0 p1 p2 p3 p4
  go_wp2_with fail
  refine (csx _).mono ?_; rintro e w4 ⟨rfl, B4⟩
  have hs4 := B4.size
  have r0 := B4.cell (p := ⟨w.heap.size + 1, 0, none⟩) (by simp [World.setCell]; omega)
  have r1 := B4.cell (p := ⟨w.heap.size + 1, 1, none⟩) (by simp [World.setCell]; omega)
  have r2 := B4.cell (p := ⟨w.heap.size + 1, 2, none⟩) (by simp [World.setCell]; omega)
  have r3 := B4.cell (p := ⟨w.heap.size + 1, 3, none⟩) (by simp [World.setCell]; omega)
  have r4 := B4.cell (p := ⟨w.heap.size + 1, 4, none⟩) (by simp [World.setCell]; omega)
  have x4 := B4.frozen (p := ⟨w.heap.size + 1, 4, none⟩) (by simp [World.setCell]; omega)
  have t0 := B4.frozen (p := ⟨w.heap.size, 0, none⟩) (by simp [World.setCell]; omega)
  have t1 := B4.frozen (p := ⟨w.heap.size, 1, none⟩) (by simp [World.setCell]; omega)
  have t2 := B4.frozen (p := ⟨w.heap.size, 2, none⟩) (by simp [World.setCell]; omega)
  have t3 := B4.frozen (p := ⟨w.heap.size, 3, none⟩) (by simp [World.setCell]; omega)
  have t4 := B4.frozen (p := ⟨w.heap.size, 4, none⟩) (by simp [World.setCell]; omega)
  have s0 := B4.cell (p := ⟨w.heap.size, 0, none⟩) (by simp [World.setCell]; omega)
  have s1 := B4.cell (p := ⟨w.heap.size, 1, none⟩) (by simp [World.setCell]; omega)
  have s2 := B4.cell (p := ⟨w.heap.size, 2, none⟩) (by simp [World.setCell]; omega)
  have s3 := B4.cell (p := ⟨w.heap.size, 3, none⟩) (by simp [World.setCell]; omega)
  have s4 := B4.cell (p := ⟨w.heap.size, 4, none⟩) (by simp [World.setCell]; omega)
  simp [go_sem, q0, q1, q2, q3, q4, z4, y0, y1, y2, y3, y4, p0, p1, p2, p3, p4] at r0 r1 r2 r3 r4 x4 t0 t1 t2 t3 t4 s0 s1 s2 s3 s4
  have hb4 : Below w.heap.size w w4 := (Below.setCell hb3 (by show w.heap.size ≤ w.heap.size + 1; omega) _).trans (B4.mono (by simp [World.setCell]; omega))
  clear hb3 B4 B3 B2 BB
  go_upto_region 15 with (fail)
  generalize hwz : World.setCell w4 _ _ = wz
  have hbz : Below w.heap.size w wz := hwz ▸ below_set hb4 (Nat.le_succ _)
  have c0 := (World.cell?_setCell_other w4 ⟨w.heap.size + 1, 4, none⟩ ⟨w.heap.size + 1, 0, none⟩ (.int .u32 X) (by simp)).trans r0
  rw [hwz] at c0
  have c1 := (World.cell?_setCell_other w4 ⟨w.heap.size + 1, 4, none⟩ ⟨w.heap.size + 1, 1, none⟩ (.int .u32 X) (by simp)).trans r1
  rw [hwz] at c1
  have c2 := (World.cell?_setCell_other w4 ⟨w.heap.size + 1, 4, none⟩ ⟨w.heap.size + 1, 2, none⟩ (.int .u32 X) (by simp)).trans r2
  rw [hwz] at c2
  have c3 := (World.cell?_setCell_other w4 ⟨w.heap.size + 1, 4, none⟩ ⟨w.heap.size + 1, 3, none⟩ (.int .u32 X) (by simp)).trans r3
  rw [hwz] at c3
  have c4 : wz.cell? ⟨w.heap.size + 1, 4, none⟩ = some (.int .u32 X) := by rw [← hwz]; exact World.cell?_setCell_same _ _ _ r4
  have d0 := (World.cell?_setCell_other w4 ⟨w.heap.size + 1, 4, none⟩ ⟨w.heap.size, 0, none⟩ (.int .u32 X) (by simp)).trans s0
  rw [hwz] at d0
  have d1 := (World.cell?_setCell_other w4 ⟨w.heap.size + 1, 4, none⟩ ⟨w.heap.size, 1, none⟩ (.int .u32 X) (by simp)).trans s1
  rw [hwz] at d1
  have d2 := (World.cell?_setCell_other w4 ⟨w.heap.size + 1, 4, none⟩ ⟨w.heap.size, 2, none⟩ (.int .u32 X) (by simp)).trans s2
  rw [hwz] at d2
  have d3 := (World.cell?_setCell_other w4 ⟨w.heap.size + 1, 4, none⟩ ⟨w.heap.size, 3, none⟩ (.int .u32 X) (by simp)).trans s3
  rw [hwz] at d3
  have d4 := (World.cell?_setCell_other w4 ⟨w.heap.size + 1, 4, none⟩ ⟨w.heap.size, 4, none⟩ (.int .u32 X) (by simp)).trans s4
  rw [hwz] at d4
  have f0 : wz.frozen? ⟨w.heap.size, 0, none⟩ = false := by rw [← hwz]; simpa [go_sem] using t0
  have f1 : wz.frozen? ⟨w.heap.size, 1, none⟩ = false := by rw [← hwz]; simpa [go_sem] using t1
  have f2 : wz.frozen? ⟨w.heap.size, 2, none⟩ = false := by rw [← hwz]; simpa [go_sem] using t2
  have f3 : wz.frozen? ⟨w.heap.size, 3, none⟩ = false := by rw [← hwz]; simpa [go_sem] using t3
  have f4 : wz.frozen? ⟨w.heap.size, 4, none⟩ = false := by rw [← hwz]; simpa [go_sem] using t4
  clear hb4 hwz r0 r1 r2 r3 r4 x4 t0 t1 t2 t3 t4 s0 s1 s2 s3 s4 q0 q1 q2 q3 q4 z4 y0 y1 y2 y3 y4 p0 p1 p2 p3 p4
  go_wp2_with fail
  refine bodyPost_ret (v := .agg #[.int .i64 op, .int .i64 0, .int .i64 F15, .int .i64 F20, .int .u32 X]) (by simp [results, Tryd.results52, go_sem, cell_same', d0, d1, d2, d3, d4]; done) rfl ?_
  refine ⟨?_, ?_⟩
  · rw [HR.out]
    simp [SI.val, readN, immOf, hf, hasRd, hasRs1, hasRs2, HF15.out, HF20.out, HX.out, HV.out, lowOf, partsOf, sizes]
  · repeat' (first | exact hbz | refine below_set ?_ (Nat.le_succ _) | refine below_set ?_ (Nat.le_refl _))

set_option maxRecDepth 100000 in
set_option maxHeartbeats 4000000 in
theorem read_6 (op : Int) (x : Nat) (w : World) (hf : formOf op = 6) (hx : x < 4294967296) : Calls Tryd.prog 52 #[.int .i64 op, .int .u32 x] w fun e w' => e = .returned (readN op x).val ∧ Below w.heap.size w w' := by
  obtain ⟨r, hr⟩ : ∃ r, r = readN op x := ⟨_, rfl⟩
  have HR := Lib.hid hr
  rw [← hr]
  clear hr
  have cform : ∀ w, Calls Tryd.prog 51 #[.int .i64 op] w fun e w' => e = .returned (.int .i64 6) ∧ w = w' := fun w => by
    have := form_any op w
    rw [hf] at this
    exact this
  have chas : ∀ w, Calls Tryd.prog 77 #[.int .i64 6] w fun e w' => e = .returned (.tuple #[.bool true, .bool false, .bool false]) ∧ w = w' := fun w => has_any 6 (by omega) w
  have cnum : ∀ w, Calls Tryd.prog 79 #[.int .i64 6] w fun e w' => ∃ v, e = .returned (.tuple #[v, .int .i64 12]) ∧ Sl 0 119 2 w' v 1 ((partsOf 6).flatMap spanCells) ∧ Below w.heap.size w w' := fun w => number_any 6 (by omega) w
  obtain ⟨V, hV⟩ : ∃ V, V = (gatherN x (partsOf 6)).1 := ⟨_, rfl⟩
  have HV := Lib.hid hV
  have hVl : V < 4294967296 := hV ▸ (gather_size x 6).2
  have cgat : ∀ (v : Value) (w : World), Sl 0 119 2 w v 1 ((partsOf 6).flatMap spanCells) → Calls Tryd.prog 80 #[.int .u32 x, v] w fun e w' => e = .returned (.tuple #[.int .u32 V, .int .i64 20]) ∧ Below w.heap.size w w' := fun v w hv => by
    have := gather_any x (partsOf 6) 0 1 v w hv rfl (partsOf_ok 6) (by omega) hx
    rw [(gather_size x 6).1, ← HV.out] at this
    exact this
  clear hV
  obtain ⟨F7, hF7⟩ : ∃ F, F = field x 7 5 := ⟨_, rfl⟩
  have HF7 := Lib.hid hF7
  have l7 : F7 < 32 := hF7 ▸ field_lt x 7 5
  have cf7 : ∀ w, Calls Tryd.prog 78 #[.int .u32 x, .int .i64 7, .int .i64 5] w fun e w' => e = .returned (.int .u32 F7) ∧ ∃ m, w' = w.drewN m := fun w => by
    have := field_q x 7 5 w (by omega) (by omega) hx
    rw [← HF7.out] at this
    exact this
  clear hF7
  have hvl : ((V : Int) * 4096 % 4294967296) = ((V * 2 ^ 12 % 4294967296 : Nat) : Int) := by omega
  obtain ⟨X, hX⟩ : ∃ X, X = sext (V * 2 ^ 12 % 4294967296) 32 := ⟨_, rfl⟩
  have HX := Lib.hid hX
  have lX : X < 4294967296 := hX ▸ sext_lt _ 32 (by omega)
  have csx : ∀ w, Calls Tryd.prog 81 #[.int .u32 ((V : Int) * 4096 % 4294967296), .int .i64 32] w fun e w' => e = .returned (.int .u32 X) ∧ Below w.heap.size w w' := fun w => by
    have := sext_any (V * 2 ^ 12 % 4294967296) 32 w (by omega) (by omega) (by omega)
    rw [← HX.out, ← hvl] at this
    exact this
  clear hvl hX
  go_enter Tryd.func52, Tryd.ntmps52
  go_wp2_with fail
  refine (cform _).mono ?_; rintro e w1 ⟨rfl, rfl⟩
  go_wp2_with fail
  refine (chas _).mono ?_; rintro e w1 ⟨rfl, rfl⟩
  go_wp2_with fail
  refine (cf7 _).mono ?_; rintro e w1 ⟨rfl, m7, rfl⟩
  go_wp2_with fail
  refine (cnum _).mono ?_; rintro e w2 ⟨v, rfl, hv, B2⟩
  go_wp2_with fail
  refine (cgat v _ hv).mono ?_; rintro e w3 ⟨rfl, B3⟩
  have hs2 := B2.size
  have hs3 := B3.size
  have BB := B2.and B3
  have hb3 : Below w.heap.size w w3 := by
    refine Below.trans ?_ (BB.mono (by simp; omega))
    repeat' (first | exact Below.refl _ _ | refine below_drewN' ?_ _ | refine below_set ?_ (Nat.le_succ _) | refine Below.alloc ?_ (by first | exact Nat.le_refl _ | (simp; done) | (simp; omega)) _)
  have hbig : w.heap.size + 2 ≤ w3.heap.size := by have := BB.size; simp at this; omega
  have q0 := BB.cell (p := ⟨w.heap.size + 1, 0, none⟩) (by simp)
  have q1 := BB.cell (p := ⟨w.heap.size + 1, 1, none⟩) (by simp)
  have q2 := BB.cell (p := ⟨w.heap.size + 1, 2, none⟩) (by simp)
  have q3 := BB.cell (p := ⟨w.heap.size + 1, 3, none⟩) (by simp)
  have q4 := BB.cell (p := ⟨w.heap.size + 1, 4, none⟩) (by simp)
  have z4 := BB.frozen (p := ⟨w.heap.size + 1, 4, none⟩) (by simp)
  have y0 := BB.frozen (p := ⟨w.heap.size, 0, none⟩) (by simp; omega)
  have y1 := BB.frozen (p := ⟨w.heap.size, 1, none⟩) (by simp; omega)
  have y2 := BB.frozen (p := ⟨w.heap.size, 2, none⟩) (by simp; omega)
  have y3 := BB.frozen (p := ⟨w.heap.size, 3, none⟩) (by simp; omega)
  have y4 := BB.frozen (p := ⟨w.heap.size, 4, none⟩) (by simp; omega)
  have p0 := BB.cell (p := ⟨w.heap.size, 0, none⟩) (by simp; omega)
  have p1 := BB.cell (p := ⟨w.heap.size, 1, none⟩) (by simp; omega)
  have p2 := BB.cell (p := ⟨w.heap.size, 2, none⟩) (by simp; omega)
  have p3 := BB.cell (p := ⟨w.heap.size, 3, none⟩) (by simp; omega)
  have p4 := BB.cell (p := ⟨w.heap.size, 4, none⟩) (by simp; omega)
  simp [go_sem] at q0 q1 q2 q3 q4 z4 y0 y1 y2 y3 y4 p0 p1 p2 p3 p4
  go_wp2_with fail
  refine (csx _).mono ?_; rintro e w4 ⟨rfl, B4⟩
  have hs4 := B4.size
  have r0 := B4.cell (p := ⟨w.heap.size + 1, 0, none⟩) (by simp [World.setCell]; omega)
  have r1 := B4.cell (p := ⟨w.heap.size + 1, 1, none⟩) (by simp [World.setCell]; omega)
  have r2 := B4.cell (p := ⟨w.heap.size + 1, 2, none⟩) (by simp [World.setCell]; omega)
  have r3 := B4.cell (p := ⟨w.heap.size + 1, 3, none⟩) (by simp [World.setCell]; omega)
  have r4 := B4.cell (p := ⟨w.heap.size + 1, 4, none⟩) (by simp [World.setCell]; omega)
  have x4 := B4.frozen (p := ⟨w.heap.size + 1, 4, none⟩) (by simp [World.setCell]; omega)
  have t0 := B4.frozen (p := ⟨w.heap.size, 0, none⟩) (by simp [World.setCell]; omega)
  have t1 := B4.frozen (p := ⟨w.heap.size, 1, none⟩) (by simp [World.setCell]; omega)
  have t2 := B4.frozen (p := ⟨w.heap.size, 2, none⟩) (by simp [World.setCell]; omega)
  have t3 := B4.frozen (p := ⟨w.heap.size, 3, none⟩) (by simp [World.setCell]; omega)
  have t4 := B4.frozen (p := ⟨w.heap.size, 4, none⟩) (by simp [World.setCell]; omega)
  have s0 := B4.cell (p := ⟨w.heap.size, 0, none⟩) (by simp [World.setCell]; omega)
  have s1 := B4.cell (p := ⟨w.heap.size, 1, none⟩) (by simp [World.setCell]; omega)
  have s2 := B4.cell (p := ⟨w.heap.size, 2, none⟩) (by simp [World.setCell]; omega)
  have s3 := B4.cell (p := ⟨w.heap.size, 3, none⟩) (by simp [World.setCell]; omega)
  have s4 := B4.cell (p := ⟨w.heap.size, 4, none⟩) (by simp [World.setCell]; omega)
  simp [go_sem, q0, q1, q2, q3, q4, z4, y0, y1, y2, y3, y4, p0, p1, p2, p3, p4] at r0 r1 r2 r3 r4 x4 t0 t1 t2 t3 t4 s0 s1 s2 s3 s4
  have hb4 : Below w.heap.size w w4 := (Below.setCell hb3 (by show w.heap.size ≤ w.heap.size + 1; omega) _).trans (B4.mono (by simp [World.setCell]; omega))
  clear hb3 B4 B3 B2 BB
  go_upto_region 15 with (fail)
  generalize hwz : World.setCell w4 _ _ = wz
  have hbz : Below w.heap.size w wz := hwz ▸ below_set hb4 (Nat.le_succ _)
  have c0 := (World.cell?_setCell_other w4 ⟨w.heap.size + 1, 4, none⟩ ⟨w.heap.size + 1, 0, none⟩ (.int .u32 X) (by simp)).trans r0
  rw [hwz] at c0
  have c1 := (World.cell?_setCell_other w4 ⟨w.heap.size + 1, 4, none⟩ ⟨w.heap.size + 1, 1, none⟩ (.int .u32 X) (by simp)).trans r1
  rw [hwz] at c1
  have c2 := (World.cell?_setCell_other w4 ⟨w.heap.size + 1, 4, none⟩ ⟨w.heap.size + 1, 2, none⟩ (.int .u32 X) (by simp)).trans r2
  rw [hwz] at c2
  have c3 := (World.cell?_setCell_other w4 ⟨w.heap.size + 1, 4, none⟩ ⟨w.heap.size + 1, 3, none⟩ (.int .u32 X) (by simp)).trans r3
  rw [hwz] at c3
  have c4 : wz.cell? ⟨w.heap.size + 1, 4, none⟩ = some (.int .u32 X) := by rw [← hwz]; exact World.cell?_setCell_same _ _ _ r4
  have d0 := (World.cell?_setCell_other w4 ⟨w.heap.size + 1, 4, none⟩ ⟨w.heap.size, 0, none⟩ (.int .u32 X) (by simp)).trans s0
  rw [hwz] at d0
  have d1 := (World.cell?_setCell_other w4 ⟨w.heap.size + 1, 4, none⟩ ⟨w.heap.size, 1, none⟩ (.int .u32 X) (by simp)).trans s1
  rw [hwz] at d1
  have d2 := (World.cell?_setCell_other w4 ⟨w.heap.size + 1, 4, none⟩ ⟨w.heap.size, 2, none⟩ (.int .u32 X) (by simp)).trans s2
  rw [hwz] at d2
  have d3 := (World.cell?_setCell_other w4 ⟨w.heap.size + 1, 4, none⟩ ⟨w.heap.size, 3, none⟩ (.int .u32 X) (by simp)).trans s3
  rw [hwz] at d3
  have d4 := (World.cell?_setCell_other w4 ⟨w.heap.size + 1, 4, none⟩ ⟨w.heap.size, 4, none⟩ (.int .u32 X) (by simp)).trans s4
  rw [hwz] at d4
  have f0 : wz.frozen? ⟨w.heap.size, 0, none⟩ = false := by rw [← hwz]; simpa [go_sem] using t0
  have f1 : wz.frozen? ⟨w.heap.size, 1, none⟩ = false := by rw [← hwz]; simpa [go_sem] using t1
  have f2 : wz.frozen? ⟨w.heap.size, 2, none⟩ = false := by rw [← hwz]; simpa [go_sem] using t2
  have f3 : wz.frozen? ⟨w.heap.size, 3, none⟩ = false := by rw [← hwz]; simpa [go_sem] using t3
  have f4 : wz.frozen? ⟨w.heap.size, 4, none⟩ = false := by rw [← hwz]; simpa [go_sem] using t4
  clear hb4 hwz r0 r1 r2 r3 r4 x4 t0 t1 t2 t3 t4 s0 s1 s2 s3 s4 q0 q1 q2 q3 q4 z4 y0 y1 y2 y3 y4 p0 p1 p2 p3 p4
  go_wp2_with fail
  refine bodyPost_ret (v := .agg #[.int .i64 op, .int .i64 F7, .int .i64 0, .int .i64 0, .int .u32 X]) (by simp [results, Tryd.results52, go_sem, cell_same', d0, d1, d2, d3, d4]; done) rfl ?_
  refine ⟨?_, ?_⟩
  · rw [HR.out]
    simp [SI.val, readN, immOf, hf, hasRd, hasRs1, hasRs2, HF7.out, HX.out, HV.out, lowOf, partsOf, sizes]
  · repeat' (first | exact hbz | refine below_set ?_ (Nat.le_succ _) | refine below_set ?_ (Nat.le_refl _))

set_option maxRecDepth 100000 in
set_option maxHeartbeats 4000000 in
theorem read_7 (op : Int) (x : Nat) (w : World) (hf : formOf op = 7) (hx : x < 4294967296) : Calls Tryd.prog 52 #[.int .i64 op, .int .u32 x] w fun e w' => e = .returned (readN op x).val ∧ Below w.heap.size w w' := by
  obtain ⟨r, hr⟩ : ∃ r, r = readN op x := ⟨_, rfl⟩
  have HR := Lib.hid hr
  rw [← hr]
  clear hr
  have cform : ∀ w, Calls Tryd.prog 51 #[.int .i64 op] w fun e w' => e = .returned (.int .i64 7) ∧ w = w' := fun w => by
    have := form_any op w
    rw [hf] at this
    exact this
  have chas : ∀ w, Calls Tryd.prog 77 #[.int .i64 7] w fun e w' => e = .returned (.tuple #[.bool true, .bool false, .bool false]) ∧ w = w' := fun w => has_any 7 (by omega) w
  have cnum : ∀ w, Calls Tryd.prog 79 #[.int .i64 7] w fun e w' => ∃ v, e = .returned (.tuple #[v, .int .i64 1]) ∧ Sl 0 119 2 w' v 4 ((partsOf 7).flatMap spanCells) ∧ Below w.heap.size w w' := fun w => number_any 7 (by omega) w
  obtain ⟨V, hV⟩ : ∃ V, V = (gatherN x (partsOf 7)).1 := ⟨_, rfl⟩
  have HV := Lib.hid hV
  have hVl : V < 4294967296 := hV ▸ (gather_size x 7).2
  have cgat : ∀ (v : Value) (w : World), Sl 0 119 2 w v 4 ((partsOf 7).flatMap spanCells) → Calls Tryd.prog 80 #[.int .u32 x, v] w fun e w' => e = .returned (.tuple #[.int .u32 V, .int .i64 20]) ∧ Below w.heap.size w w' := fun v w hv => by
    have := gather_any x (partsOf 7) 0 4 v w hv rfl (partsOf_ok 7) (by omega) hx
    rw [(gather_size x 7).1, ← HV.out] at this
    exact this
  clear hV
  obtain ⟨F7, hF7⟩ : ∃ F, F = field x 7 5 := ⟨_, rfl⟩
  have HF7 := Lib.hid hF7
  have l7 : F7 < 32 := hF7 ▸ field_lt x 7 5
  have cf7 : ∀ w, Calls Tryd.prog 78 #[.int .u32 x, .int .i64 7, .int .i64 5] w fun e w' => e = .returned (.int .u32 F7) ∧ ∃ m, w' = w.drewN m := fun w => by
    have := field_q x 7 5 w (by omega) (by omega) hx
    rw [← HF7.out] at this
    exact this
  clear hF7
  have hvl : ((V : Int) * 2 % 4294967296) = ((V * 2 ^ 1 % 4294967296 : Nat) : Int) := by omega
  obtain ⟨X, hX⟩ : ∃ X, X = sext (V * 2 ^ 1 % 4294967296) 21 := ⟨_, rfl⟩
  have HX := Lib.hid hX
  have lX : X < 4294967296 := hX ▸ sext_lt _ 21 (by omega)
  have csx : ∀ w, Calls Tryd.prog 81 #[.int .u32 ((V : Int) * 2 % 4294967296), .int .i64 21] w fun e w' => e = .returned (.int .u32 X) ∧ Below w.heap.size w w' := fun w => by
    have := sext_any (V * 2 ^ 1 % 4294967296) 21 w (by omega) (by omega) (by omega)
    rw [← HX.out, ← hvl] at this
    exact this
  clear hvl hX
  go_enter Tryd.func52, Tryd.ntmps52
  go_wp2_with fail
  refine (cform _).mono ?_; rintro e w1 ⟨rfl, rfl⟩
  go_wp2_with fail
  refine (chas _).mono ?_; rintro e w1 ⟨rfl, rfl⟩
  go_wp2_with fail
  refine (cf7 _).mono ?_; rintro e w1 ⟨rfl, m7, rfl⟩
  go_wp2_with fail
  refine (cnum _).mono ?_; rintro e w2 ⟨v, rfl, hv, B2⟩
  go_wp2_with fail
  refine (cgat v _ hv).mono ?_; rintro e w3 ⟨rfl, B3⟩
  have hs2 := B2.size
  have hs3 := B3.size
  have BB := B2.and B3
  have hb3 : Below w.heap.size w w3 := by
    refine Below.trans ?_ (BB.mono (by simp; omega))
    repeat' (first | exact Below.refl _ _ | refine below_drewN' ?_ _ | refine below_set ?_ (Nat.le_succ _) | refine Below.alloc ?_ (by first | exact Nat.le_refl _ | (simp; done) | (simp; omega)) _)
  have hbig : w.heap.size + 2 ≤ w3.heap.size := by have := BB.size; simp at this; omega
  have q0 := BB.cell (p := ⟨w.heap.size + 1, 0, none⟩) (by simp)
  have q1 := BB.cell (p := ⟨w.heap.size + 1, 1, none⟩) (by simp)
  have q2 := BB.cell (p := ⟨w.heap.size + 1, 2, none⟩) (by simp)
  have q3 := BB.cell (p := ⟨w.heap.size + 1, 3, none⟩) (by simp)
  have q4 := BB.cell (p := ⟨w.heap.size + 1, 4, none⟩) (by simp)
  have z4 := BB.frozen (p := ⟨w.heap.size + 1, 4, none⟩) (by simp)
  have y0 := BB.frozen (p := ⟨w.heap.size, 0, none⟩) (by simp; omega)
  have y1 := BB.frozen (p := ⟨w.heap.size, 1, none⟩) (by simp; omega)
  have y2 := BB.frozen (p := ⟨w.heap.size, 2, none⟩) (by simp; omega)
  have y3 := BB.frozen (p := ⟨w.heap.size, 3, none⟩) (by simp; omega)
  have y4 := BB.frozen (p := ⟨w.heap.size, 4, none⟩) (by simp; omega)
  have p0 := BB.cell (p := ⟨w.heap.size, 0, none⟩) (by simp; omega)
  have p1 := BB.cell (p := ⟨w.heap.size, 1, none⟩) (by simp; omega)
  have p2 := BB.cell (p := ⟨w.heap.size, 2, none⟩) (by simp; omega)
  have p3 := BB.cell (p := ⟨w.heap.size, 3, none⟩) (by simp; omega)
  have p4 := BB.cell (p := ⟨w.heap.size, 4, none⟩) (by simp; omega)
  simp [go_sem] at q0 q1 q2 q3 q4 z4 y0 y1 y2 y3 y4 p0 p1 p2 p3 p4
  go_wp2_with fail
  refine (csx _).mono ?_; rintro e w4 ⟨rfl, B4⟩
  have hs4 := B4.size
  have r0 := B4.cell (p := ⟨w.heap.size + 1, 0, none⟩) (by simp [World.setCell]; omega)
  have r1 := B4.cell (p := ⟨w.heap.size + 1, 1, none⟩) (by simp [World.setCell]; omega)
  have r2 := B4.cell (p := ⟨w.heap.size + 1, 2, none⟩) (by simp [World.setCell]; omega)
  have r3 := B4.cell (p := ⟨w.heap.size + 1, 3, none⟩) (by simp [World.setCell]; omega)
  have r4 := B4.cell (p := ⟨w.heap.size + 1, 4, none⟩) (by simp [World.setCell]; omega)
  have x4 := B4.frozen (p := ⟨w.heap.size + 1, 4, none⟩) (by simp [World.setCell]; omega)
  have t0 := B4.frozen (p := ⟨w.heap.size, 0, none⟩) (by simp [World.setCell]; omega)
  have t1 := B4.frozen (p := ⟨w.heap.size, 1, none⟩) (by simp [World.setCell]; omega)
  have t2 := B4.frozen (p := ⟨w.heap.size, 2, none⟩) (by simp [World.setCell]; omega)
  have t3 := B4.frozen (p := ⟨w.heap.size, 3, none⟩) (by simp [World.setCell]; omega)
  have t4 := B4.frozen (p := ⟨w.heap.size, 4, none⟩) (by simp [World.setCell]; omega)
  have s0 := B4.cell (p := ⟨w.heap.size, 0, none⟩) (by simp [World.setCell]; omega)
  have s1 := B4.cell (p := ⟨w.heap.size, 1, none⟩) (by simp [World.setCell]; omega)
  have s2 := B4.cell (p := ⟨w.heap.size, 2, none⟩) (by simp [World.setCell]; omega)
  have s3 := B4.cell (p := ⟨w.heap.size, 3, none⟩) (by simp [World.setCell]; omega)
  have s4 := B4.cell (p := ⟨w.heap.size, 4, none⟩) (by simp [World.setCell]; omega)
  simp [go_sem, q0, q1, q2, q3, q4, z4, y0, y1, y2, y3, y4, p0, p1, p2, p3, p4] at r0 r1 r2 r3 r4 x4 t0 t1 t2 t3 t4 s0 s1 s2 s3 s4
  have hb4 : Below w.heap.size w w4 := (Below.setCell hb3 (by show w.heap.size ≤ w.heap.size + 1; omega) _).trans (B4.mono (by simp [World.setCell]; omega))
  clear hb3 B4 B3 B2 BB
  go_upto_region 15 with (fail)
  generalize hwz : World.setCell w4 _ _ = wz
  have hbz : Below w.heap.size w wz := hwz ▸ below_set hb4 (Nat.le_succ _)
  have c0 := (World.cell?_setCell_other w4 ⟨w.heap.size + 1, 4, none⟩ ⟨w.heap.size + 1, 0, none⟩ (.int .u32 X) (by simp)).trans r0
  rw [hwz] at c0
  have c1 := (World.cell?_setCell_other w4 ⟨w.heap.size + 1, 4, none⟩ ⟨w.heap.size + 1, 1, none⟩ (.int .u32 X) (by simp)).trans r1
  rw [hwz] at c1
  have c2 := (World.cell?_setCell_other w4 ⟨w.heap.size + 1, 4, none⟩ ⟨w.heap.size + 1, 2, none⟩ (.int .u32 X) (by simp)).trans r2
  rw [hwz] at c2
  have c3 := (World.cell?_setCell_other w4 ⟨w.heap.size + 1, 4, none⟩ ⟨w.heap.size + 1, 3, none⟩ (.int .u32 X) (by simp)).trans r3
  rw [hwz] at c3
  have c4 : wz.cell? ⟨w.heap.size + 1, 4, none⟩ = some (.int .u32 X) := by rw [← hwz]; exact World.cell?_setCell_same _ _ _ r4
  have d0 := (World.cell?_setCell_other w4 ⟨w.heap.size + 1, 4, none⟩ ⟨w.heap.size, 0, none⟩ (.int .u32 X) (by simp)).trans s0
  rw [hwz] at d0
  have d1 := (World.cell?_setCell_other w4 ⟨w.heap.size + 1, 4, none⟩ ⟨w.heap.size, 1, none⟩ (.int .u32 X) (by simp)).trans s1
  rw [hwz] at d1
  have d2 := (World.cell?_setCell_other w4 ⟨w.heap.size + 1, 4, none⟩ ⟨w.heap.size, 2, none⟩ (.int .u32 X) (by simp)).trans s2
  rw [hwz] at d2
  have d3 := (World.cell?_setCell_other w4 ⟨w.heap.size + 1, 4, none⟩ ⟨w.heap.size, 3, none⟩ (.int .u32 X) (by simp)).trans s3
  rw [hwz] at d3
  have d4 := (World.cell?_setCell_other w4 ⟨w.heap.size + 1, 4, none⟩ ⟨w.heap.size, 4, none⟩ (.int .u32 X) (by simp)).trans s4
  rw [hwz] at d4
  have f0 : wz.frozen? ⟨w.heap.size, 0, none⟩ = false := by rw [← hwz]; simpa [go_sem] using t0
  have f1 : wz.frozen? ⟨w.heap.size, 1, none⟩ = false := by rw [← hwz]; simpa [go_sem] using t1
  have f2 : wz.frozen? ⟨w.heap.size, 2, none⟩ = false := by rw [← hwz]; simpa [go_sem] using t2
  have f3 : wz.frozen? ⟨w.heap.size, 3, none⟩ = false := by rw [← hwz]; simpa [go_sem] using t3
  have f4 : wz.frozen? ⟨w.heap.size, 4, none⟩ = false := by rw [← hwz]; simpa [go_sem] using t4
  clear hb4 hwz r0 r1 r2 r3 r4 x4 t0 t1 t2 t3 t4 s0 s1 s2 s3 s4 q0 q1 q2 q3 q4 z4 y0 y1 y2 y3 y4 p0 p1 p2 p3 p4
  go_wp2_with fail
  refine bodyPost_ret (v := .agg #[.int .i64 op, .int .i64 F7, .int .i64 0, .int .i64 0, .int .u32 X]) (by simp [results, Tryd.results52, go_sem, cell_same', d0, d1, d2, d3, d4]; done) rfl ?_
  refine ⟨?_, ?_⟩
  · rw [HR.out]
    simp [SI.val, readN, immOf, hf, hasRd, hasRs1, hasRs2, HF7.out, HX.out, HV.out, lowOf, partsOf, sizes]
  · repeat' (first | exact hbz | refine below_set ?_ (Nat.le_succ _) | refine below_set ?_ (Nat.le_refl _))

set_option maxRecDepth 100000 in
set_option maxHeartbeats 4000000 in
theorem read_8 (op : Int) (x : Nat) (w : World) (hf : formOf op = 8) (hx : x < 4294967296) : Calls Tryd.prog 52 #[.int .i64 op, .int .u32 x] w fun e w' => e = .returned (readN op x).val ∧ Below w.heap.size w w' := by
  obtain ⟨r, hr⟩ : ∃ r, r = readN op x := ⟨_, rfl⟩
  have HR := Lib.hid hr
  rw [← hr]
  clear hr
  have cform : ∀ w, Calls Tryd.prog 51 #[.int .i64 op] w fun e w' => e = .returned (.int .i64 8) ∧ w = w' := fun w => by
    have := form_any op w
    rw [hf] at this
    exact this
  have chas : ∀ w, Calls Tryd.prog 77 #[.int .i64 8] w fun e w' => e = .returned (.tuple #[.bool false, .bool false, .bool false]) ∧ w = w' := fun w => has_any 8 (by omega) w
  have cnum : ∀ w, Calls Tryd.prog 79 #[.int .i64 8] w fun e w' => ∃ v, e = .returned (.tuple #[v, .int .i64 0]) ∧ Sl 0 119 2 w' v 0 ((partsOf 8).flatMap spanCells) ∧ Below w.heap.size w w' := fun w => number_any 8 (by omega) w
  obtain ⟨V, hV⟩ : ∃ V, V = (gatherN x (partsOf 8)).1 := ⟨_, rfl⟩
  have HV := Lib.hid hV
  have hVl : V < 4294967296 := hV ▸ (gather_size x 8).2
  have cgat : ∀ (v : Value) (w : World), Sl 0 119 2 w v 0 ((partsOf 8).flatMap spanCells) → Calls Tryd.prog 80 #[.int .u32 x, v] w fun e w' => e = .returned (.tuple #[.int .u32 V, .int .i64 0]) ∧ Below w.heap.size w w' := fun v w hv => by
    have := gather_any x (partsOf 8) 0 0 v w hv rfl (partsOf_ok 8) (by omega) hx
    rw [(gather_size x 8).1, ← HV.out] at this
    exact this
  clear hV
  obtain ⟨X, hX⟩ : ∃ X, X = (0 : Nat) := ⟨_, rfl⟩
  have HX := Lib.hid hX
  have csx : ∀ w, Calls Tryd.prog 81 #[.int .u32 (V : Int), .int .i64 0] w fun e w' => e = .returned (.int .u32 X) ∧ Below w.heap.size w w' := fun w => by
    rw [hX, show V = 0 from HV.out]
    exact sext_none w
  clear hX
  go_enter Tryd.func52, Tryd.ntmps52
  go_wp2_with fail
  refine (cform _).mono ?_; rintro e w1 ⟨rfl, rfl⟩
  go_wp2_with fail
  refine (chas _).mono ?_; rintro e w1 ⟨rfl, rfl⟩
  go_wp2_with fail
  refine (cnum _).mono ?_; rintro e w2 ⟨v, rfl, hv, B2⟩
  go_wp2_with fail
  refine (cgat v _ hv).mono ?_; rintro e w3 ⟨rfl, B3⟩
  have hs2 := B2.size
  have hs3 := B3.size
  have BB := B2.and B3
  have hb3 : Below w.heap.size w w3 := by
    refine Below.trans ?_ (BB.mono (by simp; omega))
    repeat' (first | exact Below.refl _ _ | refine below_drewN' ?_ _ | refine below_set ?_ (Nat.le_succ _) | refine Below.alloc ?_ (by first | exact Nat.le_refl _ | (simp; done) | (simp; omega)) _)
  have hbig : w.heap.size + 2 ≤ w3.heap.size := by have := BB.size; simp at this; omega
  have q0 := BB.cell (p := ⟨w.heap.size + 1, 0, none⟩) (by simp)
  have q1 := BB.cell (p := ⟨w.heap.size + 1, 1, none⟩) (by simp)
  have q2 := BB.cell (p := ⟨w.heap.size + 1, 2, none⟩) (by simp)
  have q3 := BB.cell (p := ⟨w.heap.size + 1, 3, none⟩) (by simp)
  have q4 := BB.cell (p := ⟨w.heap.size + 1, 4, none⟩) (by simp)
  have z4 := BB.frozen (p := ⟨w.heap.size + 1, 4, none⟩) (by simp)
  have y0 := BB.frozen (p := ⟨w.heap.size, 0, none⟩) (by simp; omega)
  have y1 := BB.frozen (p := ⟨w.heap.size, 1, none⟩) (by simp; omega)
  have y2 := BB.frozen (p := ⟨w.heap.size, 2, none⟩) (by simp; omega)
  have y3 := BB.frozen (p := ⟨w.heap.size, 3, none⟩) (by simp; omega)
  have y4 := BB.frozen (p := ⟨w.heap.size, 4, none⟩) (by simp; omega)
  have p0 := BB.cell (p := ⟨w.heap.size, 0, none⟩) (by simp; omega)
  have p1 := BB.cell (p := ⟨w.heap.size, 1, none⟩) (by simp; omega)
  have p2 := BB.cell (p := ⟨w.heap.size, 2, none⟩) (by simp; omega)
  have p3 := BB.cell (p := ⟨w.heap.size, 3, none⟩) (by simp; omega)
  have p4 := BB.cell (p := ⟨w.heap.size, 4, none⟩) (by simp; omega)
  simp [go_sem] at q0 q1 q2 q3 q4 z4 y0 y1 y2 y3 y4 p0 p1 p2 p3 p4
  go_wp2_with fail
  refine (csx _).mono ?_; rintro e w4 ⟨rfl, B4⟩
  have hs4 := B4.size
  have r0 := B4.cell (p := ⟨w.heap.size + 1, 0, none⟩) (by simp [World.setCell]; omega)
  have r1 := B4.cell (p := ⟨w.heap.size + 1, 1, none⟩) (by simp [World.setCell]; omega)
  have r2 := B4.cell (p := ⟨w.heap.size + 1, 2, none⟩) (by simp [World.setCell]; omega)
  have r3 := B4.cell (p := ⟨w.heap.size + 1, 3, none⟩) (by simp [World.setCell]; omega)
  have r4 := B4.cell (p := ⟨w.heap.size + 1, 4, none⟩) (by simp [World.setCell]; omega)
  have x4 := B4.frozen (p := ⟨w.heap.size + 1, 4, none⟩) (by simp [World.setCell]; omega)
  have t0 := B4.frozen (p := ⟨w.heap.size, 0, none⟩) (by simp [World.setCell]; omega)
  have t1 := B4.frozen (p := ⟨w.heap.size, 1, none⟩) (by simp [World.setCell]; omega)
  have t2 := B4.frozen (p := ⟨w.heap.size, 2, none⟩) (by simp [World.setCell]; omega)
  have t3 := B4.frozen (p := ⟨w.heap.size, 3, none⟩) (by simp [World.setCell]; omega)
  have t4 := B4.frozen (p := ⟨w.heap.size, 4, none⟩) (by simp [World.setCell]; omega)
  have s0 := B4.cell (p := ⟨w.heap.size, 0, none⟩) (by simp [World.setCell]; omega)
  have s1 := B4.cell (p := ⟨w.heap.size, 1, none⟩) (by simp [World.setCell]; omega)
  have s2 := B4.cell (p := ⟨w.heap.size, 2, none⟩) (by simp [World.setCell]; omega)
  have s3 := B4.cell (p := ⟨w.heap.size, 3, none⟩) (by simp [World.setCell]; omega)
  have s4 := B4.cell (p := ⟨w.heap.size, 4, none⟩) (by simp [World.setCell]; omega)
  simp [go_sem, q0, q1, q2, q3, q4, z4, y0, y1, y2, y3, y4, p0, p1, p2, p3, p4] at r0 r1 r2 r3 r4 x4 t0 t1 t2 t3 t4 s0 s1 s2 s3 s4
  have hb4 : Below w.heap.size w w4 := (Below.setCell hb3 (by show w.heap.size ≤ w.heap.size + 1; omega) _).trans (B4.mono (by simp [World.setCell]; omega))
  clear hb3 B4 B3 B2 BB
  go_upto_region 15 with (fail)
  generalize hwz : World.setCell w4 _ _ = wz
  have hbz : Below w.heap.size w wz := hwz ▸ below_set hb4 (Nat.le_succ _)
  have c0 := (World.cell?_setCell_other w4 ⟨w.heap.size + 1, 4, none⟩ ⟨w.heap.size + 1, 0, none⟩ (.int .u32 X) (by simp)).trans r0
  rw [hwz] at c0
  have c1 := (World.cell?_setCell_other w4 ⟨w.heap.size + 1, 4, none⟩ ⟨w.heap.size + 1, 1, none⟩ (.int .u32 X) (by simp)).trans r1
  rw [hwz] at c1
  have c2 := (World.cell?_setCell_other w4 ⟨w.heap.size + 1, 4, none⟩ ⟨w.heap.size + 1, 2, none⟩ (.int .u32 X) (by simp)).trans r2
  rw [hwz] at c2
  have c3 := (World.cell?_setCell_other w4 ⟨w.heap.size + 1, 4, none⟩ ⟨w.heap.size + 1, 3, none⟩ (.int .u32 X) (by simp)).trans r3
  rw [hwz] at c3
  have c4 : wz.cell? ⟨w.heap.size + 1, 4, none⟩ = some (.int .u32 X) := by rw [← hwz]; exact World.cell?_setCell_same _ _ _ r4
  have d0 := (World.cell?_setCell_other w4 ⟨w.heap.size + 1, 4, none⟩ ⟨w.heap.size, 0, none⟩ (.int .u32 X) (by simp)).trans s0
  rw [hwz] at d0
  have d1 := (World.cell?_setCell_other w4 ⟨w.heap.size + 1, 4, none⟩ ⟨w.heap.size, 1, none⟩ (.int .u32 X) (by simp)).trans s1
  rw [hwz] at d1
  have d2 := (World.cell?_setCell_other w4 ⟨w.heap.size + 1, 4, none⟩ ⟨w.heap.size, 2, none⟩ (.int .u32 X) (by simp)).trans s2
  rw [hwz] at d2
  have d3 := (World.cell?_setCell_other w4 ⟨w.heap.size + 1, 4, none⟩ ⟨w.heap.size, 3, none⟩ (.int .u32 X) (by simp)).trans s3
  rw [hwz] at d3
  have d4 := (World.cell?_setCell_other w4 ⟨w.heap.size + 1, 4, none⟩ ⟨w.heap.size, 4, none⟩ (.int .u32 X) (by simp)).trans s4
  rw [hwz] at d4
  have f0 : wz.frozen? ⟨w.heap.size, 0, none⟩ = false := by rw [← hwz]; simpa [go_sem] using t0
  have f1 : wz.frozen? ⟨w.heap.size, 1, none⟩ = false := by rw [← hwz]; simpa [go_sem] using t1
  have f2 : wz.frozen? ⟨w.heap.size, 2, none⟩ = false := by rw [← hwz]; simpa [go_sem] using t2
  have f3 : wz.frozen? ⟨w.heap.size, 3, none⟩ = false := by rw [← hwz]; simpa [go_sem] using t3
  have f4 : wz.frozen? ⟨w.heap.size, 4, none⟩ = false := by rw [← hwz]; simpa [go_sem] using t4
  clear hb4 hwz r0 r1 r2 r3 r4 x4 t0 t1 t2 t3 t4 s0 s1 s2 s3 s4 q0 q1 q2 q3 q4 z4 y0 y1 y2 y3 y4 p0 p1 p2 p3 p4
  go_wp2_with fail
  refine bodyPost_ret (v := .agg #[.int .i64 op, .int .i64 0, .int .i64 0, .int .i64 0, .int .u32 X]) (by simp [results, Tryd.results52, go_sem, cell_same', d0, d1, d2, d3, d4]; done) rfl ?_
  refine ⟨?_, ?_⟩
  · rw [HR.out]
    simp [SI.val, readN, immOf, hf, hasRd, hasRs1, hasRs2, HX.out, HV.out, lowOf, partsOf, sizes]
  · repeat' (first | exact hbz | refine below_set ?_ (Nat.le_succ _) | refine below_set ?_ (Nat.le_refl _))
end Go.Proofs.YtahnhhbgkmlfcaaDoor
