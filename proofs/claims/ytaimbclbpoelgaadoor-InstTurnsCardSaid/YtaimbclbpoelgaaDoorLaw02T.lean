/- The law InstTurns: with another register's number in it a word tells the same instruction of that register. -/
import Derived.Test.YtaimbclbpoelgaaDoorBits3
import Derived.Test.YtaimbclbpoelgaaDoorMine
import Derived.Test.YtaimbclbpoelgaaDoorInst6
import Derived.Test.YtaimbclbpoelgaaDoorLaw02
import Derived.Deep.DeepCutAuto
namespace Go.Proofs.YtaimbclbpoelgaaDoor
open Go.RowKit

def wrOf (op rd : Int) : Int := if hasRd (formOf op) then rd else 0
theorem writes_to (op rd rs1 rs2 : Int) (imm : Nat) (w : World) : Calls Tryd.prog 14 #[.agg #[.int .i64 op, .int .i64 rd, .int .i64 rs1, .int .i64 rs2, .int .u32 imm]] w fun e w' => e = .returned (.int .i64 (wrOf op rd)) ∧ Below w.heap.size w w' := writes_any op rd rs1 rs2 imm w
theorem wr_not (op rd : Int) (h : hasRd (formOf op) = false) : wrOf op rd = 0 := by
  unfold wrOf
  rw [h]
  rfl
theorem wr_yes (op rd : Int) (h : hasRd (formOf op) = true) : wrOf op rd = rd := by
  unfold wrOf
  rw [h]
  rfl

set_option maxRecDepth 100000 in
set_option maxHeartbeats 8000000 in
theorem turns_no (x : Nat) (reg : Int) (w : World) (hC : Codes w) (hx : x < 4294967296) (hk : opOf x = 0) :
    Calls Tryd.prog 6 #[.int .u32 x, .int .i64 reg] w fun e w' => e = .returned (.bool true) ∧ Below w.heap.size w w' := by
  obtain ⟨v, hv, hand⟩ := and31 reg
  go_enter Tryd.func6, Tryd.ntmps6
  go_wp2_with fail
  refine (decode_no x _ hC hx hk).mono ?_; rintro e w1 ⟨rfl, B1⟩
  go_wp2_with fail
  have hb1 := B1.and (below_all (.cells #[.int .i64 0, .int .i64 0, .int .i64 0, .int .i64 0, .int .u32 0] 24))
  refine (alive02 _ (hC.kept hb1)).mono ?_; rintro e w2 ⟨rfl, B2⟩
  go_wp2_with fail
  go_ret
  exact ⟨rfl, hb1.and B2⟩

set_option maxRecDepth 100000 in
set_option maxHeartbeats 8000000 in
theorem turns_plain (x : Nat) (reg : Int) (w : World) (hC : Codes w) (hx : x < 4294967296) (hk : opOf x ≠ 0) (hr : hasRd (formOf (opOf x)) = false) :
    Calls Tryd.prog 6 #[.int .u32 x, .int .i64 reg] w fun e w' => e = .returned (.bool true) ∧ Below w.heap.size w w' := by
  obtain ⟨v, hv, hand⟩ := and31 reg
  obtain ⟨h1, h2, -⟩ := opOf_mtch x hk
  have hro := rd_of (opOf x) h1 h2
  rw [hr] at hro
  have ho : (decN x).op = opOf x := by unfold decN; rw [if_neg hk]; rfl
  have c1 := fun w hC => decode_ok x w hC hx hk
  generalize decN x = r at *
  generalize opOf x = k at *
  have cw : ∀ w, Calls Tryd.prog 14 #[.agg #[.int .i64 r.op, .int .i64 r.rd, .int .i64 r.rs1, .int .i64 r.rs2, .int .u32 r.imm]] w fun e w' => e = .returned (.int .i64 0) ∧ Below w.heap.size w w' := fun w => by
    have := writes_to r.op r.rd r.rs1 r.rs2 r.imm w
    rw [wr_not _ _ (by rw [ho]; exact hr)] at this
    exact this
  obtain ⟨kd, hkd⟩ : ∃ kd, kd = kindOf r.op := ⟨_, rfl⟩
  have ck : ∀ w, Calls Tryd.prog 13 #[.agg #[.int .i64 r.op, .int .i64 r.rd, .int .i64 r.rs1, .int .i64 r.rs2, .int .u32 r.imm]] w fun e w' => e = .returned (.int .i64 kd) ∧ Below w.heap.size w w' := fun w => by
    rw [hkd]
    exact kind_any r.op r.rd r.rs1 r.rs2 r.imm w
  have hcase : (k = 46) ∨ (47 ≤ k) ∨ (16 ≤ k ∧ k ≤ 18) ∨ (5 ≤ k ∧ k ≤ 10) := by
    by_cases a1 : k < 46
    · by_cases a2 : 16 ≤ k ∧ k ≤ 18
      · exact .inr (.inr (.inl a2))
      · by_cases a3 : 5 ≤ k ∧ k ≤ 10
        · exact .inr (.inr (.inr a3))
        · simp only [a1, a2, a3, decide_true, ← Bool.decide_and, decide_false, Bool.not_false, Bool.and_self] at hro
          cases hro
    · omega
  clear hro hr
  obtain ⟨o, hoo⟩ : ∃ o, o = r.op := ⟨_, rfl⟩
  rw [← hoo] at c1 cw ck hkd ho
  have hfacts : (((o == 46) = true)) ∨ ((o == 46) = false ∧ decide (47 ≤ o) = true) ∨ ((o == 46) = false ∧ decide (47 ≤ o) = false ∧ ((kd : Int) == 4) = true) ∨
      ((o == 46) = false ∧ decide (47 ≤ o) = false ∧ ((kd : Int) == 4) = false ∧ decide (5 ≤ o) = true ∧ decide (o ≤ 10) = true) := by
    rcases hcase with h | h | h | h
    · exact .inl (by simp; omega)
    · exact .inr (.inl ⟨by simp; omega, by simp; omega⟩)
    · refine .inr (.inr (.inl ⟨by simp; omega, by simp; omega, ?_⟩))
      have : kindOf o = 4 := by unfold kindOf; rw [if_neg (by omega), if_neg (by omega), if_pos (by omega)]
      rw [hkd, this]
      rfl
    · refine .inr (.inr (.inr ⟨by simp; omega, by simp; omega, ?_, by simp; omega, by simp; omega⟩))
      have : kindOf o = 5 := by unfold kindOf; rw [if_pos (by omega)]
      rw [hkd, this]
      rfl
  clear hcase h1 h2 hoo ho hkd hk
  rcases hfacts with q1 | ⟨q1, q2⟩ | ⟨q1, q2, q3⟩ | ⟨q1, q2, q3, q4, q5⟩
  all_goals
    go_enter Tryd.func6, Tryd.ntmps6
    go_wp2_with fail
    refine (c1 _ hC).mono ?_; rintro e w1 ⟨rfl, B1⟩
    go_upto_region 2 with (fail)
    have hb2 := B1.and (below_all (.cells #[.int .i64 o, .int .i64 r.rd, .int .i64 r.rs1, .int .i64 r.rs2, .int .u32 r.imm] 24))
    have N2 := Mine.new w1 #[.int .i64 o, .int .i64 r.rd, .int .i64 r.rs1, .int .i64 r.rs2, .int .u32 r.imm] 24
    generalize w1.alloc _ = w2 at *
    generalize w1.heap.size = b1 at *
    have c0 := N2.c 0 _ rfl
    have c1 := N2.c 1 _ rfl
    have c2 := N2.c 2 _ rfl
    have c3 := N2.c 3 _ rfl
    have c4 := N2.c 4 _ rfl
  · go_wp2_with fail
    refine (alive02 _ (hC.kept hb2)).mono ?_; rintro e w4 ⟨rfl, B4⟩
    have hb4 := hb2.and B4
    have d0 := (N2.kept B4).c 0 _ rfl
    have d1 := (N2.kept B4).c 1 _ rfl
    have d2 := (N2.kept B4).c 2 _ rfl
    have d3 := (N2.kept B4).c 3 _ rfl
    have d4 := (N2.kept B4).c 4 _ rfl
    go_wp2_with fail
    refine (cw _).mono ?_; rintro e w5 ⟨rfl, B5⟩
    go_wp2_with fail
    go_ret
    exact ⟨rfl, hb4.and B5⟩
  · go_wp2_with fail
    refine (alive02 _ (hC.kept hb2)).mono ?_; rintro e w4 ⟨rfl, B4⟩
    have hb4 := hb2.and B4
    have d0 := (N2.kept B4).c 0 _ rfl
    have d1 := (N2.kept B4).c 1 _ rfl
    have d2 := (N2.kept B4).c 2 _ rfl
    have d3 := (N2.kept B4).c 3 _ rfl
    have d4 := (N2.kept B4).c 4 _ rfl
    go_wp2_with fail
    refine (cw _).mono ?_; rintro e w5 ⟨rfl, B5⟩
    go_wp2_with fail
    go_ret
    exact ⟨rfl, hb4.and B5⟩
  · go_upto_region 4 with (go_at_call 13; refine (ck _).mono ?_; rintro e wk ⟨rfl, Bk⟩)
    have hb3 := hb2.and Bk
    have N3 := N2.kept Bk
    go_wp2_with fail
    refine (alive02 _ (hC.kept hb3)).mono ?_; rintro e w4 ⟨rfl, B4⟩
    have hb4 := hb3.and B4
    have d0 := (N3.kept B4).c 0 _ rfl
    have d1 := (N3.kept B4).c 1 _ rfl
    have d2 := (N3.kept B4).c 2 _ rfl
    have d3 := (N3.kept B4).c 3 _ rfl
    have d4 := (N3.kept B4).c 4 _ rfl
    go_wp2_with fail
    refine (cw _).mono ?_; rintro e w5 ⟨rfl, B5⟩
    go_wp2_with fail
    go_ret
    exact ⟨rfl, hb4.and B5⟩
  · go_upto_region 4 with (go_at_call 13; refine (ck _).mono ?_; rintro e wk ⟨rfl, Bk⟩; have e0 := (N2.kept Bk).c 0 _ rfl)
    have hb3 := hb2.and Bk
    have N3 := N2.kept Bk
    go_wp2_with fail
    refine (alive02 _ (hC.kept hb3)).mono ?_; rintro e w4 ⟨rfl, B4⟩
    have hb4 := hb3.and B4
    have d0 := (N3.kept B4).c 0 _ rfl
    have d1 := (N3.kept B4).c 1 _ rfl
    have d2 := (N3.kept B4).c 2 _ rfl
    have d3 := (N3.kept B4).c 3 _ rfl
    have d4 := (N3.kept B4).c 4 _ rfl
    go_wp2_with fail
    refine (cw _).mono ?_; rintro e w5 ⟨rfl, B5⟩
    go_wp2_with fail
    go_ret
    exact ⟨rfl, hb4.and B5⟩

set_option maxRecDepth 100000 in
set_option maxHeartbeats 8000000 in
theorem turns_yes (x : Nat) (reg : Int) (w : World) (hC : Codes w) (hx : x < 4294967296) (hk : opOf x ≠ 0) (hr : hasRd (formOf (opOf x)) = true) :
    Calls Tryd.prog 6 #[.int .u32 x, .int .i64 reg] w fun e w' => e = .returned (.bool true) ∧ Below w.heap.size w w' := by
  obtain ⟨v, hv, hand⟩ := and31 reg
  obtain ⟨h1, h2, -⟩ := opOf_mtch x hk
  have hro := rd_of (opOf x) h1 h2
  rw [hr] at hro
  have ho : (decN x).op = opOf x := by unfold decN; rw [if_neg hk]; rfl
  have c1 := fun w hC => decode_ok x w hC hx hk
  obtain ⟨ty1, ty2⟩ := turn_dec x v hk hr hv
  have hyl : setf x 7 5 v < 4294967296 := setf_lt _ _ _ _ (by decide) hx
  have cy : ∀ w, Codes w → Calls Tryd.prog 10 #[.int .u32 (setf x 7 5 v)] w fun e w' => e = .returned (.tuple #[.agg #[.int .i64 (decN x).op, .int .i64 v, .int .i64 (decN x).rs1, .int .i64 (decN x).rs2, .int .u32 (decN x).imm], .int .i64 0]) ∧ Below w.heap.size w w' := fun w hC => by
    have := decode_ok (setf x 7 5 v) w hC hyl (by rw [ty1]; exact hk)
    rw [ty2] at this
    exact this
  have hnot : bits .andNot .u32 (x : Int) 3968 = ((x &&& (4294967295 - 3968) : Nat) : Int) := u32_andNot_nat x 3968 hx (by decide)
  have hor : Hid (bits .or .u32 ((x &&& (4294967295 - 3968) : Nat) : Int) ((v : Int) * 128) = ((setf x 7 5 v : Nat) : Int)) := by
    show _ = _
    rw [show ((v : Int) * 128) = ((v * 128 : Nat) : Int) by omega, u32_or_nat _ _ (Nat.lt_of_le_of_lt Nat.and_le_left hx) (by omega), turn_word x v hx hv]
  clear ty1 ty2 hyl
  generalize decN x = r at *
  generalize opOf x = k at *
  generalize setf x 7 5 v = y at *
  generalize (x &&& (4294967295 - 3968)) = xm at *
  have cw : ∀ w, Calls Tryd.prog 14 #[.agg #[.int .i64 r.op, .int .i64 v, .int .i64 r.rs1, .int .i64 r.rs2, .int .u32 r.imm]] w fun e w' => e = .returned (.int .i64 v) ∧ Below w.heap.size w w' := fun w => by
    have := writes_to r.op v r.rs1 r.rs2 r.imm w
    rw [wr_yes _ _ (by rw [ho]; exact hr)] at this
    exact this
  obtain ⟨kd, hkd⟩ : ∃ kd, kd = kindOf r.op := ⟨_, rfl⟩
  have ck : ∀ w, Calls Tryd.prog 13 #[.agg #[.int .i64 r.op, .int .i64 r.rd, .int .i64 r.rs1, .int .i64 r.rs2, .int .u32 r.imm]] w fun e w' => e = .returned (.int .i64 kd) ∧ Below w.heap.size w w' := fun w => by
    rw [hkd]
    exact kind_any r.op r.rd r.rs1 r.rs2 r.imm w
  have hcase : k < 46 ∧ ¬ (16 ≤ k ∧ k ≤ 18) ∧ ¬ (5 ≤ k ∧ k ≤ 10) := by
    by_cases a1 : k < 46
    · by_cases a2 : 16 ≤ k ∧ k ≤ 18
      · simp only [a1, a2, decide_true, Bool.and_self, Bool.not_true, Bool.false_and, Bool.true_and] at hro
        cases hro
      · by_cases a3 : 5 ≤ k ∧ k ≤ 10
        · simp only [a3, decide_true, Bool.and_self, Bool.not_true, Bool.and_false] at hro
          cases hro
        · exact ⟨a1, a2, a3⟩
    · simp only [a1, decide_false, Bool.false_and] at hro
      cases hro
  clear hro hr
  obtain ⟨o, hoo⟩ : ∃ o, o = r.op := ⟨_, rfl⟩
  rw [← hoo] at c1 cw ck hkd ho cy
  have q1 : (o == 46) = false := by simp; omega
  have q2 : decide (47 ≤ o) = false := by simp; omega
  have q3 : ((kd : Int) == 4) = false := by
    have : kindOf o ≠ 4 := by
      unfold kindOf
      repeat' (split <;> try omega)
    rw [← hkd] at this
    simp
    omega
  have hfacts : decide (5 ≤ o) = false ∨ (decide (5 ≤ o) = true ∧ decide (o ≤ 10) = false) := by
    by_cases a : k < 5
    · exact .inl (by simp; omega)
    · exact .inr ⟨by simp; omega, by simp; omega⟩
  clear hcase h1 h2 hoo ho hkd hk
  rcases hfacts with q4 | ⟨q4, q5⟩
  all_goals
    go_enter Tryd.func6, Tryd.ntmps6
    go_wp2_with fail
    refine (c1 _ hC).mono ?_; rintro e w1 ⟨rfl, B1⟩
    go_upto_region 2 with (fail)
    have hb2 := B1.and (below_all (.cells #[.int .i64 o, .int .i64 r.rd, .int .i64 r.rs1, .int .i64 r.rs2, .int .u32 r.imm] 24))
    have N2 := Mine.new w1 #[.int .i64 o, .int .i64 r.rd, .int .i64 r.rs1, .int .i64 r.rs2, .int .u32 r.imm] 24
    have hle : w.heap.size ≤ w1.heap.size := B1.size
    generalize w1.alloc _ = w2 at *
    generalize w1.heap.size = b1 at *
    have c0 := N2.c 0 _ rfl
    have c1 := N2.c 1 _ rfl
    have c2 := N2.c 2 _ rfl
    have c3 := N2.c 3 _ rfl
    have c4 := N2.c 4 _ rfl
    go_upto_region 5 with (go_at_call 13; refine (ck _).mono ?_; rintro e wk ⟨rfl, Bk⟩; have e0 := (N2.kept Bk).c 0 _ rfl)
    have hb3 := hb2.and Bk
    have N3 := N2.kept Bk
    clear c0 c1 c2 c3 c4 e0 N2 hb2 Bk
    go_wp2_with fail
    rw [hor.out]
    refine (cy _ (hC.kept hb3)).mono ?_; rintro e w4 ⟨rfl, B4⟩
    have hb4 := hb3.and B4
    have N4 := N3.kept B4
    clear hb3 N3 B4
    go_upto_region 6 with (fail)
    have N5 := N4.alloc (.cells #[.int .i64 o, .int .i64 v, .int .i64 r.rs1, .int .i64 r.rs2, .int .u32 r.imm] 24)
    have P5 := Mine.new w4 #[.int .i64 o, .int .i64 v, .int .i64 r.rs1, .int .i64 r.rs2, .int .u32 r.imm] 24
    have hb5 := hb4.and (below_all (.cells #[.int .i64 o, .int .i64 v, .int .i64 r.rs1, .int .i64 r.rs2, .int .u32 r.imm] 24))
    have hne : w4.heap.size ≠ b1 := by have := N4.lt; omega
    clear hb4 N4
    generalize w4.alloc _ = w5 at *
    generalize w4.heap.size = b4 at *
    have c1 := N5.c 1 _ rfl
    have g1 := N5.g 1
    go_upto_region 7 with (fail)
    have N6 := N5.set 1 (.int .i64 v) (by simp)
    have P6 := P5.set_other (k := 1) (.int .i64 v) hne
    have hb6 := below_set (k := 1) (v := .int .i64 v) hb5 hle
    clear N5 P5 hb5 c1 g1
    generalize w5.setCell _ _ = w6 at *
    go_wp2_with fail
    refine (alive02 _ (hC.kept hb6)).mono ?_; rintro e w7 ⟨rfl, B7⟩
    have hb7 := hb6.and B7
    have d0 := (N6.kept B7).c 0 _ rfl
    have d1 := (N6.kept B7).c 1 _ rfl
    have d2 := (N6.kept B7).c 2 _ rfl
    have d3 := (N6.kept B7).c 3 _ rfl
    have d4 := (N6.kept B7).c 4 _ rfl
    have p0 := (P6.kept B7).c 0 _ rfl
    have p1 := (P6.kept B7).c 1 _ rfl
    have p2 := (P6.kept B7).c 2 _ rfl
    have p3 := (P6.kept B7).c 3 _ rfl
    have p4 := (P6.kept B7).c 4 _ rfl
    clear N6 P6 B7 hb6
    go_wp2_with fail
    refine (cw _).mono ?_; rintro e w8 ⟨rfl, B8⟩
    go_wp2_with fail
    go_ret
    exact ⟨rfl, hb7.and B8⟩

theorem turns_walk (x : Nat) (reg : Int) (w : World) (hC : Codes w) (hx : x < 4294967296) : Calls Tryd.prog 6 #[.int .u32 x, .int .i64 reg] w fun e w' => e = .returned (.bool true) ∧ Below w.heap.size w w' := by
  by_cases hk : opOf x = 0
  · exact turns_no x reg w hC hx hk
  · cases hr : hasRd (formOf (opOf x)) with
    | false => exact turns_plain x reg w hC hx hk hr
    | true => exact turns_yes x reg w hC hx hk hr
end Go.Proofs.YtaimbclbpoelgaaDoor
