/- The law InstEncodes: an instruction is written as a word that tells just it, or is refused just if there is none. -/
import Derived.Test.YtaimbclbpoelgaaDoorEnc
import Derived.Test.YtaimbclbpoelgaaDoorLaw02D
namespace Go.Proofs.YtaimbclbpoelgaaDoor
open Go.RowKit

theorem op_zero : opOf 0 = 0 := by
  rw [ref_is 0 (by decide)]
  decide

set_option maxRecDepth 100000 in
set_option maxHeartbeats 8000000 in
theorem encodes_walk (x : Nat) (op rd rs1 rs2 : Int) (imm : Nat) (w : World) (hC : Codes w) (hx : x < 4294967296) (hi : imm < 4294967296) :
    Calls Tryd.prog 7 #[.agg #[.int .i64 op, .int .i64 rd, .int .i64 rs1, .int .i64 rs2, .int .u32 imm], .int .u32 x] w fun e w' => e = .returned (.bool true) ∧ Below w.heap.size w w' := by
  have hdec : (∃ r : SI, (∀ w, Calls Tryd.prog 11 #[.int .u32 x] w fun e w' => e = .returned (.tuple #[.agg #[.int .i64 r.op, .int .i64 r.rd, .int .i64 r.rs1, .int .i64 r.rs2, .int .u32 r.imm], .int .i64 20]) ∧ Below w.heap.size w w')) ∨
      (∃ r : SI, (∀ w, Calls Tryd.prog 11 #[.int .u32 x] w fun e w' => e = .returned (.tuple #[.agg #[.int .i64 r.op, .int .i64 r.rd, .int .i64 r.rs1, .int .i64 r.rs2, .int .u32 r.imm], .int .i64 0]) ∧ Below w.heap.size w w') ∧
        (∀ w, Codes w → Calls Tryd.prog 15 #[.agg #[.int .i64 r.op, .int .i64 r.rd, .int .i64 r.rs1, .int .i64 r.rs2, .int .u32 r.imm]] w fun e w' => e = .returned (.tuple #[.int .u32 x, .int .i64 0]) ∧ Below w.heap.size w w') ∧ okE r) := by
    by_cases hk : opOf x = 0
    · exact .inl ⟨noSI, fun w => rdec_no x w hx hk⟩
    · refine .inr ⟨decN x, fun w => rdec_ok x w hx hk, fun w hC => ?_, okE_dec x hk hx⟩
      have h := encode_ok (decN x).op (decN x).rd (decN x).rs1 (decN x).rs2 (decN x).imm w hC (decN_imm x) (okE_dec x hk hx)
      have hw : encW ⟨(decN x).op, (decN x).rd, (decN x).rs1, (decN x).rs2, (decN x).imm⟩ = x := enc_dec x hk hx
      rw [hw] at h
      exact h
  have henc : (∃ X : Nat, X < 4294967296 ∧ (∀ w, Codes w → Calls Tryd.prog 15 #[.agg #[.int .i64 op, .int .i64 rd, .int .i64 rs1, .int .i64 rs2, .int .u32 imm]] w fun e w' => e = .returned (.tuple #[.int .u32 X, .int .i64 0]) ∧ Below w.heap.size w w') ∧
        (∀ w, Calls Tryd.prog 11 #[.int .u32 X] w fun e w' => e = .returned (.tuple #[.agg #[.int .i64 op, .int .i64 rd, .int .i64 rs1, .int .i64 rs2, .int .u32 imm], .int .i64 0]) ∧ Below w.heap.size w w')) ∨
      ((∀ w, Codes w → Calls Tryd.prog 15 #[.agg #[.int .i64 op, .int .i64 rd, .int .i64 rs1, .int .i64 rs2, .int .u32 imm]] w fun e w' => e = .returned (.tuple #[.int .u32 0, .int .i64 1]) ∧ Below w.heap.size w w') ∧
        (∀ w, Calls Tryd.prog 11 #[.int .u32 0] w fun e w' => e = .returned (.tuple #[.agg #[.int .i64 0, .int .i64 0, .int .i64 0, .int .i64 0, .int .u32 0], .int .i64 20]) ∧ Below w.heap.size w w') ∧ ¬ okE ⟨op, rd, rs1, rs2, imm⟩) := by
    by_cases hk : okE ⟨op, rd, rs1, rs2, imm⟩
    · refine .inl ⟨encW ⟨op, rd, rs1, rs2, imm⟩, encW_lt _ hi, fun w hC => encode_ok op rd rs1 rs2 imm w hC hi hk, fun w => ?_⟩
      obtain ⟨h1, h2⟩ := okE_enc _ hi hk
      have := rdec_ok _ w (encW_lt _ hi) h1
      rw [h2] at this
      exact this
    · exact .inr ⟨fun w hC => encode_no op rd rs1 rs2 imm w hC hi hk, fun w => rdec_no 0 w (by decide) op_zero, hk⟩
  clear hi
  rcases henc with ⟨X, hX, ee, cr⟩ | ⟨ee, cr, hno⟩
  case' inl =>
    go_enter Tryd.func7, Tryd.ntmps7
    go_wp2_with fail
    have M0 := Mine.new w #[.int .i64 op, .int .i64 rd, .int .i64 rs1, .int .i64 rs2, .int .u32 imm] 24
    have hb0 := below_all (w := w) (.cells #[.int .i64 op, .int .i64 rd, .int .i64 rs1, .int .i64 rs2, .int .u32 imm] 24)
    refine (ee _ (hC.kept hb0)).mono ?_; rintro e w1 ⟨rfl, B1⟩
    go_wp2_with fail
    refine (cr _).mono ?_; rintro e w2 ⟨rfl, B2⟩
    have M2 := (M0.kept B1).kept B2
    have hb2 := (hb0.and B1).and B2
    clear M0 hb0 B1 B2
    go_upto_region 3 with (fail)
    have M3 := M2.alloc (.cells #[.int .i64 op, .int .i64 rd, .int .i64 rs1, .int .i64 rs2, .int .u32 imm] 24)
    have N3 := Mine.new w2 #[.int .i64 op, .int .i64 rd, .int .i64 rs1, .int .i64 rs2, .int .u32 imm] 24
    have hb3 := hb2.and (below_all (.cells #[.int .i64 op, .int .i64 rd, .int .i64 rs1, .int .i64 rs2, .int .u32 imm] 24))
    clear M2 hb2
    generalize w2.alloc _ = w3 at *
    generalize w2.heap.size = b1 at *
    have c0 := M3.c 0 _ rfl
    have c1 := M3.c 1 _ rfl
    have c2 := M3.c 2 _ rfl
    have c3 := M3.c 3 _ rfl
    have c4 := M3.c 4 _ rfl
    have d0 := N3.c 0 _ rfl
    have d1 := N3.c 1 _ rfl
    have d2 := N3.c 2 _ rfl
    have d3 := N3.c 3 _ rfl
    have d4 := N3.c 4 _ rfl
    clear N3
    go_upto_region 7 with (fail)
    clear c0 c1 c2 c3 c4 d0 d1 d2 d3 d4
  case' inr =>
    go_enter Tryd.func7, Tryd.ntmps7
    go_wp2_with fail
    have M0 := Mine.new w #[.int .i64 op, .int .i64 rd, .int .i64 rs1, .int .i64 rs2, .int .u32 imm] 24
    have hb0 := below_all (w := w) (.cells #[.int .i64 op, .int .i64 rd, .int .i64 rs1, .int .i64 rs2, .int .u32 imm] 24)
    refine (ee _ (hC.kept hb0)).mono ?_; rintro e w1 ⟨rfl, B1⟩
    go_wp2_with fail
    refine (cr _).mono ?_; rintro e w2 ⟨rfl, B2⟩
    have M2 := (M0.kept B1).kept B2
    have hb2 := (hb0.and B1).and B2
    clear M0 hb0 B1 B2
    go_upto_region 3 with (fail)
    have M3 := M2.alloc (.cells #[.int .i64 0, .int .i64 0, .int .i64 0, .int .i64 0, .int .u32 0] 24)
    have hb3 := hb2.and (below_all (.cells #[.int .i64 0, .int .i64 0, .int .i64 0, .int .i64 0, .int .u32 0] 24))
    clear M2 hb2
    generalize w2.alloc _ = w3 at *
    go_upto_region 7 with (fail)
  all_goals
    rcases hdec with ⟨r, cw⟩ | ⟨r, cw, ce, hr⟩
    · go_wp2_with fail
      refine (cw _).mono ?_; rintro e w4 ⟨rfl, B4⟩
      have hb4 := hb3.and B4
      go_wp2_with fail
      have hb5 := hb4.and (below_all (.cells #[.int .i64 r.op, .int .i64 r.rd, .int .i64 r.rs1, .int .i64 r.rs2, .int .u32 r.imm] 24))
      refine (alive02 _ (hC.kept hb5)).mono ?_; rintro e w6 ⟨rfl, B6⟩
      go_wp2_with fail
      go_ret
      exact ⟨rfl, hb5.and B6⟩
    · go_wp2_with fail
      refine (cw _).mono ?_; rintro e w4 ⟨rfl, B4⟩
      have M4 := M3.kept B4
      have hb4 := hb3.and B4
      clear M3 hb3 B4
      go_upto_region 8 with (fail)
      have M5 := M4.alloc (.cells #[.int .i64 r.op, .int .i64 r.rd, .int .i64 r.rs1, .int .i64 r.rs2, .int .u32 r.imm] 24)
      have N5 := Mine.new w4 #[.int .i64 r.op, .int .i64 r.rd, .int .i64 r.rs1, .int .i64 r.rs2, .int .u32 r.imm] 24
      have hb5 := hb4.and (below_all (.cells #[.int .i64 r.op, .int .i64 r.rd, .int .i64 r.rs1, .int .i64 r.rs2, .int .u32 r.imm] 24))
      clear M4 hb4
      generalize w4.alloc _ = w5 at *
      generalize w4.heap.size = b4 at *
      have e0 := N5.c 0 _ rfl
      have e1 := N5.c 1 _ rfl
      have e2 := N5.c 2 _ rfl
      have e3 := N5.c 3 _ rfl
      have e4 := N5.c 4 _ rfl
      go_wp2_with fail
      refine (ce _ (hC.kept hb5)).mono ?_; rintro e w6 ⟨rfl, B6⟩
      have M6 := M5.kept B6
      have N6 := N5.kept B6
      have hb6 := hb5.and B6
      clear M5 N5 hb5 B6 e0 e1 e2 e3 e4
      go_wp2_with fail
      refine (alive02 _ (hC.kept hb6)).mono ?_; rintro e w7 ⟨rfl, B7⟩
      have hb7 := hb6.and B7
      have c0 := (M6.kept B7).c 0 _ rfl
      have c1 := (M6.kept B7).c 1 _ rfl
      have c2 := (M6.kept B7).c 2 _ rfl
      have c3 := (M6.kept B7).c 3 _ rfl
      have c4 := (M6.kept B7).c 4 _ rfl
      have d0 := (N6.kept B7).c 0 _ rfl
      have d1 := (N6.kept B7).c 1 _ rfl
      have d2 := (N6.kept B7).c 2 _ rfl
      have d3 := (N6.kept B7).c 3 _ rfl
      have d4 := (N6.kept B7).c 4 _ rfl
      have hq : Hid (¬ okE ⟨op, rd, rs1, rs2, imm⟩ → ¬ (r.op = op ∧ r.rd = rd ∧ r.rs1 = rs1 ∧ r.rs2 = rs2 ∧ r.imm = imm)) := by
        show _ → ¬ _
        rintro hno ⟨a1, a2, a3, a4, a5⟩
        refine hno ?_
        rw [← a1, ← a2, ← a3, ← a4, ← a5]
        exact hr
      clear M6 N6 B7 hb6 hr cw ce cr ee
      go_wp2_with fail
      all_goals (first
        | (go_ret; exact ⟨rfl, hb7⟩)
        | exact absurd ⟨by first | rfl | assumption | omega, by first | rfl | assumption | omega, by first | rfl | assumption | omega, by first | rfl | assumption | omega, by first | rfl | assumption | omega⟩ (hq.out hno))
end Go.Proofs.YtaimbclbpoelgaaDoor
