/- The law InstBack: what is decoded, encoded, is the word; what is encoded, decoded, is the instruction. -/
import Derived.Test.YtaimbclbpoelgaaDoorEnc
import Derived.Test.YtaimbclbpoelgaaDoorLaw02
namespace Go.Proofs.YtaimbclbpoelgaaDoor
open Go.RowKit

/-- The cells of an instruction. -/
def instCells (op rd rs1 rs2 : Int) (imm : Nat) : Array Value := #[.int .i64 op, .int .i64 rd, .int .i64 rs1, .int .i64 rs2, .int .u32 imm]

set_option maxRecDepth 100000 in
set_option maxHeartbeats 8000000 in
theorem back_walk (x : Nat) (op rd rs1 rs2 : Int) (imm : Nat) (w : World) (hC : Codes w) (hx : x < 4294967296) (hi : imm < 4294967296) :
    Calls Tryd.prog 8 #[.int .u32 x, .agg #[.int .i64 op, .int .i64 rd, .int .i64 rs1, .int .i64 rs2, .int .u32 imm]] w fun e w' => e = .returned (.bool true) ∧ Below w.heap.size w w' := by
  have hdec : (∃ r : SI, (∀ w, Codes w → Calls Tryd.prog 10 #[.int .u32 x] w fun e w' => e = .returned (.tuple #[.agg #[.int .i64 r.op, .int .i64 r.rd, .int .i64 r.rs1, .int .i64 r.rs2, .int .u32 r.imm], .int .i64 20]) ∧ Below w.heap.size w w')) ∨
      (∃ r : SI, (∀ w, Codes w → Calls Tryd.prog 10 #[.int .u32 x] w fun e w' => e = .returned (.tuple #[.agg #[.int .i64 r.op, .int .i64 r.rd, .int .i64 r.rs1, .int .i64 r.rs2, .int .u32 r.imm], .int .i64 0]) ∧ Below w.heap.size w w') ∧
        (∀ w, Codes w → Calls Tryd.prog 15 #[.agg #[.int .i64 r.op, .int .i64 r.rd, .int .i64 r.rs1, .int .i64 r.rs2, .int .u32 r.imm]] w fun e w' => e = .returned (.tuple #[.int .u32 x, .int .i64 0]) ∧ Below w.heap.size w w')) := by
    by_cases hk : opOf x = 0
    · exact .inl ⟨noSI, fun w hC => decode_no x w hC hx hk⟩
    · refine .inr ⟨decN x, fun w hC => decode_ok x w hC hx hk, fun w hC => ?_⟩
      have h := encode_ok (decN x).op (decN x).rd (decN x).rs1 (decN x).rs2 (decN x).imm w hC (decN_imm x) (okE_dec x hk hx)
      have hw : encW ⟨(decN x).op, (decN x).rd, (decN x).rs1, (decN x).rs2, (decN x).imm⟩ = x := enc_dec x hk hx
      rw [hw] at h
      exact h
  have henc : (∀ w, Codes w → Calls Tryd.prog 15 #[.agg #[.int .i64 op, .int .i64 rd, .int .i64 rs1, .int .i64 rs2, .int .u32 imm]] w fun e w' => e = .returned (.tuple #[.int .u32 (0 : Nat), .int .i64 1]) ∧ Below w.heap.size w w') ∨
      (∃ X : Nat, X < 4294967296 ∧ (∀ w, Codes w → Calls Tryd.prog 15 #[.agg #[.int .i64 op, .int .i64 rd, .int .i64 rs1, .int .i64 rs2, .int .u32 imm]] w fun e w' => e = .returned (.tuple #[.int .u32 X, .int .i64 0]) ∧ Below w.heap.size w w') ∧
        (∀ w, Codes w → Calls Tryd.prog 10 #[.int .u32 X] w fun e w' => e = .returned (.tuple #[.agg #[.int .i64 op, .int .i64 rd, .int .i64 rs1, .int .i64 rs2, .int .u32 imm], .int .i64 0]) ∧ Below w.heap.size w w')) := by
    by_cases hk : okE ⟨op, rd, rs1, rs2, imm⟩
    · refine .inr ⟨encW ⟨op, rd, rs1, rs2, imm⟩, encW_lt _ hi, fun w hC => encode_ok op rd rs1 rs2 imm w hC hi hk, fun w hC => ?_⟩
      obtain ⟨h1, h2⟩ := okE_enc _ hi hk
      have := decode_ok _ w hC (encW_lt _ hi) h1
      rw [h2] at this
      exact this
    · exact .inl fun w hC => encode_no op rd rs1 rs2 imm w hC hi hk
  clear hi
  rcases hdec with ⟨r, cd⟩ | ⟨r, cd, ce⟩
  case' inl =>
    go_enter Tryd.func8, Tryd.ntmps8
    go_wp2_with fail
    have M0 := Mine.new w #[.int .i64 op, .int .i64 rd, .int .i64 rs1, .int .i64 rs2, .int .u32 imm] 24
    have hb0 := below_all (w := w) (.cells #[.int .i64 op, .int .i64 rd, .int .i64 rs1, .int .i64 rs2, .int .u32 imm] 24)
    refine (cd _ (hC.kept hb0)).mono ?_; rintro e w1 ⟨rfl, B1⟩
    have M1 := M0.kept B1
    have hb1 := hb0.and B1
    clear M0 hb0 B1
    go_upto_region 6 with (fail)
    have M3 := M1.alloc (.cells #[.int .i64 r.op, .int .i64 r.rd, .int .i64 r.rs1, .int .i64 r.rs2, .int .u32 r.imm] 24)
    have hb3 := hb1.and (below_all (.cells #[.int .i64 r.op, .int .i64 r.rd, .int .i64 r.rs1, .int .i64 r.rs2, .int .u32 r.imm] 24))
    clear M1 hb1
    generalize w1.alloc _ = w3 at *
  case' inr =>
    go_enter Tryd.func8, Tryd.ntmps8
    go_wp2_with fail
    have M0 := Mine.new w #[.int .i64 op, .int .i64 rd, .int .i64 rs1, .int .i64 rs2, .int .u32 imm] 24
    have hb0 := below_all (w := w) (.cells #[.int .i64 op, .int .i64 rd, .int .i64 rs1, .int .i64 rs2, .int .u32 imm] 24)
    refine (cd _ (hC.kept hb0)).mono ?_; rintro e w1 ⟨rfl, B1⟩
    have M1 := M0.kept B1
    have hb1 := hb0.and B1
    clear M0 hb0 B1
    go_upto_region 2 with (fail)
    have M2 := M1.alloc (.cells #[.int .i64 r.op, .int .i64 r.rd, .int .i64 r.rs1, .int .i64 r.rs2, .int .u32 r.imm] 24)
    have N2 := Mine.new w1 #[.int .i64 r.op, .int .i64 r.rd, .int .i64 r.rs1, .int .i64 r.rs2, .int .u32 r.imm] 24
    have hb2 := hb1.and (below_all (.cells #[.int .i64 r.op, .int .i64 r.rd, .int .i64 r.rs1, .int .i64 r.rs2, .int .u32 r.imm] 24))
    clear M1 hb1
    generalize w1.alloc _ = w2 at *
    generalize w1.heap.size = b1 at *
    have n0 := N2.c 0 _ rfl
    have n1 := N2.c 1 _ rfl
    have n2 := N2.c 2 _ rfl
    have n3 := N2.c 3 _ rfl
    have n4 := N2.c 4 _ rfl
    clear N2
    go_wp2_with fail
    refine (ce _ (hC.kept hb2)).mono ?_; rintro e w3 ⟨rfl, B3⟩
    have M3 := M2.kept B3
    have hb3 := hb2.and B3
    clear M2 hb2 B3 n0 n1 n2 n3 n4 cd ce
    go_upto_region 6 with (fail)
  all_goals
    have c0 := M3.c 0 _ rfl
    have c1 := M3.c 1 _ rfl
    have c2 := M3.c 2 _ rfl
    have c3 := M3.c 3 _ rfl
    have c4 := M3.c 4 _ rfl
    rcases henc with ee | ⟨X, hX, ee, ed⟩
    · go_wp2_with fail
      refine (ee _ (hC.kept hb3)).mono ?_; rintro e w4 ⟨rfl, B4⟩
      have hb4 := hb3.and B4
      go_wp2_with fail
      refine (alive02 _ (hC.kept hb4)).mono ?_; rintro e w5 ⟨rfl, B5⟩
      have hb5 := hb4.and B5
      go_wp2_with fail
      go_ret
      exact ⟨rfl, hb5⟩
    · go_wp2_with fail
      refine (ee _ (hC.kept hb3)).mono ?_; rintro e w4 ⟨rfl, B4⟩
      have M4 := M3.kept B4
      have hb4 := hb3.and B4
      clear M3 hb3 B4 c0 c1 c2 c3 c4
      go_wp2_with fail
      refine (ed _ (hC.kept hb4)).mono ?_; rintro e w5 ⟨rfl, B5⟩
      have M5 := M4.kept B5
      have hb5 := hb4.and B5
      clear M4 hb4 B5
      go_upto_region 10 with (fail)
      have M6 := M5.alloc (.cells #[.int .i64 op, .int .i64 rd, .int .i64 rs1, .int .i64 rs2, .int .u32 imm] 24)
      have N6 := Mine.new w5 #[.int .i64 op, .int .i64 rd, .int .i64 rs1, .int .i64 rs2, .int .u32 imm] 24
      have hb6 := hb5.and (below_all (.cells #[.int .i64 op, .int .i64 rd, .int .i64 rs1, .int .i64 rs2, .int .u32 imm] 24))
      clear M5 hb5
      generalize w5.alloc _ = w6 at *
      generalize w5.heap.size = b5 at *
      go_wp2_with fail
      refine (alive02 _ (hC.kept hb6)).mono ?_; rintro e w7 ⟨rfl, B7⟩
      have hb7 := hb6.and B7
      have c0 := (M6.kept B7).c 0 _ rfl
      have c1 := (M6.kept B7).c 1 _ rfl
      have c2 := (M6.kept B7).c 2 _ rfl
      have c3 := (M6.kept B7).c 3 _ rfl
      have c4 := (M6.kept B7).c 4 _ rfl
      have d0 := (N6.kept B7).c 0 _ rfl
      have d1 := (N6.kept B7).c 1 _ rfl
      have d2 := (N6.kept B7).c 2 _ rfl
      have d3 := (N6.kept B7).c 3 _ rfl
      have d4 := (N6.kept B7).c 4 _ rfl
      clear M6 N6 B7 hb6
      go_wp2_with fail
      go_ret
      exact ⟨rfl, hb7⟩
end Go.Proofs.YtaimbclbpoelgaaDoor
