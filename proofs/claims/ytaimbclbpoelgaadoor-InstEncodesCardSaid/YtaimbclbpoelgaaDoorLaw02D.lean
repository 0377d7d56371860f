/- The law InstDecodes: what is read is what the reference reads. -/
import Derived.Test.YtaimbclbpoelgaaDoorRefD
import Derived.Test.YtaimbclbpoelgaaDoorLaw02
namespace Go.Proofs.YtaimbclbpoelgaaDoor
open Go.RowKit

theorem rdec_ok (x : Nat) (w : World) (hx : x < 4294967296) (hk : opOf x ≠ 0) : Calls Tryd.prog 11 #[.int .u32 x] w fun e w' => e = .returned (.tuple #[.agg #[.int .i64 (decN x).op, .int .i64 (decN x).rd, .int .i64 (decN x).rs1, .int .i64 (decN x).rs2, .int .u32 (decN x).imm], .int .i64 0]) ∧ Below w.heap.size w w' := by
  obtain ⟨h1, h2, -⟩ := opOf_mtch x hk
  have ho := (ref_is x hx).symm
  have hd : decN x = readN (opOf x) x := by unfold decN; rw [if_neg hk]
  rw [hd]
  generalize opOf x = k at *
  have f1 := formOf_le (k : Int)
  have f2 := formOf_pos (k : Int) ⟨by omega, by omega⟩
  have hc : formOf k = 1 ∨ formOf k = 2 ∨ formOf k = 3 ∨ formOf k = 4 ∨ formOf k = 5 ∨ formOf k = 6 ∨ formOf k = 7 ∨ formOf k = 8 := by omega
  rcases hc with h | h | h | h | h | h | h | h
  · exact rDecode_1 x k w hx h1 h2 ho h
  · exact rDecode_2 x k w hx h1 h2 ho h
  · exact rDecode_3 x k w hx h1 h2 ho h
  · exact rDecode_4 x k w hx h1 h2 ho h
  · exact rDecode_5 x k w hx h1 h2 ho h
  · exact rDecode_6 x k w hx h1 h2 ho h
  · exact rDecode_7 x k w hx h1 h2 ho h
  · exact rDecode_8 x k w hx h1 h2 ho h

set_option maxHeartbeats 2000000 in
theorem rdec_no (x : Nat) (w : World) (hx : x < 4294967296) (hk : opOf x = 0) : Calls Tryd.prog 11 #[.int .u32 x] w fun e w' => e = .returned (.tuple #[.agg #[.int .i64 0, .int .i64 0, .int .i64 0, .int .i64 0, .int .u32 0], .int .i64 20]) ∧ Below w.heap.size w w' := by
  have cop : ∀ w, Calls Tryd.prog 21 #[.int .u32 x] w fun e w' => e = .returned (.int .i64 (0 : Nat)) ∧ Below w.heap.size w w' := fun w => by
    have := rop_any x w hx
    rw [← ref_is x hx, hk] at this
    exact this
  clear hk
  go_enter Tryd.func11, Tryd.ntmps11
  go_wp2_with fail
  refine (cop _).mono ?_; rintro e w1 ⟨rfl, b1⟩
  have M0 : Mine w1 w.heap.size zero5 := (Mine.new w #[.int .i64 0, .int .i64 0, .int .i64 0, .int .i64 0, .int .u32 0] 24).kept b1
  have hb1 : Below w.heap.size w w1 := (below_all _).and b1
  have d0 := M0.c 0 _ rfl
  have d1 := M0.c 1 _ rfl
  have d2 := M0.c 2 _ rfl
  have d3 := M0.c 3 _ rfl
  have d4 := M0.c 4 _ rfl
  have f0 := M0.g 0
  have f1 := M0.g 1
  have f2 := M0.g 2
  have f3 := M0.g 3
  have f4 := M0.g 4
  clear b1 M0
  go_wp2_with fail
  refine bodyPost_ret (v := .tuple #[.agg #[.int .i64 0, .int .i64 0, .int .i64 0, .int .i64 0, .int .u32 0], .int .i64 20]) (by simp [results, Tryd.results11, go_sem, cell_same', d0, d1, d2, d3, d4]; done) rfl ?_
  refine ⟨rfl, ?_⟩
  repeat' (first | exact hb1 | refine below_set ?_ (Nat.le_refl _))

set_option maxRecDepth 100000 in
set_option maxHeartbeats 4000000 in
theorem decodes_same (x : Nat) (w : World) (hC : Codes w) (r : SI) (e0 : Nat)
    (c1 : ∀ w, Codes w → Calls Tryd.prog 10 #[.int .u32 x] w fun e w' => e = .returned (.tuple #[.agg #[.int .i64 r.op, .int .i64 r.rd, .int .i64 r.rs1, .int .i64 r.rs2, .int .u32 r.imm], .int .i64 e0]) ∧ Below w.heap.size w w')
    (c2 : ∀ w, Calls Tryd.prog 11 #[.int .u32 x] w fun e w' => e = .returned (.tuple #[.agg #[.int .i64 r.op, .int .i64 r.rd, .int .i64 r.rs1, .int .i64 r.rs2, .int .u32 r.imm], .int .i64 e0]) ∧ Below w.heap.size w w') :
    Calls Tryd.prog 3 #[.int .u32 x] w fun e w' => e = .returned (.bool true) ∧ Below w.heap.size w w' := by
  go_enter Tryd.func3, Tryd.ntmps3
  go_wp2_with fail
  refine (c1 _ hC).mono ?_; rintro e w1 ⟨rfl, B1⟩
  go_wp2_with fail
  have M1 := Mine.new w1 #[.int .i64 r.op, .int .i64 r.rd, .int .i64 r.rs1, .int .i64 r.rs2, .int .u32 r.imm] 24
  have hb1 := B1.and (below_all (.cells #[.int .i64 r.op, .int .i64 r.rd, .int .i64 r.rs1, .int .i64 r.rs2, .int .u32 r.imm] 24))
  refine (c2 _).mono ?_; rintro e w2 ⟨rfl, B2⟩
  go_wp2_with fail
  have M2 := (M1.kept B2).alloc (.cells #[.int .i64 r.op, .int .i64 r.rd, .int .i64 r.rs1, .int .i64 r.rs2, .int .u32 r.imm] 24)
  have N2 := Mine.new w2 #[.int .i64 r.op, .int .i64 r.rd, .int .i64 r.rs1, .int .i64 r.rs2, .int .u32 r.imm] 24
  have hb2 := (hb1.and B2).and (below_all (.cells #[.int .i64 r.op, .int .i64 r.rd, .int .i64 r.rs1, .int .i64 r.rs2, .int .u32 r.imm] 24))
  refine (alive02 _ (hC.kept hb2)).mono ?_; rintro e w3 ⟨rfl, B3⟩
  have M3 := M2.kept B3
  have N3 := N2.kept B3
  have hb3 := hb2.and B3
  have c0 := M3.c 0 _ rfl
  have c1 := M3.c 1 _ rfl
  have c2 := M3.c 2 _ rfl
  have c3 := M3.c 3 _ rfl
  have c4 := M3.c 4 _ rfl
  have d0 := N3.c 0 _ rfl
  have d1 := N3.c 1 _ rfl
  have d2 := N3.c 2 _ rfl
  have d3 := N3.c 3 _ rfl
  have d4 := N3.c 4 _ rfl
  clear M1 M2 M3 N2 N3 B1 B2 B3 hb1 hb2
  go_wp2_with fail
  go_ret
  exact ⟨rfl, hb3⟩

theorem decodes_walk (x : Nat) (w : World) (hC : Codes w) (hx : x < 4294967296) : Calls Tryd.prog 3 #[.int .u32 x] w fun e w' => e = .returned (.bool true) ∧ Below w.heap.size w w' := by
  by_cases hk : opOf x = 0
  · exact decodes_same x w hC noSI 20 (fun w hC => decode_no x w hC hx hk) (fun w => rdec_no x w hx hk)
  · exact decodes_same x w hC (decN x) 0 (fun w hC => decode_ok x w hC hx hk) (fun w => rdec_ok x w hx hk)
end Go.Proofs.YtaimbclbpoelgaaDoor
