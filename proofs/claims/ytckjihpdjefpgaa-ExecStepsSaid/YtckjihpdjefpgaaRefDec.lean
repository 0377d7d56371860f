
/- The reference reads any word as the instruction that it tells, or as none. -/
import Derived.Test.YtckjihpdjefpgaaRefD
namespace Go.Proofs.Ytckjihpdjefpgaa
open Go.RowKit

theorem rdec_ok (x : Nat) (w : World) (hx : x < 4294967296) (hk : opOf x ≠ 0) : Calls Try.prog 16 #[.int .u32 x] w fun e w' => e = .returned (.tuple #[.agg #[.int .i64 (decN x).op, .int .i64 (decN x).rd, .int .i64 (decN x).rs1, .int .i64 (decN x).rs2, .int .u32 (decN x).imm], .int .i64 0]) ∧ Below w.heap.size w w' := by
  obtain ⟨h1, h2, -⟩ := opOf_mtch x hk
  have ho := (ref_is x hx).symm
  have hd : decN x = readN (opOf x) x := by unfold decN; rw [if_neg hk]
  rw [hd]
  generalize opOf x = k at *
  have f1 := formOf_le (k : Int)
  have f2 := formOf_pos (k : Int) ⟨by omega, by omega⟩
  have hc : formOf k = 1 ∨ formOf k = 2 ∨ formOf k = 3 ∨ formOf k = 4 ∨ formOf k = 5 ∨ formOf k = 6 ∨ formOf k = 7 ∨ formOf k = 8 := by omega
  rcases hc with h | h | h | h | h | h | h | h
  · exact rDecode_1 x k w hx h1 h2 ho h
  · exact rDecode_2 x k w hx h1 h2 ho h
  · exact rDecode_3 x k w hx h1 h2 ho h
  · exact rDecode_4 x k w hx h1 h2 ho h
  · exact rDecode_5 x k w hx h1 h2 ho h
  · exact rDecode_6 x k w hx h1 h2 ho h
  · exact rDecode_7 x k w hx h1 h2 ho h
  · exact rDecode_8 x k w hx h1 h2 ho h

set_option maxHeartbeats 2000000 in
theorem rdec_no (x : Nat) (w : World) (hx : x < 4294967296) (hk : opOf x = 0) : Calls Try.prog 16 #[.int .u32 x] w fun e w' => e = .returned (.tuple #[.agg #[.int .i64 0, .int .i64 0, .int .i64 0, .int .i64 0, .int .u32 0], .int .i64 20]) ∧ Below w.heap.size w w' := by
  have cop : ∀ w, Calls Try.prog 37 #[.int .u32 x] w fun e w' => e = .returned (.int .i64 (0 : Nat)) ∧ Below w.heap.size w w' := fun w => by
    have := rop_any x w hx
    rw [← ref_is x hx, hk] at this
    exact this
  clear hk
  go_enter Try.func16, Try.ntmps16
  go_wp2_with fail
  refine (cop _).mono ?_; rintro e w1 ⟨rfl, b1⟩
  have M0 : Mine w1 w.heap.size zero5 := (Mine.new w #[.int .i64 0, .int .i64 0, .int .i64 0, .int .i64 0, .int .u32 0] 24).kept b1
  have hb1 : Below w.heap.size w w1 := (below_all _).and b1
  have d0 := M0.c 0 _ rfl
  have d1 := M0.c 1 _ rfl
  have d2 := M0.c 2 _ rfl
  have d3 := M0.c 3 _ rfl
  have d4 := M0.c 4 _ rfl
  have f0 := M0.g 0
  have f1 := M0.g 1
  have f2 := M0.g 2
  have f3 := M0.g 3
  have f4 := M0.g 4
  clear b1 M0
  go_wp2_with fail
  refine bodyPost_ret (v := .tuple #[.agg #[.int .i64 0, .int .i64 0, .int .i64 0, .int .i64 0, .int .u32 0], .int .i64 20]) (by simp [results, Try.results16, go_sem, cell_same', d0, d1, d2, d3, d4]; done) rfl ?_
  refine ⟨rfl, ?_⟩
  repeat' (first | exact hb1 | refine below_set ?_ (Nat.le_refl _))

end Go.Proofs.Ytckjihpdjefpgaa
