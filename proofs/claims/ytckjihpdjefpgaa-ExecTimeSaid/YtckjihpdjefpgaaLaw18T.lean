/- The law ExecTime, of whatever entry. -/
import Derived.Test.YtckjihpdjefpgaaLaw18S
import Derived.Test.YtckjihpdjefpgaaLaw18R
namespace Go.Proofs.Ytckjihpdjefpgaa
open Go.RowKit

theorem time_walk (e0 : En) (a b : Nat) (w : World) (hi : e0.imm < 4294967296) (hp : e0.pc < 4294967296) (ha : a < 4294967296) (hb : b < 4294967296) :
    Calls Try.prog 3 #[.agg #[.int .i64 e0.no, .int .u32 e0.pc, .int .i64 e0.op, .int .i64 e0.rd, .int .i64 e0.rs1, .int .i64 e0.rs2, .int .u32 e0.imm, .int .u32 e0.guess, .int .i64 e0.is, .int .i64 e0.left, .int .u32 e0.value, .int .u32 e0.next, .int .u32 e0.addr, .int .i64 e0.halt, .int .i64 e0.took, .bool e0.known, .bool e0.filled], .int .u32 a, .int .u32 b] w fun e w' => e = .returned (.bool true) ∧ Below w.heap.size w w' := by
  rcases start_what { e0 with is := 0, halt := 0 } a b ha hb rfl rfl with hsame | ⟨L, hL1, hL2, hxis, hxleft, hxop, hxhalt, hLm, hLd, hLp⟩
  · exact time_same e0 a b w hi hp ha hb hsame
  · exact time_runs e0 a b w hi hp ha hb _ rfl L hL1 hL2 hxis hxleft hxop hxhalt hLm hLd hLp
end Go.Proofs.Ytckjihpdjefpgaa
