/- A slice of steps that comes in reads as a list of steps. -/
import Derived.Test.YtaimbclbpoelgaaRead
import Derived.Test.YtaimbclbpoelgaaTrace
import Derived.Test.YtaimbclbpoelgaaRows
namespace Go.Proofs.Ytaimbclbpoelgaa
open Go.RowKit Go.ChangeShapes Go.WideShapes Go.ChangeAt Go.Deep

theorem own : ownKnob Try.prog.godebug = none := by kernel_rfl
theorem laidOut : laidOutB Try.prog = true := by kernel_rfl

instance : Inhabited Stp := ⟨⟨0, 0, 0, 0, 0, 0, false, 0, 0⟩⟩

theorem cells_step : Try.prog.cellsOf 44 = 9 := by kernel_rfl

theorem open_steps {H : Type} {enc : TypeId × Value → H} {w : World} {base : Nat} {spare : Nat → Bool} {held : Bool} {r : Reach} {b0 : Nat} {v : Value} {d : DataW H} {p : List MemPlace}
    (hv : Value.okWide Try.prog w r b0 22 v) (h : DataW.Trod enc Try.prog w base spare held 22 v d p) :
    ∃ l : List Stp, Sl w.heap.size 44 9 w v l.length (l.flatMap Stp.cells) := by
  refine sl_of_trod Stp.cells (fun _ => rfl) (by omega) Try.underlying22 Try.underlying44 (by kernel_rfl) cells_step rfl (fun n vs hl hf => ?_) hv h
  match vs, hl with
  | [v0, v1, v2, v3, v4, v5, v6, v7, v8], _ =>
    obtain ⟨_, y0, e0, t0⟩ := hf 0 _ rfl
    obtain ⟨_, y1, e1, t1⟩ := hf 1 _ rfl
    obtain ⟨_, y2, e2, t2⟩ := hf 2 _ rfl
    obtain ⟨_, y3, e3, t3⟩ := hf 3 _ rfl
    obtain ⟨_, y4, e4, t4⟩ := hf 4 _ rfl
    obtain ⟨_, y5, e5, t5⟩ := hf 5 _ rfl
    obtain ⟨_, y6, e6, t6⟩ := hf 6 _ rfl
    obtain ⟨_, y7, e7, t7⟩ := hf 7 _ rfl
    obtain ⟨_, y8, e8, t8⟩ := hf 8 _ rfl
    cases e0; cases e1; cases e2; cases e3; cases e4; cases e5; cases e6; cases e7; cases e8
    obtain ⟨n0, a0, -, -⟩ := DataW.trod_int Try.underlying29 t0
    obtain ⟨n1, a1, -, -⟩ := DataW.trod_int Try.underlying29 t1
    obtain ⟨n2, a2, -, -⟩ := DataW.trod_int Try.underlying3 t2
    obtain ⟨n3, a3, -, -⟩ := DataW.trod_int Try.underlying29 t3
    obtain ⟨n4, a4, -, -⟩ := DataW.trod_int Try.underlying29 t4
    obtain ⟨n5, a5, -, -⟩ := DataW.trod_int Try.underlying3 t5
    obtain ⟨n6, a6, -⟩ := DataW.trod_bool Try.underlying4 t6
    obtain ⟨n7, a7, -, -⟩ := DataW.trod_int Try.underlying3 t7
    obtain ⟨n8, a8, -, -⟩ := DataW.trod_int Try.underlying3 t8
    cases a0; cases a1; cases a2; cases a3; cases a4; cases a5; cases a6; cases a7; cases a8
    exact ⟨⟨n0, n1, n2, n3, n4, n5, n6, n7, n8⟩, rfl⟩
end Go.Proofs.Ytaimbclbpoelgaa
