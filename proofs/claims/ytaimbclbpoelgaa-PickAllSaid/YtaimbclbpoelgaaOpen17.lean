/- Slices of ints and of bools that come in read as lists. -/
import Derived.Test.YtaimbclbpoelgaaRead
import Derived.Test.YtaimbclbpoelgaaProg
import Derived.Test.YtaimbclbpoelgaaRows
namespace Go.Proofs.Ytaimbclbpoelgaa
open Go.RowKit Go.ChangeShapes Go.WideShapes Go.ChangeAt Go.Deep

theorem cells_int : Try.prog.cellsOf 3 = 1 := by kernel_rfl
theorem cells_bool : Try.prog.cellsOf 4 = 1 := by kernel_rfl

theorem open_ints' {H : Type} {enc : TypeId × Value → H} {w : World} {base : Nat} {spare : Nat → Bool} {held : Bool} {r : Reach} {b0 : Nat} {v : Value} {d : DataW H} {p : List MemPlace}
    (hv : Value.okWide Try.prog w r b0 33 v) (h : DataW.Trod enc Try.prog w base spare held 33 v d p) :
    ∃ l : List Int, Sl w.heap.size 3 1 w v l.length (l.flatMap fun a => [.int .i64 a]) :=
  sl_of_trodG (fun a : Int => [Value.int .i64 a]) (fun _ => rfl) (Nat.lt_succ_self 0) Try.underlying33 cells_int (fun n vs y _ ht => by
    obtain ⟨a, rfl, -, -⟩ := DataW.trod_int Try.underlying3 ht
    exact ⟨a, rfl⟩) hv h
theorem open_bools' {H : Type} {enc : TypeId × Value → H} {w : World} {base : Nat} {spare : Nat → Bool} {held : Bool} {r : Reach} {b0 : Nat} {v : Value} {d : DataW H} {p : List MemPlace}
    (hv : Value.okWide Try.prog w r b0 34 v) (h : DataW.Trod enc Try.prog w base spare held 34 v d p) :
    ∃ l : List Bool, Sl w.heap.size 4 1 w v l.length (l.flatMap fun a => [.bool a]) :=
  sl_of_trodG (fun a : Bool => [Value.bool a]) (fun _ => rfl) (Nat.lt_succ_self 0) Try.underlying34 cells_bool (fun n vs y _ ht => by
    obtain ⟨a, rfl, -⟩ := DataW.trod_bool Try.underlying4 ht
    exact ⟨a, rfl⟩) hv h
end Go.Proofs.Ytaimbclbpoelgaa
