/- The tables of Go's library: from the row's condition to what a walk reads; a world that meets it; a law's last step. -/
import Derived.Test.YtpefnjbmbfdmmaaDoorLawR
import Derived.Test.YtpefnjbmbfdmmaaDoorRows
import Derived.Test.YtpefnjbmbfdmmaaDoorCards
import Derived.Test.YtpefnjbmbfdmmaaDoorTie
import Derived.Test.YtpefnjbmbfdmmaaDoorOpenS
import Derived.ProofKit
import Derived.LaidMore
import Derived.Lay
import Derived.Lib.LaidTab
import Derived.Stop.Joined
namespace Go.Proofs.YtpefnjbmbfdmmaaDoor
open Go.RowKit Go.ChangeShapes Go.WideShapes Go.ChangeAt

theorem ownK : ownKnob Tryd.prog.godebug = none := by kernel_rfl
theorem laidOutK : laidOutB Tryd.prog = true := by kernel_rfl
def laid0 : List (String × DataW Unit) := [("math/bits.deBruijn32tab", Rows.laid_math_bits_deBruijn32tab), ("math/bits.deBruijn64tab", Rows.laid_math_bits_deBruijn64tab), ("internal/strconv.uint64pow10", Rows.laid_internal_strconv_uint64pow10), ("unicode/utf8.acceptRanges", Rows.laid_unicode_utf8_acceptRanges), ("unicode/utf8.first", Rows.laid_unicode_utf8_first)]
theorem door_met (os : Os) (args : Array Value) : laidMetH Tryd.prog laid0 ((World.laidAll Tryd.prog os laid0).forCall (fun _ _ => 0) ⟨#[], args, []⟩).memory := by
  rw [MakeChecks.laidMetH_plain _ _ _ (by kernel_rfl)]; exact laidMet_laidAll _ (by kernel_rfl) (by kernel_rfl)
theorem pow_of_laid {W : World} (h : laidMetH Tryd.prog laid0 W) : Lib.TabIs Tryd.prog W "internal/strconv.uint64pow10" .u64 Lib.pow10Tab := by
  rw [MakeChecks.laidMetH_plain _ _ _ (by kernel_rfl)] at h
  obtain ⟨ps, hv, _⟩ := h
  obtain ⟨_, _, _, _, _, _, _, _, _, _, hv, _⟩ := hv
  obtain ⟨_, _, _, _, _, _, _, _, _, _, hv, _⟩ := hv
  obtain ⟨g', t', cs, fuel, p, q, hg', ht', hvar, hd, _, _⟩ := hv
  have hg : Tryd.prog.globalNamed "internal/strconv.uint64pow10" = some 3 := by kernel_rfl
  have hty : (Tryd.prog.globals[3]?).map (·.type) = some 120 := by kernel_rfl
  obtain rfl := Option.some.inj (hg.symm.trans hg')
  obtain rfl := Option.some.inj (hty.symm.trans ht')
  unfold Lib.TabIs
  have hd' : DataW.trod (fun _ => ()) Tryd.prog W 0 (fun _ => true) false fuel 120 cs.toList = some (Lib.tabData .u64 Lib.pow10Tab, p) := hd
  rw [hvar, ← Lib.cells_of_tab Tryd.underlying120 Tryd.underlying110 (by kernel_rfl) (by kernel_rfl) hd']
theorem g0Ok {S : Nat → Prop} {w : World} (h : Lib.TabIs Tryd.prog w "internal/strconv.uint64pow10" .u64 Lib.pow10Tab) (hS : S 3) : GOk C0 S w := fun g cells hg => by
  match g, hg with
  | 3, hg =>
    injection hg with hg; subst hg
    unfold Lib.TabIs World.var? at h
    rw [show Tryd.prog.globalNamed "internal/strconv.uint64pow10" = some 3 by kernel_rfl] at h
    have h : (match (w.heap[3]? : Option Obj) with | some (Obj.cells cs _ _) => some cs | _ => none) = some (Lib.pow10Tab.map fun z => Value.int .u64 z).toArray := h
    split at h
    · rename_i cs e fr hc
      have hcs := Option.some.inj h
      have hget : ∀ (j : Nat) a, gPow[j]? = some a → a = .v (.int .u64 (Lib.pow10Tab.getD j 0)) ∧ j < 20 := by
        intro j a hj
        have hl : j < 20 := (List.getElem?_eq_some_iff.1 hj).1
        refine ⟨?_, hl⟩
        have : ∀ i : _root_.Fin 20, powL[i.val]? = some ((10 ^ i.val : Nat) : Int) := by decide
        have e : gPow[j]? = some (.v (.int .u64 (Lib.pow10Tab.getD j 0))) := by
          rw [Lib.pow10Tab_at j hl]
          show (powL.map _)[j]? = _
          rw [List.getElem?_map, this ⟨j, hl⟩]; rfl
        rw [e] at hj
        exact (Option.some.inj hj).symm
      refine ⟨.dp gPow.length 0 gPow 3 0 (fun k => .int .u64 (Lib.pow10Tab.getD k 0)) rfl hS (fun j a hj => ?_) (fun _ => rfl) (fun j a hj => ?_), cs, e, fr, hc, ?_⟩
      · have hl := (hget j a hj).2
        rw [Nat.zero_add, cell_of_cells hc, hcs]
        have hj3 : j < Lib.pow10Tab.length := by rw [Lib.pow10Tab_length]; exact hl
        simp [List.getElem?_eq_getElem hj3]
      · rw [(hget j a hj).1]; exact .v _
      · rw [hcs]; simp [Lib.pow10Tab_length]; rfl
    · cases h
theorem tab_pos {w : World} (h : Lib.TabIs Tryd.prog w "internal/strconv.uint64pow10" .u64 Lib.pow10Tab) : 3 < w.heap.size := by
  unfold Lib.TabIs World.var? at h
  rw [show Tryd.prog.globalNamed "internal/strconv.uint64pow10" = some 3 by kernel_rfl] at h
  have h : (match (w.heap[3]? : Option Obj) with | some (Obj.cells cs _ _) => some cs | _ => none) = some (Lib.pow10Tab.map fun z => Value.int .u64 z).toArray := h
  split at h
  · rename_i cs e fr hc; exact (Array.getElem?_eq_some_iff.1 hc).1
  · cases h
/-- What a law comes to, out of its walk. -/
theorem DCall.law {f : FuncId} {args : List AV} {vs : List Value} {w : World} (h : DCall C0 f args (.v (.bool true))) (hC : Lib.TabIs Tryd.prog w "internal/strconv.uint64pow10" .u64 Lib.pow10Tab) (ha : RepL (· < w.heap.size) w noB args vs) :
    Calls Tryd.prog f vs.toArray w fun e w' => e = .returned (.bool true) ∧ Below w.heap.size w w' :=
  (h.2 (· < w.heap.size) w vs (fun _ h => h) (g0Ok hC (tab_pos hC)) ha).mono fun e w' ⟨v, h1, h2, h3⟩ => ⟨by rw [h1, rep_v h3], h2⟩
end Go.Proofs.YtpefnjbmbfdmmaaDoor
