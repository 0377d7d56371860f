/- One line of a text: a walk on the second machine. -/
import Derived.Test.YtpefnjbmbfdmmaaDoorScrL
namespace Go.Proofs.YtpefnjbmbfdmmaaDoor
open Go.RowKit Go.Lib
set_option maxRecDepth 100000 in
set_option maxHeartbeats 4000000 in
theorem hLine_1 (L : LibS) (p : ScPlan) (r : W) (k : Nat) (hk : k < 14) (hp : p.ok) (hr : r.length ≤ 100000) (hE : (cutL 10 r).2.2 = true) (hN : ¬ (splitL 32 (cutL 10 r).1).headD [] = nameL k)  : HSem C0.P C0.G 20 [vN k, .ptr 1 0, .ptr 0 0] (heapF [(0, .box (planF p k)), (1, .box [vS r])]) 2 (LineP p r k) := by
  refine HCall.intro (C := C0) (s := 2) c0Ok.at Tryd.func20 rfl rfl (by kernel_rfl) rfl rfl ?_
  refine cSeq ?_
  refine cReg rfl ?_
  refine rOk (d := 4) (x := vB false) rfl rfl rfl ?_
  refine rEnd (n' := 3) rfl ?_
  refine cSeq ?_
  refine cReg rfl ?_
  refine rOk (d := 10) (x := vS r) rfl rfl rfl ?_
  refine rCall (args := [vS r, .v (.string (⟨#[10]⟩ : ByteArray))]) (d := 11) (x := .tup [vS ((cutL 10 r).1), vS ((cutL 10 r).2.1), vB true]) rfl rfl rfl rfl (.inl rfl) rfl ((show AV.tup [vS (cutL 10 r).1, vS (cutL 10 r).2.1, vB (cutL 10 r).2.2] = .tup [vS (cutL 10 r).1, vS (cutL 10 r).2.1, vB true] from by rw [hE]) ▸ L.cut r (by omega)) ?_
  refine rOk (d := 9) (x := .tup [vS ((cutL 10 r).1), vS ((cutL 10 r).2.1), vB true]) rfl rfl rfl ?_
  refine rOk (d := 12) (x := vS ((cutL 10 r).1)) rfl rfl rfl ?_
  refine rOk (d := 13) (x := vS ((cutL 10 r).2.1)) rfl rfl rfl ?_
  refine rOk (d := 14) (x := vB true) rfl rfl rfl ?_
  refine rOk (d := 5) (x := vS ((cutL 10 r).1)) rfl rfl rfl ?_
  refine rOk (d := 6) (x := vS ((cutL 10 r).2.1)) rfl rfl rfl ?_
  refine rOk (d := 7) (x := vB true) rfl rfl rfl ?_
  refine rEnd (n' := 12) rfl ?_
  refine cSeq ?_
  refine cReg rfl ?_
  refine rOk (d := 15) (x := vS ((cutL 10 r).2.1)) rfl rfl rfl ?_
  refine rFx0 (h' := upd _ 1 (some (.box [vS ((cutL 10 r).2.1)]))) rfl rfl (rfl) (trivial) ?_
  refine rEnd (n' := 14) rfl ?_
  refine cSeq ?_
  refine cReg rfl ?_
  refine rOk (d := 16) (x := vS ((cutL 10 r).1)) rfl rfl rfl ?_
  obtain ⟨w0, t, hwt⟩ := split_cons 32 (cutL 10 r).1
  have hcl := cut_le 10 r
  have hsl := split_len 32 (cutL 10 r).1
  have hws := hwt
  rw [hwt] at hsl
  have ht0 : (w0 :: t).length ≤ 900000 := by omega
  have hw0 : ∀ x ∈ w0 :: t, x.length ≤ 900000 := fun x hx => by have := hsl.2 x hx; omega
  have ht : t.length ≤ 900000 := Nat.le_trans (Nat.le_succ _) ht0
  have hw : ∀ x ∈ t, x.length ≤ 900000 := fun x hx => hw0 x (List.mem_cons_of_mem _ hx)
  have hN2 : ¬ w0 = nameL k := by rw [hwt] at hN; exact hN
  refine rCall (args := [vS ((cutL 10 r).1), .v (.string (⟨#[32]⟩ : ByteArray))]) (d := 17) (x := .sl 1 ((w0 :: t).map rowS) false) rfl rfl rfl rfl (.inl rfl) rfl (hwt ▸ L.split (cutL 10 r).1 (by omega)) ?_
  refine rOk (d := 8) (x := .sl 1 ((w0 :: t).map rowS) false) rfl rfl rfl ?_
  refine rEnd (n' := 17) rfl ?_
  refine cSeq ?_
  refine cReg rfl ?_
  refine rOk (d := 18) (x := vB true) rfl rfl rfl ?_
  refine rOk (d := 19) (x := vB true) rfl rfl rfl ?_
  refine gOk (d := 20) (x := .sl 1 ((w0 :: t).map rowS) false) (g := true) rfl rfl rfl rfl rfl rfl ?_
  refine gIdxS (rowS w0) (d := 21) (x := .dp 1 0 (rowS w0)) (g := true) rfl rfl rfl rfl (fun h => h) rfl rfl (fun hg => ⟨by decide, getM (l := w0 :: t) (k := 0) rfl⟩) rfl ?_
  refine gOkS (d := 22) (x := vS w0) (g := true) rfl rfl rfl rfl (fun h => h) rfl rfl ?_
  refine gOk (d := 23) (x := vN k) (g := true) rfl rfl rfl rfl rfl rfl ?_
  refine gCallS (args := [vN k]) (d := 24) (x := vS (nameL k)) (g := true) rfl rfl rfl rfl (fun h => h) rfl rfl rfl (.inl rfl) rfl (fun hg => dName k hk) ?_
  refine gOkS (d := 25) (x := vB false) (g := true) rfl rfl rfl rfl (fun h => by first | (simp_all; done) | exact (Bool.and_eq_true_iff.1 h).1 | exact Bool.and_eq_true_iff.2 ⟨h, h⟩) rfl (okBo ((eq_tL w0 (nameL k)).trans (decide_eq_false hN2))) ?_
  refine rNeed (d := 26) (x := vB (cond2 true false false)) rfl rfl rfl (fun h => h) ?_
  refine rOk (d := 27) (x := vB (cond2 true false false)) rfl rfl rfl ?_
  refine gOk (d := 28) (x := vN k) (g := cond2 true false false) rfl rfl rfl rfl rfl rfl ?_
  refine gOk (d := 29) (x := .sl 1 ((w0 :: t).map rowS) false) (g := cond2 true false false) rfl rfl rfl rfl rfl rfl ?_
  refine gNeedS (d := 30) (x := .sl 1 (t.map rowS) (false && true)) (g := cond2 true false false) rfl rfl rfl rfl (fun h => h) rfl (needS (sliceL rowS (w0 :: t) 1)) (fun hg => Bool.noConfusion hg) ?_
  refine gCallS (args := [.ptr 0 0, vN k, .sl 1 (t.map rowS) (false && true)]) (d := 31) (x := vB false) (g := cond2 true false false) rfl rfl rfl rfl (fun h => by first | (simp_all; done) | exact (Bool.and_eq_true_iff.1 h).1 | exact Bool.and_eq_true_iff.2 ⟨h, h⟩) rfl rfl rfl (.inr ⟨rfl, (by repeat' (first | exact trivial | constructor))⟩) rfl (fun hg => Bool.noConfusion hg) ?_
  refine rNeed (d := 32) (x := vB (cond2 (cond2 true false false) false false)) rfl rfl rfl (fun h => h) ?_
  refine rOk (d := 33) (x := vB (cond2 (cond2 true false false) false false)) rfl rfl rfl ?_
  refine gOk (d := 34) (x := .agg [vI p.mode, vI p.width, vI p.rob, vI p.queue, vI p.stores, vI p.slots, vI p.sets, vI p.ways, .sl 1 (p.lat.map rowI) (fl 9 k p.lat), vB p.tables, .sl 1 (p.tape.map rowU) (fl 10 k p.tape), .sl 1 (p.prog.map rowU) (fl 11 k p.prog), vS p.mem, vI p.cycles]) (g := cond2 (cond2 true false false) false false) rfl rfl rfl rfl rfl rfl ?_
  refine gCallS (args := [.agg [vI p.mode, vI p.width, vI p.rob, vI p.queue, vI p.stores, vI p.slots, vI p.sets, vI p.ways, .sl 1 (p.lat.map rowI) (fl 9 k p.lat), vB p.tables, .sl 1 (p.tape.map rowU) (fl 10 k p.tape), .sl 1 (p.prog.map rowU) (fl 11 k p.prog), vS p.mem, vI p.cycles]]) (d := 35) (x := vB false) (g := cond2 (cond2 true false false) false false) rfl rfl rfl rfl (fun h => h) rfl rfl rfl (.inl rfl) rfl (fun hg => Bool.noConfusion hg) ?_
  refine rNeed (d := 36) (x := vB (cond2 (cond2 (cond2 true false false) false false) false false)) rfl rfl rfl (fun h => h) ?_
  refine rOk (d := 4) (x := vB (cond2 (cond2 (cond2 true false false) false false) false false)) rfl rfl rfl ?_
  refine rEnd (n' := 37) rfl ?_
  refine cRet ?_
  exact finH (rs := [vB false]) rfl (r := vB false) (h' := heapF [(0, .box (planL p (fl 9 k p.lat) (fl 10 k p.tape) (fl 11 k p.prog))), (1, .box [vS (cutL 10 r).2.1])]) (σ := fun z => z) (.inr ⟨.inr (stepM_name hN), rfl, _, _, _, _, rfl⟩) rfl (weak_ret (fun z => z) rfl rfl ⟨⟨rfl, rfl, rfl⟩, ⟨rfl, rfl, rfl⟩, trivial⟩ rfl)

end Go.Proofs.YtpefnjbmbfdmmaaDoor
