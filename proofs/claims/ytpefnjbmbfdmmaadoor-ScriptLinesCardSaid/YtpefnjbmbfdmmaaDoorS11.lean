/- Joined texts. -/
import Derived.Test.YtpefnjbmbfdmmaaDoorS7
import Derived.Test.YtpefnjbmbfdmmaaDoorS10
namespace Go.Proofs.YtpefnjbmbfdmmaaDoor
set_option maxRecDepth 100000
set_option maxHeartbeats 4000000
open Go.RowKit Go.Lib
theorem hLine_2 (L : LibS) (p : ScPlan) (r : W) (k : Nat) (hk : k < 14) (hp : p.ok) (hr : r.length ≤ 100000) (hE : (cutL 10 r).2.2 = true) (hN : (splitL 32 (cutL 10 r).1).headD [] = nameL k)  : HSem C0.P C0.G 20 [vN k, .ptr 1 0, .ptr 0 0] (heapF [(0, .box (planF p k)), (1, .box [vS r])]) 2 (LineP p r k) := by
  refine HCall.intro (C := C0) (s := 2) c0Ok.at Tryd.func20 rfl rfl (by kernel_rfl) rfl rfl <| cSeq <| cReg rfl <| oR 1 rfl <| rE 3 <| cSeq <| cReg rfl <| oR 1 rfl <| rCl (x := .tup [vS ((cutL 10 r).1), vS ((cutL 10 r).2.1), vB true]) rfl (.inl rfl) ((show AV.tup [vS (cutL 10 r).1, vS (cutL 10 r).2.1, vB (cutL 10 r).2.2] = .tup [vS (cutL 10 r).1, vS (cutL 10 r).2.1, vB true] from by rw [hE]) ▸ L.cut r (by omega)) <| oR 7 rfl <| rE 12 <| cSeq <| cReg rfl <| oR 1 rfl <| rSt rfl <| rE 14 ?_
  refine cSeq <| cReg rfl <| oR 1 rfl ?_
  obtain ⟨w0, t, hwt⟩ := split_cons 32 (cutL 10 r).1
  have hcl := cut_le 10 r
  have hsl := split_len 32 (cutL 10 r).1
  have hws := hwt
  rw [hwt] at hsl
  have ht0 : (w0 :: t).length ≤ 900000 := by omega
  have hw0 : ∀ x ∈ w0 :: t, x.length ≤ 900000 := fun x hx => by have := hsl.2 x hx; omega
  have ht : t.length ≤ 900000 := Nat.le_trans (Nat.le_succ _) ht0
  have hw : ∀ x ∈ t, x.length ≤ 900000 := fun x hx => hw0 x (List.mem_cons_of_mem _ hx)
  have hN2 : w0 = nameL k := by rw [hwt] at hN; exact hN
  refine rCl rfl (.inl rfl) (hwt ▸ L.split (cutL 10 r).1 (by omega)) <| oR 1 rfl <| rE 17 <| cSeq <| cAny ?_
  refine aGo [0] (by kernel_rfl) rfl ⟨?_, trivial⟩
  refine sOk (b := false) (d := 18) (x := vB true) rfl (by kernel_rfl) rfl rfl rfl ?_
  refine aGo [1] (by kernel_rfl) rfl ⟨?_, trivial⟩
  refine sOk (b := false) (d := 19) (x := vB true) rfl (by kernel_rfl) rfl rfl rfl ?_
  refine aGo [2, 5] (by kernel_rfl) rfl ⟨?_, ?_, trivial⟩
  · refine sgOk (b := false) (d := 20) (x := .sl 1 ((w0 :: t).map rowS) false) rfl (by kernel_rfl) rfl rfl rfl rfl rfl rfl ?_
    refine aGo [3, 5] (by kernel_rfl) rfl ⟨?_, ?_, trivial⟩
    · refine sgIdx (b := false) (rowS w0) (d := 21) (x := .dp 1 0 (rowS w0)) rfl (by kernel_rfl) rfl rfl rfl rfl rfl rfl (⟨by decide, getM (l := w0 :: t) (k := 0) rfl⟩) rfl ?_
      refine aGo [4, 5] (by kernel_rfl) rfl ⟨?_, ?_, trivial⟩
      · refine sgOk (b := false) (d := 22) (x := vS w0) rfl (by kernel_rfl) rfl rfl rfl rfl rfl rfl ?_
        refine aGo [5] (by kernel_rfl) rfl ⟨?_, trivial⟩
        refine sgOk (b := false) (d := 23) (x := vN k) rfl (by kernel_rfl) rfl rfl rfl rfl rfl rfl ?_
        refine aGo [6] (by kernel_rfl) rfl ⟨?_, trivial⟩
        refine sgCall (b := false) (args := [vN k]) (d := 24) (x := vS (nameL k)) rfl (by kernel_rfl) rfl rfl rfl rfl rfl rfl rfl (.inl rfl) rfl (dName k hk) ?_
        refine aGo [7] (by kernel_rfl) rfl ⟨?_, trivial⟩
        refine sgOk (b := false) (d := 25) (x := vB true) rfl (by kernel_rfl) rfl rfl rfl rfl rfl (okBo ((eq_tL w0 (nameL k)).trans (decide_eq_true hN2))) ?_
        refine aGo [8] (by kernel_rfl) rfl ⟨?_, trivial⟩
        refine sOk (b := false) (d := 26) (x := vB (cond2 true true false)) rfl (by kernel_rfl) rfl rfl rfl ?_
        refine aGo [9] (by kernel_rfl) rfl ⟨?_, trivial⟩
        refine sOk (b := false) (d := 27) (x := vB (cond2 true true false)) rfl (by kernel_rfl) rfl rfl rfl ?_
        refine aGo [10, 11] (by kernel_rfl) rfl ⟨?_, ?_, trivial⟩
        · refine sgOk (b := false) (d := 28) (x := vN k) rfl (by kernel_rfl) rfl rfl rfl rfl rfl rfl ?_
          refine aGo [11] (by kernel_rfl) rfl ⟨?_, trivial⟩
          refine sgOk (b := false) (d := 29) (x := .sl 1 ((w0 :: t).map rowS) false) rfl (by kernel_rfl) rfl rfl rfl rfl rfl rfl ?_
          refine aGo [12] (by kernel_rfl) rfl ⟨?_, trivial⟩
          refine sgNeed (b := false) (d := 30) (x := .sl 1 (t.map rowS) (false && true)) rfl (by kernel_rfl) rfl rfl rfl rfl rfl (needS (sliceL rowS (w0 :: t) 1)) (by refine ⟨?_, ?_, ?_⟩; all_goals (first | decide | (apply Int.ofNat_le.2; exact omT))) ?_
          refine aGo [13] (by kernel_rfl) rfl ⟨?_, trivial⟩
          refine sgH (args := [.ptr 0 0, vN k, .sl 1 (t.map rowS) (false && true)]) (d := 31) _ rfl rfl rfl rfl rfl rfl rfl (by kernel_rfl) (readAt L.ix hk ht hw rfl rfl) ?_
          rintro _ _ (⟨q, hq, rfl, rfl⟩ | ⟨hq, rfl, q, a2, b2, c2, rfl⟩)
          · have hqo := readM_ok hp ht hw hq
            refine aGo [14] (by kernel_rfl) rfl ⟨?_, trivial⟩
            refine sOk (b := false) (d := 32) (x := vB (cond2 (cond2 true true false) true false)) rfl (by kernel_rfl) rfl rfl rfl ?_
            refine aGo [15] (by kernel_rfl) rfl ⟨?_, trivial⟩
            refine sOk (b := false) (d := 33) (x := vB (cond2 (cond2 true true false) true false)) rfl (by kernel_rfl) rfl rfl rfl ?_
            refine aGo [16] (by kernel_rfl) rfl ⟨?_, trivial⟩
            refine sgOk (b := false) (d := 34) (x := .agg [vI q.mode, vI q.width, vI q.rob, vI q.queue, vI q.stores, vI q.slots, vI q.sets, vI q.ways, .sl 1 (q.lat.map rowI) (fl 9 (k + 1) q.lat), vB q.tables, .sl 1 (q.tape.map rowU) (fl 10 (k + 1) q.tape), .sl 1 (q.prog.map rowU) (fl 11 (k + 1) q.prog), vS q.mem, vI q.cycles]) rfl (by kernel_rfl) rfl rfl rfl rfl rfl rfl ?_
            refine aGo [17] (by kernel_rfl) rfl ⟨?_, trivial⟩
            refine sgCall (b := false) (args := [.agg [vI q.mode, vI q.width, vI q.rob, vI q.queue, vI q.stores, vI q.slots, vI q.sets, vI q.ways, .sl 1 (q.lat.map rowI) (fl 9 (k + 1) q.lat), vB q.tables, .sl 1 (q.tape.map rowU) (fl 10 (k + 1) q.tape), .sl 1 (q.prog.map rowU) (fl 11 (k + 1) q.prog), vS q.mem, vI q.cycles]]) (d := 35) (x := vB (rightP q)) rfl (by kernel_rfl) rfl rfl rfl rfl rfl rfl rfl (.inl rfl) rfl (dRight q _ _ _ hqo) ?_
            refine aGo [18] (by kernel_rfl) rfl ⟨?_, trivial⟩
            refine sOk (b := false) (d := 36) (x := vB (cond2 (cond2 (cond2 true true false) true false) (rightP q) false)) rfl (by kernel_rfl) rfl rfl rfl ?_
            refine aGo [19] (by kernel_rfl) rfl ⟨?_, trivial⟩
            refine sOk (b := false) (d := 4) (x := vB (cond2 (cond2 (cond2 true true false) true false) (rightP q) false)) rfl (by kernel_rfl) rfl rfl rfl <| aEnd (n' := 37) (by kernel_rfl) rfl <| cRet ?_
            have hst := stepM_right hws hN2 hq hqo
            rcases hR : rightP q with _ | _
            · rw [hR] at hst; exact finH (rs := [vB false]) rfl (r := vB false) (h' := heapF [(0, .box (planL q (fl 9 (k + 1) q.lat) (fl 10 (k + 1) q.tape) (fl 11 (k + 1) q.prog))), (1, .box [vS (cutL 10 r).2.1])]) (σ := fun z => z) (.inr ⟨.inr hst, rfl, _, _, _, _, rfl⟩) rfl (weak_ret (fun z => z) rfl rfl wH rfl)
            · rw [hR] at hst; exact finH (rs := [vB true]) rfl (r := vB true) (h' := heapF [(0, .box (planL q (fl 9 (k + 1) q.lat) (fl 10 (k + 1) q.tape) (fl 11 (k + 1) q.prog))), (1, .box [vS (cutL 10 r).2.1])]) (σ := fun z => z) (.inl ⟨q, ⟨hE, hst, hqo⟩, rfl, rfl⟩) rfl (weak_ret (fun z => z) rfl rfl wH rfl)
          · refine aGo [14] (by kernel_rfl) rfl ⟨?_, trivial⟩
            refine sOk (b := false) (d := 32) (x := vB (cond2 (cond2 true true false) false false)) rfl (by kernel_rfl) rfl rfl rfl ?_
            refine aGo [15] (by kernel_rfl) rfl ⟨?_, trivial⟩
            refine sOk (b := false) (d := 33) (x := vB (cond2 (cond2 true true false) false false)) rfl (by kernel_rfl) rfl rfl rfl ?_
            refine aGo [16] (by kernel_rfl) rfl ⟨?_, trivial⟩
            refine sfOk (b := false) (d := 34) (x := .agg [vI q.mode, vI q.width, vI q.rob, vI q.queue, vI q.stores, vI q.slots, vI q.sets, vI q.ways, .sl 1 (q.lat.map rowI) a2, vB q.tables, .sl 1 (q.tape.map rowU) b2, .sl 1 (q.prog.map rowU) c2, vS q.mem, vI q.cycles]) rfl (by kernel_rfl) rfl rfl rfl rfl rfl rfl ?_
            refine aGo [17] (by kernel_rfl) rfl ⟨?_, trivial⟩
            refine sfCallS (b := false) (args := [.agg [vI q.mode, vI q.width, vI q.rob, vI q.queue, vI q.stores, vI q.slots, vI q.sets, vI q.ways, .sl 1 (q.lat.map rowI) a2, vB q.tables, .sl 1 (q.tape.map rowU) b2, .sl 1 (q.prog.map rowU) c2, vS q.mem, vI q.cycles]]) (d := 35) (x := vB (rightP q)) rfl (by kernel_rfl) rfl rfl rfl rfl rfl rfl rfl (.inl rfl) rfl ?_
            refine aGo [18] (by kernel_rfl) rfl ⟨?_, trivial⟩
            refine sNeed (b := false) (d := 36) (x := vB (cond2 (cond2 (cond2 true true false) false false) (rightP q) false)) rfl (by kernel_rfl) rfl rfl rfl (fun h => h) ?_
            refine aGo [19] (by kernel_rfl) rfl ⟨?_, trivial⟩
            refine sOk (b := false) (d := 4) (x := vB (cond2 (cond2 (cond2 true true false) false false) (rightP q) false)) rfl (by kernel_rfl) rfl rfl rfl <| aEnd (n' := 37) (by kernel_rfl) rfl <| cRet ?_
            exact finH (rs := [vB false]) rfl (r := vB false) (h' := heapF [(0, .box (planL q a2 b2 c2)), (1, .box [vS (cutL 10 r).2.1])]) (σ := fun z => z) (.inr ⟨.inr (stepM_read hws hq), rfl, _, _, _, _, rfl⟩) rfl (weak_ret (fun z => z) rfl rfl wH rfl)
        · refine sgOk (b := false) (d := 29) (x := .sl 1 ((w0 :: t).map rowS) false) rfl (by kernel_rfl) rfl rfl rfl rfl rfl rfl ?_
          refine aGo [10, 12] (by kernel_rfl) rfl ⟨?_, ?_, trivial⟩
          · refine sgOk (b := true) (d := 28) (x := vN k) rfl (by kernel_rfl) rfl rfl rfl rfl rfl rfl ?_
            refine aGo [12] (by kernel_rfl) rfl ⟨?_, trivial⟩
            refine sgNeed (b := false) (d := 30) (x := .sl 1 (t.map rowS) (false && true)) rfl (by kernel_rfl) rfl rfl rfl rfl rfl (needS (sliceL rowS (w0 :: t) 1)) (by refine ⟨?_, ?_, ?_⟩; all_goals (first | decide | (apply Int.ofNat_le.2; exact omT))) ?_
            refine aGo [13] (by kernel_rfl) rfl ⟨?_, trivial⟩
            refine sgH (args := [.ptr 0 0, vN k, .sl 1 (t.map rowS) (false && true)]) (d := 31) _ rfl rfl rfl rfl rfl rfl rfl (by kernel_rfl) (readAt L.ix hk ht hw rfl rfl) ?_
            rintro _ _ (⟨q, hq, rfl, rfl⟩ | ⟨hq, rfl, q, a2, b2, c2, rfl⟩)
            · have hqo := readM_ok hp ht hw hq
              refine aGo [14] (by kernel_rfl) rfl ⟨?_, trivial⟩
              refine sOk (b := false) (d := 32) (x := vB (cond2 (cond2 true true false) true false)) rfl (by kernel_rfl) rfl rfl rfl ?_
              refine aGo [15] (by kernel_rfl) rfl ⟨?_, trivial⟩
              refine sOk (b := false) (d := 33) (x := vB (cond2 (cond2 true true false) true false)) rfl (by kernel_rfl) rfl rfl rfl ?_
              refine aGo [16] (by kernel_rfl) rfl ⟨?_, trivial⟩
              refine sgOk (b := false) (d := 34) (x := .agg [vI q.mode, vI q.width, vI q.rob, vI q.queue, vI q.stores, vI q.slots, vI q.sets, vI q.ways, .sl 1 (q.lat.map rowI) (fl 9 (k + 1) q.lat), vB q.tables, .sl 1 (q.tape.map rowU) (fl 10 (k + 1) q.tape), .sl 1 (q.prog.map rowU) (fl 11 (k + 1) q.prog), vS q.mem, vI q.cycles]) rfl (by kernel_rfl) rfl rfl rfl rfl rfl rfl ?_
              refine aGo [17] (by kernel_rfl) rfl ⟨?_, trivial⟩
              refine sgCall (b := false) (args := [.agg [vI q.mode, vI q.width, vI q.rob, vI q.queue, vI q.stores, vI q.slots, vI q.sets, vI q.ways, .sl 1 (q.lat.map rowI) (fl 9 (k + 1) q.lat), vB q.tables, .sl 1 (q.tape.map rowU) (fl 10 (k + 1) q.tape), .sl 1 (q.prog.map rowU) (fl 11 (k + 1) q.prog), vS q.mem, vI q.cycles]]) (d := 35) (x := vB (rightP q)) rfl (by kernel_rfl) rfl rfl rfl rfl rfl rfl rfl (.inl rfl) rfl (dRight q _ _ _ hqo) ?_
              refine aGo [18] (by kernel_rfl) rfl ⟨?_, trivial⟩
              refine sOk (b := false) (d := 36) (x := vB (cond2 (cond2 (cond2 true true false) true false) (rightP q) false)) rfl (by kernel_rfl) rfl rfl rfl ?_
              refine aGo [19] (by kernel_rfl) rfl ⟨?_, trivial⟩
              refine sOk (b := false) (d := 4) (x := vB (cond2 (cond2 (cond2 true true false) true false) (rightP q) false)) rfl (by kernel_rfl) rfl rfl rfl <| aEnd (n' := 37) (by kernel_rfl) rfl <| cRet ?_
              have hst := stepM_right hws hN2 hq hqo
              rcases hR : rightP q with _ | _
              · rw [hR] at hst; exact finH (rs := [vB false]) rfl (r := vB false) (h' := heapF [(0, .box (planL q (fl 9 (k + 1) q.lat) (fl 10 (k + 1) q.tape) (fl 11 (k + 1) q.prog))), (1, .box [vS (cutL 10 r).2.1])]) (σ := fun z => z) (.inr ⟨.inr hst, rfl, _, _, _, _, rfl⟩) rfl (weak_ret (fun z => z) rfl rfl wH rfl)
              · rw [hR] at hst; exact finH (rs := [vB true]) rfl (r := vB true) (h' := heapF [(0, .box (planL q (fl 9 (k + 1) q.lat) (fl 10 (k + 1) q.tape) (fl 11 (k + 1) q.prog))), (1, .box [vS (cutL 10 r).2.1])]) (σ := fun z => z) (.inl ⟨q, ⟨hE, hst, hqo⟩, rfl, rfl⟩) rfl (weak_ret (fun z => z) rfl rfl wH rfl)
            · refine aGo [14] (by kernel_rfl) rfl ⟨?_, trivial⟩
              refine sOk (b := false) (d := 32) (x := vB (cond2 (cond2 true true false) false false)) rfl (by kernel_rfl) rfl rfl rfl ?_
              refine aGo [15] (by kernel_rfl) rfl ⟨?_, trivial⟩
              refine sOk (b := false) (d := 33) (x := vB (cond2 (cond2 true true false) false false)) rfl (by kernel_rfl) rfl rfl rfl ?_
              refine aGo [16] (by kernel_rfl) rfl ⟨?_, trivial⟩
              refine sfOk (b := false) (d := 34) (x := .agg [vI q.mode, vI q.width, vI q.rob, vI q.queue, vI q.stores, vI q.slots, vI q.sets, vI q.ways, .sl 1 (q.lat.map rowI) a2, vB q.tables, .sl 1 (q.tape.map rowU) b2, .sl 1 (q.prog.map rowU) c2, vS q.mem, vI q.cycles]) rfl (by kernel_rfl) rfl rfl rfl rfl rfl rfl ?_
              refine aGo [17] (by kernel_rfl) rfl ⟨?_, trivial⟩
              refine sfCallS (b := false) (args := [.agg [vI q.mode, vI q.width, vI q.rob, vI q.queue, vI q.stores, vI q.slots, vI q.sets, vI q.ways, .sl 1 (q.lat.map rowI) a2, vB q.tables, .sl 1 (q.tape.map rowU) b2, .sl 1 (q.prog.map rowU) c2, vS q.mem, vI q.cycles]]) (d := 35) (x := vB (rightP q)) rfl (by kernel_rfl) rfl rfl rfl rfl rfl rfl rfl (.inl rfl) rfl ?_
              refine aGo [18] (by kernel_rfl) rfl ⟨?_, trivial⟩
              refine sNeed (b := false) (d := 36) (x := vB (cond2 (cond2 (cond2 true true false) false false) (rightP q) false)) rfl (by kernel_rfl) rfl rfl rfl (fun h => h) ?_
              refine aGo [19] (by kernel_rfl) rfl ⟨?_, trivial⟩
              refine sOk (b := false) (d := 4) (x := vB (cond2 (cond2 (cond2 true true false) false false) (rightP q) false)) rfl (by kernel_rfl) rfl rfl rfl <| aEnd (n' := 37) (by kernel_rfl) rfl <| cRet ?_
              exact finH (rs := [vB false]) rfl (r := vB false) (h' := heapF [(0, .box (planL q a2 b2 c2)), (1, .box [vS (cutL 10 r).2.1])]) (σ := fun z => z) (.inr ⟨.inr (stepM_read hws hq), rfl, _, _, _, _, rfl⟩) rfl (weak_ret (fun z => z) rfl rfl wH rfl)
          · refine sgNeed (b := false) (d := 30) (x := .sl 1 (t.map rowS) (false && true)) rfl (by kernel_rfl) rfl rfl rfl rfl rfl (needS (sliceL rowS (w0 :: t) 1)) (by refine ⟨?_, ?_, ?_⟩; all_goals (first | decide | (apply Int.ofNat_le.2; exact omT))) ?_
            refine aGo [10] (by kernel_rfl) rfl ⟨?_, trivial⟩
            refine sgOk (b := true) (d := 28) (x := vN k) rfl (by kernel_rfl) rfl rfl rfl rfl rfl rfl ?_
            refine aGo [13] (by kernel_rfl) rfl ⟨?_, trivial⟩
            refine sgH (args := [.ptr 0 0, vN k, .sl 1 (t.map rowS) (false && true)]) (d := 31) _ rfl rfl rfl rfl rfl rfl rfl (by kernel_rfl) (readAt L.ix hk ht hw rfl rfl) ?_
            rintro _ _ (⟨q, hq, rfl, rfl⟩ | ⟨hq, rfl, q, a2, b2, c2, rfl⟩)
            · have hqo := readM_ok hp ht hw hq
              refine aGo [14] (by kernel_rfl) rfl ⟨?_, trivial⟩
              refine sOk (b := false) (d := 32) (x := vB (cond2 (cond2 true true false) true false)) rfl (by kernel_rfl) rfl rfl rfl ?_
              refine aGo [15] (by kernel_rfl) rfl ⟨?_, trivial⟩
              refine sOk (b := false) (d := 33) (x := vB (cond2 (cond2 true true false) true false)) rfl (by kernel_rfl) rfl rfl rfl ?_
              refine aGo [16] (by kernel_rfl) rfl ⟨?_, trivial⟩
              refine sgOk (b := false) (d := 34) (x := .agg [vI q.mode, vI q.width, vI q.rob, vI q.queue, vI q.stores, vI q.slots, vI q.sets, vI q.ways, .sl 1 (q.lat.map rowI) (fl 9 (k + 1) q.lat), vB q.tables, .sl 1 (q.tape.map rowU) (fl 10 (k + 1) q.tape), .sl 1 (q.prog.map rowU) (fl 11 (k + 1) q.prog), vS q.mem, vI q.cycles]) rfl (by kernel_rfl) rfl rfl rfl rfl rfl rfl ?_
              refine aGo [17] (by kernel_rfl) rfl ⟨?_, trivial⟩
              refine sgCall (b := false) (args := [.agg [vI q.mode, vI q.width, vI q.rob, vI q.queue, vI q.stores, vI q.slots, vI q.sets, vI q.ways, .sl 1 (q.lat.map rowI) (fl 9 (k + 1) q.lat), vB q.tables, .sl 1 (q.tape.map rowU) (fl 10 (k + 1) q.tape), .sl 1 (q.prog.map rowU) (fl 11 (k + 1) q.prog), vS q.mem, vI q.cycles]]) (d := 35) (x := vB (rightP q)) rfl (by kernel_rfl) rfl rfl rfl rfl rfl rfl rfl (.inl rfl) rfl (dRight q _ _ _ hqo) ?_
              refine aGo [18] (by kernel_rfl) rfl ⟨?_, trivial⟩
              refine sOk (b := false) (d := 36) (x := vB (cond2 (cond2 (cond2 true true false) true false) (rightP q) false)) rfl (by kernel_rfl) rfl rfl rfl ?_
              refine aGo [19] (by kernel_rfl) rfl ⟨?_, trivial⟩
              refine sOk (b := false) (d := 4) (x := vB (cond2 (cond2 (cond2 true true false) true false) (rightP q) false)) rfl (by kernel_rfl) rfl rfl rfl <| aEnd (n' := 37) (by kernel_rfl) rfl <| cRet ?_
              have hst := stepM_right hws hN2 hq hqo
              rcases hR : rightP q with _ | _
              · rw [hR] at hst; exact finH (rs := [vB false]) rfl (r := vB false) (h' := heapF [(0, .box (planL q (fl 9 (k + 1) q.lat) (fl 10 (k + 1) q.tape) (fl 11 (k + 1) q.prog))), (1, .box [vS (cutL 10 r).2.1])]) (σ := fun z => z) (.inr ⟨.inr hst, rfl, _, _, _, _, rfl⟩) rfl (weak_ret (fun z => z) rfl rfl wH rfl)
              · rw [hR] at hst; exact finH (rs := [vB true]) rfl (r := vB true) (h' := heapF [(0, .box (planL q (fl 9 (k + 1) q.lat) (fl 10 (k + 1) q.tape) (fl 11 (k + 1) q.prog))), (1, .box [vS (cutL 10 r).2.1])]) (σ := fun z => z) (.inl ⟨q, ⟨hE, hst, hqo⟩, rfl, rfl⟩) rfl (weak_ret (fun z => z) rfl rfl wH rfl)
            · refine aGo [14] (by kernel_rfl) rfl ⟨?_, trivial⟩
              refine sOk (b := false) (d := 32) (x := vB (cond2 (cond2 true true false) false false)) rfl (by kernel_rfl) rfl rfl rfl ?_
              refine aGo [15] (by kernel_rfl) rfl ⟨?_, trivial⟩
              refine sOk (b := false) (d := 33) (x := vB (cond2 (cond2 true true false) false false)) rfl (by kernel_rfl) rfl rfl rfl ?_
              refine aGo [16] (by kernel_rfl) rfl ⟨?_, trivial⟩
              refine sfOk (b := false) (d := 34) (x := .agg [vI q.mode, vI q.width, vI q.rob, vI q.queue, vI q.stores, vI q.slots, vI q.sets, vI q.ways, .sl 1 (q.lat.map rowI) a2, vB q.tables, .sl 1 (q.tape.map rowU) b2, .sl 1 (q.prog.map rowU) c2, vS q.mem, vI q.cycles]) rfl (by kernel_rfl) rfl rfl rfl rfl rfl rfl ?_
              refine aGo [17] (by kernel_rfl) rfl ⟨?_, trivial⟩
              refine sfCallS (b := false) (args := [.agg [vI q.mode, vI q.width, vI q.rob, vI q.queue, vI q.stores, vI q.slots, vI q.sets, vI q.ways, .sl 1 (q.lat.map rowI) a2, vB q.tables, .sl 1 (q.tape.map rowU) b2, .sl 1 (q.prog.map rowU) c2, vS q.mem, vI q.cycles]]) (d := 35) (x := vB (rightP q)) rfl (by kernel_rfl) rfl rfl rfl rfl rfl rfl rfl (.inl rfl) rfl ?_
              refine aGo [18] (by kernel_rfl) rfl ⟨?_, trivial⟩
              refine sNeed (b := false) (d := 36) (x := vB (cond2 (cond2 (cond2 true true false) false false) (rightP q) false)) rfl (by kernel_rfl) rfl rfl rfl (fun h => h) ?_
              refine aGo [19] (by kernel_rfl) rfl ⟨?_, trivial⟩
              refine sOk (b := false) (d := 4) (x := vB (cond2 (cond2 (cond2 true true false) false false) (rightP q) false)) rfl (by kernel_rfl) rfl rfl rfl <| aEnd (n' := 37) (by kernel_rfl) rfl <| cRet ?_
              exact finH (rs := [vB false]) rfl (r := vB false) (h' := heapF [(0, .box (planL q a2 b2 c2)), (1, .box [vS (cutL 10 r).2.1])]) (σ := fun z => z) (.inr ⟨.inr (stepM_read hws hq), rfl, _, _, _, _, rfl⟩) rfl (weak_ret (fun z => z) rfl rfl wH rfl)
      · refine sgOk (b := false) (d := 23) (x := vN k) rfl (by kernel_rfl) rfl rfl rfl rfl rfl rfl ?_
        refine aGo [4, 6] (by kernel_rfl) rfl ⟨?_, ?_, trivial⟩
        · refine sgOk (b := true) (d := 22) (x := vS w0) rfl (by kernel_rfl) rfl rfl rfl rfl rfl rfl ?_
          refine aGo [6] (by kernel_rfl) rfl ⟨?_, trivial⟩
          refine sgCall (b := false) (args := [vN k]) (d := 24) (x := vS (nameL k)) rfl (by kernel_rfl) rfl rfl rfl rfl rfl rfl rfl (.inl rfl) rfl (dName k hk) ?_
          refine aGo [7] (by kernel_rfl) rfl ⟨?_, trivial⟩
          refine sgOk (b := false) (d := 25) (x := vB true) rfl (by kernel_rfl) rfl rfl rfl rfl rfl (okBo ((eq_tL w0 (nameL k)).trans (decide_eq_true hN2))) ?_
          refine aGo [8] (by kernel_rfl) rfl ⟨?_, trivial⟩
          refine sOk (b := false) (d := 26) (x := vB (cond2 true true false)) rfl (by kernel_rfl) rfl rfl rfl ?_
          refine aGo [9] (by kernel_rfl) rfl ⟨?_, trivial⟩
          refine sOk (b := false) (d := 27) (x := vB (cond2 true true false)) rfl (by kernel_rfl) rfl rfl rfl ?_
          refine aGo [10, 11] (by kernel_rfl) rfl ⟨?_, ?_, trivial⟩
          · refine sgOk (b := false) (d := 28) (x := vN k) rfl (by kernel_rfl) rfl rfl rfl rfl rfl rfl ?_
            refine aGo [11] (by kernel_rfl) rfl ⟨?_, trivial⟩
            refine sgOk (b := false) (d := 29) (x := .sl 1 ((w0 :: t).map rowS) false) rfl (by kernel_rfl) rfl rfl rfl rfl rfl rfl ?_
            refine aGo [12] (by kernel_rfl) rfl ⟨?_, trivial⟩
            refine sgNeed (b := false) (d := 30) (x := .sl 1 (t.map rowS) (false && true)) rfl (by kernel_rfl) rfl rfl rfl rfl rfl (needS (sliceL rowS (w0 :: t) 1)) (by refine ⟨?_, ?_, ?_⟩; all_goals (first | decide | (apply Int.ofNat_le.2; exact omT))) ?_
            refine aGo [13] (by kernel_rfl) rfl ⟨?_, trivial⟩
            refine sgH (args := [.ptr 0 0, vN k, .sl 1 (t.map rowS) (false && true)]) (d := 31) _ rfl rfl rfl rfl rfl rfl rfl (by kernel_rfl) (readAt L.ix hk ht hw rfl rfl) ?_
            rintro _ _ (⟨q, hq, rfl, rfl⟩ | ⟨hq, rfl, q, a2, b2, c2, rfl⟩)
            · have hqo := readM_ok hp ht hw hq
              refine aGo [14] (by kernel_rfl) rfl ⟨?_, trivial⟩
              refine sOk (b := false) (d := 32) (x := vB (cond2 (cond2 true true false) true false)) rfl (by kernel_rfl) rfl rfl rfl ?_
              refine aGo [15] (by kernel_rfl) rfl ⟨?_, trivial⟩
              refine sOk (b := false) (d := 33) (x := vB (cond2 (cond2 true true false) true false)) rfl (by kernel_rfl) rfl rfl rfl ?_
              refine aGo [16] (by kernel_rfl) rfl ⟨?_, trivial⟩
              refine sgOk (b := false) (d := 34) (x := .agg [vI q.mode, vI q.width, vI q.rob, vI q.queue, vI q.stores, vI q.slots, vI q.sets, vI q.ways, .sl 1 (q.lat.map rowI) (fl 9 (k + 1) q.lat), vB q.tables, .sl 1 (q.tape.map rowU) (fl 10 (k + 1) q.tape), .sl 1 (q.prog.map rowU) (fl 11 (k + 1) q.prog), vS q.mem, vI q.cycles]) rfl (by kernel_rfl) rfl rfl rfl rfl rfl rfl ?_
              refine aGo [17] (by kernel_rfl) rfl ⟨?_, trivial⟩
              refine sgCall (b := false) (args := [.agg [vI q.mode, vI q.width, vI q.rob, vI q.queue, vI q.stores, vI q.slots, vI q.sets, vI q.ways, .sl 1 (q.lat.map rowI) (fl 9 (k + 1) q.lat), vB q.tables, .sl 1 (q.tape.map rowU) (fl 10 (k + 1) q.tape), .sl 1 (q.prog.map rowU) (fl 11 (k + 1) q.prog), vS q.mem, vI q.cycles]]) (d := 35) (x := vB (rightP q)) rfl (by kernel_rfl) rfl rfl rfl rfl rfl rfl rfl (.inl rfl) rfl (dRight q _ _ _ hqo) ?_
              refine aGo [18] (by kernel_rfl) rfl ⟨?_, trivial⟩
              refine sOk (b := false) (d := 36) (x := vB (cond2 (cond2 (cond2 true true false) true false) (rightP q) false)) rfl (by kernel_rfl) rfl rfl rfl ?_
              refine aGo [19] (by kernel_rfl) rfl ⟨?_, trivial⟩
              refine sOk (b := false) (d := 4) (x := vB (cond2 (cond2 (cond2 true true false) true false) (rightP q) false)) rfl (by kernel_rfl) rfl rfl rfl <| aEnd (n' := 37) (by kernel_rfl) rfl <| cRet ?_
              have hst := stepM_right hws hN2 hq hqo
              rcases hR : rightP q with _ | _
              · rw [hR] at hst; exact finH (rs := [vB false]) rfl (r := vB false) (h' := heapF [(0, .box (planL q (fl 9 (k + 1) q.lat) (fl 10 (k + 1) q.tape) (fl 11 (k + 1) q.prog))), (1, .box [vS (cutL 10 r).2.1])]) (σ := fun z => z) (.inr ⟨.inr hst, rfl, _, _, _, _, rfl⟩) rfl (weak_ret (fun z => z) rfl rfl wH rfl)
              · rw [hR] at hst; exact finH (rs := [vB true]) rfl (r := vB true) (h' := heapF [(0, .box (planL q (fl 9 (k + 1) q.lat) (fl 10 (k + 1) q.tape) (fl 11 (k + 1) q.prog))), (1, .box [vS (cutL 10 r).2.1])]) (σ := fun z => z) (.inl ⟨q, ⟨hE, hst, hqo⟩, rfl, rfl⟩) rfl (weak_ret (fun z => z) rfl rfl wH rfl)
            · refine aGo [14] (by kernel_rfl) rfl ⟨?_, trivial⟩
              refine sOk (b := false) (d := 32) (x := vB (cond2 (cond2 true true false) false false)) rfl (by kernel_rfl) rfl rfl rfl ?_
              refine aGo [15] (by kernel_rfl) rfl ⟨?_, trivial⟩
              refine sOk (b := false) (d := 33) (x := vB (cond2 (cond2 true true false) false false)) rfl (by kernel_rfl) rfl rfl rfl ?_
              refine aGo [16] (by kernel_rfl) rfl ⟨?_, trivial⟩
              refine sfOk (b := false) (d := 34) (x := .agg [vI q.mode, vI q.width, vI q.rob, vI q.queue, vI q.stores, vI q.slots, vI q.sets, vI q.ways, .sl 1 (q.lat.map rowI) a2, vB q.tables, .sl 1 (q.tape.map rowU) b2, .sl 1 (q.prog.map rowU) c2, vS q.mem, vI q.cycles]) rfl (by kernel_rfl) rfl rfl rfl rfl rfl rfl ?_
              refine aGo [17] (by kernel_rfl) rfl ⟨?_, trivial⟩
              refine sfCallS (b := false) (args := [.agg [vI q.mode, vI q.width, vI q.rob, vI q.queue, vI q.stores, vI q.slots, vI q.sets, vI q.ways, .sl 1 (q.lat.map rowI) a2, vB q.tables, .sl 1 (q.tape.map rowU) b2, .sl 1 (q.prog.map rowU) c2, vS q.mem, vI q.cycles]]) (d := 35) (x := vB (rightP q)) rfl (by kernel_rfl) rfl rfl rfl rfl rfl rfl rfl (.inl rfl) rfl ?_
              refine aGo [18] (by kernel_rfl) rfl ⟨?_, trivial⟩
              refine sNeed (b := false) (d := 36) (x := vB (cond2 (cond2 (cond2 true true false) false false) (rightP q) false)) rfl (by kernel_rfl) rfl rfl rfl (fun h => h) ?_
              refine aGo [19] (by kernel_rfl) rfl ⟨?_, trivial⟩
              refine sOk (b := false) (d := 4) (x := vB (cond2 (cond2 (cond2 true true false) false false) (rightP q) false)) rfl (by kernel_rfl) rfl rfl rfl <| aEnd (n' := 37) (by kernel_rfl) rfl <| cRet ?_
              exact finH (rs := [vB false]) rfl (r := vB false) (h' := heapF [(0, .box (planL q a2 b2 c2)), (1, .box [vS (cutL 10 r).2.1])]) (σ := fun z => z) (.inr ⟨.inr (stepM_read hws hq), rfl, _, _, _, _, rfl⟩) rfl (weak_ret (fun z => z) rfl rfl wH rfl)
          · refine sgOk (b := false) (d := 29) (x := .sl 1 ((w0 :: t).map rowS) false) rfl (by kernel_rfl) rfl rfl rfl rfl rfl rfl ?_
            refine aGo [10, 12] (by kernel_rfl) rfl ⟨?_, ?_, trivial⟩
            · refine sgOk (b := true) (d := 28) (x := vN k) rfl (by kernel_rfl) rfl rfl rfl rfl rfl rfl ?_
              refine aGo [12] (by kernel_rfl) rfl ⟨?_, trivial⟩
              refine sgNeed (b := false) (d := 30) (x := .sl 1 (t.map rowS) (false && true)) rfl (by kernel_rfl) rfl rfl rfl rfl rfl (needS (sliceL rowS (w0 :: t) 1)) (by refine ⟨?_, ?_, ?_⟩; all_goals (first | decide | (apply Int.ofNat_le.2; exact omT))) ?_
              refine aGo [13] (by kernel_rfl) rfl ⟨?_, trivial⟩
              refine sgH (args := [.ptr 0 0, vN k, .sl 1 (t.map rowS) (false && true)]) (d := 31) _ rfl rfl rfl rfl rfl rfl rfl (by kernel_rfl) (readAt L.ix hk ht hw rfl rfl) ?_
              rintro _ _ (⟨q, hq, rfl, rfl⟩ | ⟨hq, rfl, q, a2, b2, c2, rfl⟩)
              · have hqo := readM_ok hp ht hw hq
                refine aGo [14] (by kernel_rfl) rfl ⟨?_, trivial⟩
                refine sOk (b := false) (d := 32) (x := vB (cond2 (cond2 true true false) true false)) rfl (by kernel_rfl) rfl rfl rfl ?_
                refine aGo [15] (by kernel_rfl) rfl ⟨?_, trivial⟩
                refine sOk (b := false) (d := 33) (x := vB (cond2 (cond2 true true false) true false)) rfl (by kernel_rfl) rfl rfl rfl ?_
                refine aGo [16] (by kernel_rfl) rfl ⟨?_, trivial⟩
                refine sgOk (b := false) (d := 34) (x := .agg [vI q.mode, vI q.width, vI q.rob, vI q.queue, vI q.stores, vI q.slots, vI q.sets, vI q.ways, .sl 1 (q.lat.map rowI) (fl 9 (k + 1) q.lat), vB q.tables, .sl 1 (q.tape.map rowU) (fl 10 (k + 1) q.tape), .sl 1 (q.prog.map rowU) (fl 11 (k + 1) q.prog), vS q.mem, vI q.cycles]) rfl (by kernel_rfl) rfl rfl rfl rfl rfl rfl ?_
                refine aGo [17] (by kernel_rfl) rfl ⟨?_, trivial⟩
                refine sgCall (b := false) (args := [.agg [vI q.mode, vI q.width, vI q.rob, vI q.queue, vI q.stores, vI q.slots, vI q.sets, vI q.ways, .sl 1 (q.lat.map rowI) (fl 9 (k + 1) q.lat), vB q.tables, .sl 1 (q.tape.map rowU) (fl 10 (k + 1) q.tape), .sl 1 (q.prog.map rowU) (fl 11 (k + 1) q.prog), vS q.mem, vI q.cycles]]) (d := 35) (x := vB (rightP q)) rfl (by kernel_rfl) rfl rfl rfl rfl rfl rfl rfl (.inl rfl) rfl (dRight q _ _ _ hqo) ?_
                refine aGo [18] (by kernel_rfl) rfl ⟨?_, trivial⟩
                refine sOk (b := false) (d := 36) (x := vB (cond2 (cond2 (cond2 true true false) true false) (rightP q) false)) rfl (by kernel_rfl) rfl rfl rfl ?_
                refine aGo [19] (by kernel_rfl) rfl ⟨?_, trivial⟩
                refine sOk (b := false) (d := 4) (x := vB (cond2 (cond2 (cond2 true true false) true false) (rightP q) false)) rfl (by kernel_rfl) rfl rfl rfl <| aEnd (n' := 37) (by kernel_rfl) rfl <| cRet ?_
                have hst := stepM_right hws hN2 hq hqo
                rcases hR : rightP q with _ | _
                · rw [hR] at hst; exact finH (rs := [vB false]) rfl (r := vB false) (h' := heapF [(0, .box (planL q (fl 9 (k + 1) q.lat) (fl 10 (k + 1) q.tape) (fl 11 (k + 1) q.prog))), (1, .box [vS (cutL 10 r).2.1])]) (σ := fun z => z) (.inr ⟨.inr hst, rfl, _, _, _, _, rfl⟩) rfl (weak_ret (fun z => z) rfl rfl wH rfl)
                · rw [hR] at hst; exact finH (rs := [vB true]) rfl (r := vB true) (h' := heapF [(0, .box (planL q (fl 9 (k + 1) q.lat) (fl 10 (k + 1) q.tape) (fl 11 (k + 1) q.prog))), (1, .box [vS (cutL 10 r).2.1])]) (σ := fun z => z) (.inl ⟨q, ⟨hE, hst, hqo⟩, rfl, rfl⟩) rfl (weak_ret (fun z => z) rfl rfl wH rfl)
              · refine aGo [14] (by kernel_rfl) rfl ⟨?_, trivial⟩
                refine sOk (b := false) (d := 32) (x := vB (cond2 (cond2 true true false) false false)) rfl (by kernel_rfl) rfl rfl rfl ?_
                refine aGo [15] (by kernel_rfl) rfl ⟨?_, trivial⟩
                refine sOk (b := false) (d := 33) (x := vB (cond2 (cond2 true true false) false false)) rfl (by kernel_rfl) rfl rfl rfl ?_
                refine aGo [16] (by kernel_rfl) rfl ⟨?_, trivial⟩
                refine sfOk (b := false) (d := 34) (x := .agg [vI q.mode, vI q.width, vI q.rob, vI q.queue, vI q.stores, vI q.slots, vI q.sets, vI q.ways, .sl 1 (q.lat.map rowI) a2, vB q.tables, .sl 1 (q.tape.map rowU) b2, .sl 1 (q.prog.map rowU) c2, vS q.mem, vI q.cycles]) rfl (by kernel_rfl) rfl rfl rfl rfl rfl rfl ?_
                refine aGo [17] (by kernel_rfl) rfl ⟨?_, trivial⟩
                refine sfCallS (b := false) (args := [.agg [vI q.mode, vI q.width, vI q.rob, vI q.queue, vI q.stores, vI q.slots, vI q.sets, vI q.ways, .sl 1 (q.lat.map rowI) a2, vB q.tables, .sl 1 (q.tape.map rowU) b2, .sl 1 (q.prog.map rowU) c2, vS q.mem, vI q.cycles]]) (d := 35) (x := vB (rightP q)) rfl (by kernel_rfl) rfl rfl rfl rfl rfl rfl rfl (.inl rfl) rfl ?_
                refine aGo [18] (by kernel_rfl) rfl ⟨?_, trivial⟩
                refine sNeed (b := false) (d := 36) (x := vB (cond2 (cond2 (cond2 true true false) false false) (rightP q) false)) rfl (by kernel_rfl) rfl rfl rfl (fun h => h) ?_
                refine aGo [19] (by kernel_rfl) rfl ⟨?_, trivial⟩
                refine sOk (b := false) (d := 4) (x := vB (cond2 (cond2 (cond2 true true false) false false) (rightP q) false)) rfl (by kernel_rfl) rfl rfl rfl <| aEnd (n' := 37) (by kernel_rfl) rfl <| cRet ?_
                exact finH (rs := [vB false]) rfl (r := vB false) (h' := heapF [(0, .box (planL q a2 b2 c2)), (1, .box [vS (cutL 10 r).2.1])]) (σ := fun z => z) (.inr ⟨.inr (stepM_read hws hq), rfl, _, _, _, _, rfl⟩) rfl (weak_ret (fun z => z) rfl rfl wH rfl)
            · refine sgNeed (b := false) (d := 30) (x := .sl 1 (t.map rowS) (false && true)) rfl (by kernel_rfl) rfl rfl rfl rfl rfl (needS (sliceL rowS (w0 :: t) 1)) (by refine ⟨?_, ?_, ?_⟩; all_goals (first | decide | (apply Int.ofNat_le.2; exact omT))) ?_
              refine aGo [10] (by kernel_rfl) rfl ⟨?_, trivial⟩
              refine sgOk (b := true) (d := 28) (x := vN k) rfl (by kernel_rfl) rfl rfl rfl rfl rfl rfl ?_
              refine aGo [13] (by kernel_rfl) rfl ⟨?_, trivial⟩
              refine sgH (args := [.ptr 0 0, vN k, .sl 1 (t.map rowS) (false && true)]) (d := 31) _ rfl rfl rfl rfl rfl rfl rfl (by kernel_rfl) (readAt L.ix hk ht hw rfl rfl) ?_
              rintro _ _ (⟨q, hq, rfl, rfl⟩ | ⟨hq, rfl, q, a2, b2, c2, rfl⟩)
              · have hqo := readM_ok hp ht hw hq
                refine aGo [14] (by kernel_rfl) rfl ⟨?_, trivial⟩
                refine sOk (b := false) (d := 32) (x := vB (cond2 (cond2 true true false) true false)) rfl (by kernel_rfl) rfl rfl rfl ?_
                refine aGo [15] (by kernel_rfl) rfl ⟨?_, trivial⟩
                refine sOk (b := false) (d := 33) (x := vB (cond2 (cond2 true true false) true false)) rfl (by kernel_rfl) rfl rfl rfl ?_
                refine aGo [16] (by kernel_rfl) rfl ⟨?_, trivial⟩
                refine sgOk (b := false) (d := 34) (x := .agg [vI q.mode, vI q.width, vI q.rob, vI q.queue, vI q.stores, vI q.slots, vI q.sets, vI q.ways, .sl 1 (q.lat.map rowI) (fl 9 (k + 1) q.lat), vB q.tables, .sl 1 (q.tape.map rowU) (fl 10 (k + 1) q.tape), .sl 1 (q.prog.map rowU) (fl 11 (k + 1) q.prog), vS q.mem, vI q.cycles]) rfl (by kernel_rfl) rfl rfl rfl rfl rfl rfl ?_
                refine aGo [17] (by kernel_rfl) rfl ⟨?_, trivial⟩
                refine sgCall (b := false) (args := [.agg [vI q.mode, vI q.width, vI q.rob, vI q.queue, vI q.stores, vI q.slots, vI q.sets, vI q.ways, .sl 1 (q.lat.map rowI) (fl 9 (k + 1) q.lat), vB q.tables, .sl 1 (q.tape.map rowU) (fl 10 (k + 1) q.tape), .sl 1 (q.prog.map rowU) (fl 11 (k + 1) q.prog), vS q.mem, vI q.cycles]]) (d := 35) (x := vB (rightP q)) rfl (by kernel_rfl) rfl rfl rfl rfl rfl rfl rfl (.inl rfl) rfl (dRight q _ _ _ hqo) ?_
                refine aGo [18] (by kernel_rfl) rfl ⟨?_, trivial⟩
                refine sOk (b := false) (d := 36) (x := vB (cond2 (cond2 (cond2 true true false) true false) (rightP q) false)) rfl (by kernel_rfl) rfl rfl rfl ?_
                refine aGo [19] (by kernel_rfl) rfl ⟨?_, trivial⟩
                refine sOk (b := false) (d := 4) (x := vB (cond2 (cond2 (cond2 true true false) true false) (rightP q) false)) rfl (by kernel_rfl) rfl rfl rfl <| aEnd (n' := 37) (by kernel_rfl) rfl <| cRet ?_
                have hst := stepM_right hws hN2 hq hqo
                rcases hR : rightP q with _ | _
                · rw [hR] at hst; exact finH (rs := [vB false]) rfl (r := vB false) (h' := heapF [(0, .box (planL q (fl 9 (k + 1) q.lat) (fl 10 (k + 1) q.tape) (fl 11 (k + 1) q.prog))), (1, .box [vS (cutL 10 r).2.1])]) (σ := fun z => z) (.inr ⟨.inr hst, rfl, _, _, _, _, rfl⟩) rfl (weak_ret (fun z => z) rfl rfl wH rfl)
                · rw [hR] at hst; exact finH (rs := [vB true]) rfl (r := vB true) (h' := heapF [(0, .box (planL q (fl 9 (k + 1) q.lat) (fl 10 (k + 1) q.tape) (fl 11 (k + 1) q.prog))), (1, .box [vS (cutL 10 r).2.1])]) (σ := fun z => z) (.inl ⟨q, ⟨hE, hst, hqo⟩, rfl, rfl⟩) rfl (weak_ret (fun z => z) rfl rfl wH rfl)
              · refine aGo [14] (by kernel_rfl) rfl ⟨?_, trivial⟩
                refine sOk (b := false) (d := 32) (x := vB (cond2 (cond2 true true false) false false)) rfl (by kernel_rfl) rfl rfl rfl ?_
                refine aGo [15] (by kernel_rfl) rfl ⟨?_, trivial⟩
                refine sOk (b := false) (d := 33) (x := vB (cond2 (cond2 true true false) false false)) rfl (by kernel_rfl) rfl rfl rfl ?_
                refine aGo [16] (by kernel_rfl) rfl ⟨?_, trivial⟩
                refine sfOk (b := false) (d := 34) (x := .agg [vI q.mode, vI q.width, vI q.rob, vI q.queue, vI q.stores, vI q.slots, vI q.sets, vI q.ways, .sl 1 (q.lat.map rowI) a2, vB q.tables, .sl 1 (q.tape.map rowU) b2, .sl 1 (q.prog.map rowU) c2, vS q.mem, vI q.cycles]) rfl (by kernel_rfl) rfl rfl rfl rfl rfl rfl ?_
                refine aGo [17] (by kernel_rfl) rfl ⟨?_, trivial⟩
                refine sfCallS (b := false) (args := [.agg [vI q.mode, vI q.width, vI q.rob, vI q.queue, vI q.stores, vI q.slots, vI q.sets, vI q.ways, .sl 1 (q.lat.map rowI) a2, vB q.tables, .sl 1 (q.tape.map rowU) b2, .sl 1 (q.prog.map rowU) c2, vS q.mem, vI q.cycles]]) (d := 35) (x := vB (rightP q)) rfl (by kernel_rfl) rfl rfl rfl rfl rfl rfl rfl (.inl rfl) rfl ?_
                refine aGo [18] (by kernel_rfl) rfl ⟨?_, trivial⟩
                refine sNeed (b := false) (d := 36) (x := vB (cond2 (cond2 (cond2 true true false) false false) (rightP q) false)) rfl (by kernel_rfl) rfl rfl rfl (fun h => h) ?_
                refine aGo [19] (by kernel_rfl) rfl ⟨?_, trivial⟩
                refine sOk (b := false) (d := 4) (x := vB (cond2 (cond2 (cond2 true true false) false false) (rightP q) false)) rfl (by kernel_rfl) rfl rfl rfl <| aEnd (n' := 37) (by kernel_rfl) rfl <| cRet ?_
                exact finH (rs := [vB false]) rfl (r := vB false) (h' := heapF [(0, .box (planL q a2 b2 c2)), (1, .box [vS (cutL 10 r).2.1])]) (σ := fun z => z) (.inr ⟨.inr (stepM_read hws hq), rfl, _, _, _, _, rfl⟩) rfl (weak_ret (fun z => z) rfl rfl wH rfl)
        · refine sgCall (b := false) (args := [vN k]) (d := 24) (x := vS (nameL k)) rfl (by kernel_rfl) rfl rfl rfl rfl rfl rfl rfl (.inl rfl) rfl (dName k hk) ?_
          refine aGo [4] (by kernel_rfl) rfl ⟨?_, trivial⟩
          refine sgOk (b := true) (d := 22) (x := vS w0) rfl (by kernel_rfl) rfl rfl rfl rfl rfl rfl ?_
          refine aGo [7] (by kernel_rfl) rfl ⟨?_, trivial⟩
          refine sgOk (b := false) (d := 25) (x := vB true) rfl (by kernel_rfl) rfl rfl rfl rfl rfl (okBo ((eq_tL w0 (nameL k)).trans (decide_eq_true hN2))) ?_
          refine aGo [8] (by kernel_rfl) rfl ⟨?_, trivial⟩
          refine sOk (b := false) (d := 26) (x := vB (cond2 true true false)) rfl (by kernel_rfl) rfl rfl rfl ?_
          refine aGo [9] (by kernel_rfl) rfl ⟨?_, trivial⟩
          refine sOk (b := false) (d := 27) (x := vB (cond2 true true false)) rfl (by kernel_rfl) rfl rfl rfl ?_
          refine aGo [10, 11] (by kernel_rfl) rfl ⟨?_, ?_, trivial⟩
          · refine sgOk (b := false) (d := 28) (x := vN k) rfl (by kernel_rfl) rfl rfl rfl rfl rfl rfl ?_
            refine aGo [11] (by kernel_rfl) rfl ⟨?_, trivial⟩
            refine sgOk (b := false) (d := 29) (x := .sl 1 ((w0 :: t).map rowS) false) rfl (by kernel_rfl) rfl rfl rfl rfl rfl rfl ?_
            refine aGo [12] (by kernel_rfl) rfl ⟨?_, trivial⟩
            refine sgNeed (b := false) (d := 30) (x := .sl 1 (t.map rowS) (false && true)) rfl (by kernel_rfl) rfl rfl rfl rfl rfl (needS (sliceL rowS (w0 :: t) 1)) (by refine ⟨?_, ?_, ?_⟩; all_goals (first | decide | (apply Int.ofNat_le.2; exact omT))) ?_
            refine aGo [13] (by kernel_rfl) rfl ⟨?_, trivial⟩
            refine sgH (args := [.ptr 0 0, vN k, .sl 1 (t.map rowS) (false && true)]) (d := 31) _ rfl rfl rfl rfl rfl rfl rfl (by kernel_rfl) (readAt L.ix hk ht hw rfl rfl) ?_
            rintro _ _ (⟨q, hq, rfl, rfl⟩ | ⟨hq, rfl, q, a2, b2, c2, rfl⟩)
            · have hqo := readM_ok hp ht hw hq
              refine aGo [14] (by kernel_rfl) rfl ⟨?_, trivial⟩
              refine sOk (b := false) (d := 32) (x := vB (cond2 (cond2 true true false) true false)) rfl (by kernel_rfl) rfl rfl rfl ?_
              refine aGo [15] (by kernel_rfl) rfl ⟨?_, trivial⟩
              refine sOk (b := false) (d := 33) (x := vB (cond2 (cond2 true true false) true false)) rfl (by kernel_rfl) rfl rfl rfl ?_
              refine aGo [16] (by kernel_rfl) rfl ⟨?_, trivial⟩
              refine sgOk (b := false) (d := 34) (x := .agg [vI q.mode, vI q.width, vI q.rob, vI q.queue, vI q.stores, vI q.slots, vI q.sets, vI q.ways, .sl 1 (q.lat.map rowI) (fl 9 (k + 1) q.lat), vB q.tables, .sl 1 (q.tape.map rowU) (fl 10 (k + 1) q.tape), .sl 1 (q.prog.map rowU) (fl 11 (k + 1) q.prog), vS q.mem, vI q.cycles]) rfl (by kernel_rfl) rfl rfl rfl rfl rfl rfl ?_
              refine aGo [17] (by kernel_rfl) rfl ⟨?_, trivial⟩
              refine sgCall (b := false) (args := [.agg [vI q.mode, vI q.width, vI q.rob, vI q.queue, vI q.stores, vI q.slots, vI q.sets, vI q.ways, .sl 1 (q.lat.map rowI) (fl 9 (k + 1) q.lat), vB q.tables, .sl 1 (q.tape.map rowU) (fl 10 (k + 1) q.tape), .sl 1 (q.prog.map rowU) (fl 11 (k + 1) q.prog), vS q.mem, vI q.cycles]]) (d := 35) (x := vB (rightP q)) rfl (by kernel_rfl) rfl rfl rfl rfl rfl rfl rfl (.inl rfl) rfl (dRight q _ _ _ hqo) ?_
              refine aGo [18] (by kernel_rfl) rfl ⟨?_, trivial⟩
              refine sOk (b := false) (d := 36) (x := vB (cond2 (cond2 (cond2 true true false) true false) (rightP q) false)) rfl (by kernel_rfl) rfl rfl rfl ?_
              refine aGo [19] (by kernel_rfl) rfl ⟨?_, trivial⟩
              refine sOk (b := false) (d := 4) (x := vB (cond2 (cond2 (cond2 true true false) true false) (rightP q) false)) rfl (by kernel_rfl) rfl rfl rfl <| aEnd (n' := 37) (by kernel_rfl) rfl <| cRet ?_
              have hst := stepM_right hws hN2 hq hqo
              rcases hR : rightP q with _ | _
              · rw [hR] at hst; exact finH (rs := [vB false]) rfl (r := vB false) (h' := heapF [(0, .box (planL q (fl 9 (k + 1) q.lat) (fl 10 (k + 1) q.tape) (fl 11 (k + 1) q.prog))), (1, .box [vS (cutL 10 r).2.1])]) (σ := fun z => z) (.inr ⟨.inr hst, rfl, _, _, _, _, rfl⟩) rfl (weak_ret (fun z => z) rfl rfl wH rfl)
              · rw [hR] at hst; exact finH (rs := [vB true]) rfl (r := vB true) (h' := heapF [(0, .box (planL q (fl 9 (k + 1) q.lat) (fl 10 (k + 1) q.tape) (fl 11 (k + 1) q.prog))), (1, .box [vS (cutL 10 r).2.1])]) (σ := fun z => z) (.inl ⟨q, ⟨hE, hst, hqo⟩, rfl, rfl⟩) rfl (weak_ret (fun z => z) rfl rfl wH rfl)
            · refine aGo [14] (by kernel_rfl) rfl ⟨?_, trivial⟩
              refine sOk (b := false) (d := 32) (x := vB (cond2 (cond2 true true false) false false)) rfl (by kernel_rfl) rfl rfl rfl ?_
              refine aGo [15] (by kernel_rfl) rfl ⟨?_, trivial⟩
              refine sOk (b := false) (d := 33) (x := vB (cond2 (cond2 true true false) false false)) rfl (by kernel_rfl) rfl rfl rfl ?_
              refine aGo [16] (by kernel_rfl) rfl ⟨?_, trivial⟩
              refine sfOk (b := false) (d := 34) (x := .agg [vI q.mode, vI q.width, vI q.rob, vI q.queue, vI q.stores, vI q.slots, vI q.sets, vI q.ways, .sl 1 (q.lat.map rowI) a2, vB q.tables, .sl 1 (q.tape.map rowU) b2, .sl 1 (q.prog.map rowU) c2, vS q.mem, vI q.cycles]) rfl (by kernel_rfl) rfl rfl rfl rfl rfl rfl ?_
              refine aGo [17] (by kernel_rfl) rfl ⟨?_, trivial⟩
              refine sfCallS (b := false) (args := [.agg [vI q.mode, vI q.width, vI q.rob, vI q.queue, vI q.stores, vI q.slots, vI q.sets, vI q.ways, .sl 1 (q.lat.map rowI) a2, vB q.tables, .sl 1 (q.tape.map rowU) b2, .sl 1 (q.prog.map rowU) c2, vS q.mem, vI q.cycles]]) (d := 35) (x := vB (rightP q)) rfl (by kernel_rfl) rfl rfl rfl rfl rfl rfl rfl (.inl rfl) rfl ?_
              refine aGo [18] (by kernel_rfl) rfl ⟨?_, trivial⟩
              refine sNeed (b := false) (d := 36) (x := vB (cond2 (cond2 (cond2 true true false) false false) (rightP q) false)) rfl (by kernel_rfl) rfl rfl rfl (fun h => h) ?_
              refine aGo [19] (by kernel_rfl) rfl ⟨?_, trivial⟩
              refine sOk (b := false) (d := 4) (x := vB (cond2 (cond2 (cond2 true true false) false false) (rightP q) false)) rfl (by kernel_rfl) rfl rfl rfl <| aEnd (n' := 37) (by kernel_rfl) rfl <| cRet ?_
              exact finH (rs := [vB false]) rfl (r := vB false) (h' := heapF [(0, .box (planL q a2 b2 c2)), (1, .box [vS (cutL 10 r).2.1])]) (σ := fun z => z) (.inr ⟨.inr (stepM_read hws hq), rfl, _, _, _, _, rfl⟩) rfl (weak_ret (fun z => z) rfl rfl wH rfl)
          · refine sgOk (b := false) (d := 29) (x := .sl 1 ((w0 :: t).map rowS) false) rfl (by kernel_rfl) rfl rfl rfl rfl rfl rfl ?_
            refine aGo [10, 12] (by kernel_rfl) rfl ⟨?_, ?_, trivial⟩
            · refine sgOk (b := true) (d := 28) (x := vN k) rfl (by kernel_rfl) rfl rfl rfl rfl rfl rfl ?_
              refine aGo [12] (by kernel_rfl) rfl ⟨?_, trivial⟩
              refine sgNeed (b := false) (d := 30) (x := .sl 1 (t.map rowS) (false && true)) rfl (by kernel_rfl) rfl rfl rfl rfl rfl (needS (sliceL rowS (w0 :: t) 1)) (by refine ⟨?_, ?_, ?_⟩; all_goals (first | decide | (apply Int.ofNat_le.2; exact omT))) ?_
              refine aGo [13] (by kernel_rfl) rfl ⟨?_, trivial⟩
              refine sgH (args := [.ptr 0 0, vN k, .sl 1 (t.map rowS) (false && true)]) (d := 31) _ rfl rfl rfl rfl rfl rfl rfl (by kernel_rfl) (readAt L.ix hk ht hw rfl rfl) ?_
              rintro _ _ (⟨q, hq, rfl, rfl⟩ | ⟨hq, rfl, q, a2, b2, c2, rfl⟩)
              · have hqo := readM_ok hp ht hw hq
                refine aGo [14] (by kernel_rfl) rfl ⟨?_, trivial⟩
                refine sOk (b := false) (d := 32) (x := vB (cond2 (cond2 true true false) true false)) rfl (by kernel_rfl) rfl rfl rfl ?_
                refine aGo [15] (by kernel_rfl) rfl ⟨?_, trivial⟩
                refine sOk (b := false) (d := 33) (x := vB (cond2 (cond2 true true false) true false)) rfl (by kernel_rfl) rfl rfl rfl ?_
                refine aGo [16] (by kernel_rfl) rfl ⟨?_, trivial⟩
                refine sgOk (b := false) (d := 34) (x := .agg [vI q.mode, vI q.width, vI q.rob, vI q.queue, vI q.stores, vI q.slots, vI q.sets, vI q.ways, .sl 1 (q.lat.map rowI) (fl 9 (k + 1) q.lat), vB q.tables, .sl 1 (q.tape.map rowU) (fl 10 (k + 1) q.tape), .sl 1 (q.prog.map rowU) (fl 11 (k + 1) q.prog), vS q.mem, vI q.cycles]) rfl (by kernel_rfl) rfl rfl rfl rfl rfl rfl ?_
                refine aGo [17] (by kernel_rfl) rfl ⟨?_, trivial⟩
                refine sgCall (b := false) (args := [.agg [vI q.mode, vI q.width, vI q.rob, vI q.queue, vI q.stores, vI q.slots, vI q.sets, vI q.ways, .sl 1 (q.lat.map rowI) (fl 9 (k + 1) q.lat), vB q.tables, .sl 1 (q.tape.map rowU) (fl 10 (k + 1) q.tape), .sl 1 (q.prog.map rowU) (fl 11 (k + 1) q.prog), vS q.mem, vI q.cycles]]) (d := 35) (x := vB (rightP q)) rfl (by kernel_rfl) rfl rfl rfl rfl rfl rfl rfl (.inl rfl) rfl (dRight q _ _ _ hqo) ?_
                refine aGo [18] (by kernel_rfl) rfl ⟨?_, trivial⟩
                refine sOk (b := false) (d := 36) (x := vB (cond2 (cond2 (cond2 true true false) true false) (rightP q) false)) rfl (by kernel_rfl) rfl rfl rfl ?_
                refine aGo [19] (by kernel_rfl) rfl ⟨?_, trivial⟩
                refine sOk (b := false) (d := 4) (x := vB (cond2 (cond2 (cond2 true true false) true false) (rightP q) false)) rfl (by kernel_rfl) rfl rfl rfl <| aEnd (n' := 37) (by kernel_rfl) rfl <| cRet ?_
                have hst := stepM_right hws hN2 hq hqo
                rcases hR : rightP q with _ | _
                · rw [hR] at hst; exact finH (rs := [vB false]) rfl (r := vB false) (h' := heapF [(0, .box (planL q (fl 9 (k + 1) q.lat) (fl 10 (k + 1) q.tape) (fl 11 (k + 1) q.prog))), (1, .box [vS (cutL 10 r).2.1])]) (σ := fun z => z) (.inr ⟨.inr hst, rfl, _, _, _, _, rfl⟩) rfl (weak_ret (fun z => z) rfl rfl wH rfl)
                · rw [hR] at hst; exact finH (rs := [vB true]) rfl (r := vB true) (h' := heapF [(0, .box (planL q (fl 9 (k + 1) q.lat) (fl 10 (k + 1) q.tape) (fl 11 (k + 1) q.prog))), (1, .box [vS (cutL 10 r).2.1])]) (σ := fun z => z) (.inl ⟨q, ⟨hE, hst, hqo⟩, rfl, rfl⟩) rfl (weak_ret (fun z => z) rfl rfl wH rfl)
              · refine aGo [14] (by kernel_rfl) rfl ⟨?_, trivial⟩
                refine sOk (b := false) (d := 32) (x := vB (cond2 (cond2 true true false) false false)) rfl (by kernel_rfl) rfl rfl rfl ?_
                refine aGo [15] (by kernel_rfl) rfl ⟨?_, trivial⟩
                refine sOk (b := false) (d := 33) (x := vB (cond2 (cond2 true true false) false false)) rfl (by kernel_rfl) rfl rfl rfl ?_
                refine aGo [16] (by kernel_rfl) rfl ⟨?_, trivial⟩
                refine sfOk (b := false) (d := 34) (x := .agg [vI q.mode, vI q.width, vI q.rob, vI q.queue, vI q.stores, vI q.slots, vI q.sets, vI q.ways, .sl 1 (q.lat.map rowI) a2, vB q.tables, .sl 1 (q.tape.map rowU) b2, .sl 1 (q.prog.map rowU) c2, vS q.mem, vI q.cycles]) rfl (by kernel_rfl) rfl rfl rfl rfl rfl rfl ?_
                refine aGo [17] (by kernel_rfl) rfl ⟨?_, trivial⟩
                refine sfCallS (b := false) (args := [.agg [vI q.mode, vI q.width, vI q.rob, vI q.queue, vI q.stores, vI q.slots, vI q.sets, vI q.ways, .sl 1 (q.lat.map rowI) a2, vB q.tables, .sl 1 (q.tape.map rowU) b2, .sl 1 (q.prog.map rowU) c2, vS q.mem, vI q.cycles]]) (d := 35) (x := vB (rightP q)) rfl (by kernel_rfl) rfl rfl rfl rfl rfl rfl rfl (.inl rfl) rfl ?_
                refine aGo [18] (by kernel_rfl) rfl ⟨?_, trivial⟩
                refine sNeed (b := false) (d := 36) (x := vB (cond2 (cond2 (cond2 true true false) false false) (rightP q) false)) rfl (by kernel_rfl) rfl rfl rfl (fun h => h) ?_
                refine aGo [19] (by kernel_rfl) rfl ⟨?_, trivial⟩
                refine sOk (b := false) (d := 4) (x := vB (cond2 (cond2 (cond2 true true false) false false) (rightP q) false)) rfl (by kernel_rfl) rfl rfl rfl <| aEnd (n' := 37) (by kernel_rfl) rfl <| cRet ?_
                exact finH (rs := [vB false]) rfl (r := vB false) (h' := heapF [(0, .box (planL q a2 b2 c2)), (1, .box [vS (cutL 10 r).2.1])]) (σ := fun z => z) (.inr ⟨.inr (stepM_read hws hq), rfl, _, _, _, _, rfl⟩) rfl (weak_ret (fun z => z) rfl rfl wH rfl)
            · refine sgNeed (b := false) (d := 30) (x := .sl 1 (t.map rowS) (false && true)) rfl (by kernel_rfl) rfl rfl rfl rfl rfl (needS (sliceL rowS (w0 :: t) 1)) (by refine ⟨?_, ?_, ?_⟩; all_goals (first | decide | (apply Int.ofNat_le.2; exact omT))) ?_
              refine aGo [10] (by kernel_rfl) rfl ⟨?_, trivial⟩
              refine sgOk (b := true) (d := 28) (x := vN k) rfl (by kernel_rfl) rfl rfl rfl rfl rfl rfl ?_
              refine aGo [13] (by kernel_rfl) rfl ⟨?_, trivial⟩
              refine sgH (args := [.ptr 0 0, vN k, .sl 1 (t.map rowS) (false && true)]) (d := 31) _ rfl rfl rfl rfl rfl rfl rfl (by kernel_rfl) (readAt L.ix hk ht hw rfl rfl) ?_
              rintro _ _ (⟨q, hq, rfl, rfl⟩ | ⟨hq, rfl, q, a2, b2, c2, rfl⟩)
              · have hqo := readM_ok hp ht hw hq
                refine aGo [14] (by kernel_rfl) rfl ⟨?_, trivial⟩
                refine sOk (b := false) (d := 32) (x := vB (cond2 (cond2 true true false) true false)) rfl (by kernel_rfl) rfl rfl rfl ?_
                refine aGo [15] (by kernel_rfl) rfl ⟨?_, trivial⟩
                refine sOk (b := false) (d := 33) (x := vB (cond2 (cond2 true true false) true false)) rfl (by kernel_rfl) rfl rfl rfl ?_
                refine aGo [16] (by kernel_rfl) rfl ⟨?_, trivial⟩
                refine sgOk (b := false) (d := 34) (x := .agg [vI q.mode, vI q.width, vI q.rob, vI q.queue, vI q.stores, vI q.slots, vI q.sets, vI q.ways, .sl 1 (q.lat.map rowI) (fl 9 (k + 1) q.lat), vB q.tables, .sl 1 (q.tape.map rowU) (fl 10 (k + 1) q.tape), .sl 1 (q.prog.map rowU) (fl 11 (k + 1) q.prog), vS q.mem, vI q.cycles]) rfl (by kernel_rfl) rfl rfl rfl rfl rfl rfl ?_
                refine aGo [17] (by kernel_rfl) rfl ⟨?_, trivial⟩
                refine sgCall (b := false) (args := [.agg [vI q.mode, vI q.width, vI q.rob, vI q.queue, vI q.stores, vI q.slots, vI q.sets, vI q.ways, .sl 1 (q.lat.map rowI) (fl 9 (k + 1) q.lat), vB q.tables, .sl 1 (q.tape.map rowU) (fl 10 (k + 1) q.tape), .sl 1 (q.prog.map rowU) (fl 11 (k + 1) q.prog), vS q.mem, vI q.cycles]]) (d := 35) (x := vB (rightP q)) rfl (by kernel_rfl) rfl rfl rfl rfl rfl rfl rfl (.inl rfl) rfl (dRight q _ _ _ hqo) ?_
                refine aGo [18] (by kernel_rfl) rfl ⟨?_, trivial⟩
                refine sOk (b := false) (d := 36) (x := vB (cond2 (cond2 (cond2 true true false) true false) (rightP q) false)) rfl (by kernel_rfl) rfl rfl rfl ?_
                refine aGo [19] (by kernel_rfl) rfl ⟨?_, trivial⟩
                refine sOk (b := false) (d := 4) (x := vB (cond2 (cond2 (cond2 true true false) true false) (rightP q) false)) rfl (by kernel_rfl) rfl rfl rfl <| aEnd (n' := 37) (by kernel_rfl) rfl <| cRet ?_
                have hst := stepM_right hws hN2 hq hqo
                rcases hR : rightP q with _ | _
                · rw [hR] at hst; exact finH (rs := [vB false]) rfl (r := vB false) (h' := heapF [(0, .box (planL q (fl 9 (k + 1) q.lat) (fl 10 (k + 1) q.tape) (fl 11 (k + 1) q.prog))), (1, .box [vS (cutL 10 r).2.1])]) (σ := fun z => z) (.inr ⟨.inr hst, rfl, _, _, _, _, rfl⟩) rfl (weak_ret (fun z => z) rfl rfl wH rfl)
                · rw [hR] at hst; exact finH (rs := [vB true]) rfl (r := vB true) (h' := heapF [(0, .box (planL q (fl 9 (k + 1) q.lat) (fl 10 (k + 1) q.tape) (fl 11 (k + 1) q.prog))), (1, .box [vS (cutL 10 r).2.1])]) (σ := fun z => z) (.inl ⟨q, ⟨hE, hst, hqo⟩, rfl, rfl⟩) rfl (weak_ret (fun z => z) rfl rfl wH rfl)
              · refine aGo [14] (by kernel_rfl) rfl ⟨?_, trivial⟩
                refine sOk (b := false) (d := 32) (x := vB (cond2 (cond2 true true false) false false)) rfl (by kernel_rfl) rfl rfl rfl ?_
                refine aGo [15] (by kernel_rfl) rfl ⟨?_, trivial⟩
                refine sOk (b := false) (d := 33) (x := vB (cond2 (cond2 true true false) false false)) rfl (by kernel_rfl) rfl rfl rfl ?_
                refine aGo [16] (by kernel_rfl) rfl ⟨?_, trivial⟩
                refine sfOk (b := false) (d := 34) (x := .agg [vI q.mode, vI q.width, vI q.rob, vI q.queue, vI q.stores, vI q.slots, vI q.sets, vI q.ways, .sl 1 (q.lat.map rowI) a2, vB q.tables, .sl 1 (q.tape.map rowU) b2, .sl 1 (q.prog.map rowU) c2, vS q.mem, vI q.cycles]) rfl (by kernel_rfl) rfl rfl rfl rfl rfl rfl ?_
                refine aGo [17] (by kernel_rfl) rfl ⟨?_, trivial⟩
                refine sfCallS (b := false) (args := [.agg [vI q.mode, vI q.width, vI q.rob, vI q.queue, vI q.stores, vI q.slots, vI q.sets, vI q.ways, .sl 1 (q.lat.map rowI) a2, vB q.tables, .sl 1 (q.tape.map rowU) b2, .sl 1 (q.prog.map rowU) c2, vS q.mem, vI q.cycles]]) (d := 35) (x := vB (rightP q)) rfl (by kernel_rfl) rfl rfl rfl rfl rfl rfl rfl (.inl rfl) rfl ?_
                refine aGo [18] (by kernel_rfl) rfl ⟨?_, trivial⟩
                refine sNeed (b := false) (d := 36) (x := vB (cond2 (cond2 (cond2 true true false) false false) (rightP q) false)) rfl (by kernel_rfl) rfl rfl rfl (fun h => h) ?_
                refine aGo [19] (by kernel_rfl) rfl ⟨?_, trivial⟩
                refine sOk (b := false) (d := 4) (x := vB (cond2 (cond2 (cond2 true true false) false false) (rightP q) false)) rfl (by kernel_rfl) rfl rfl rfl <| aEnd (n' := 37) (by kernel_rfl) rfl <| cRet ?_
                exact finH (rs := [vB false]) rfl (r := vB false) (h' := heapF [(0, .box (planL q a2 b2 c2)), (1, .box [vS (cutL 10 r).2.1])]) (σ := fun z => z) (.inr ⟨.inr (stepM_read hws hq), rfl, _, _, _, _, rfl⟩) rfl (weak_ret (fun z => z) rfl rfl wH rfl)
    · refine sgOk (b := false) (d := 23) (x := vN k) rfl (by kernel_rfl) rfl rfl rfl rfl rfl rfl ?_
      refine aGo [3, 6] (by kernel_rfl) rfl ⟨?_, ?_, trivial⟩
      · refine sgIdx (b := true) (rowS w0) (d := 21) (x := .dp 1 0 (rowS w0)) rfl (by kernel_rfl) rfl rfl rfl rfl rfl rfl (⟨by decide, getM (l := w0 :: t) (k := 0) rfl⟩) rfl ?_
        refine aGo [4, 6] (by kernel_rfl) rfl ⟨?_, ?_, trivial⟩
        · refine sgOk (b := true) (d := 22) (x := vS w0) rfl (by kernel_rfl) rfl rfl rfl rfl rfl rfl ?_
          refine aGo [6] (by kernel_rfl) rfl ⟨?_, trivial⟩
          refine sgCall (b := false) (args := [vN k]) (d := 24) (x := vS (nameL k)) rfl (by kernel_rfl) rfl rfl rfl rfl rfl rfl rfl (.inl rfl) rfl (dName k hk) ?_
          refine aGo [7] (by kernel_rfl) rfl ⟨?_, trivial⟩
          refine sgOk (b := false) (d := 25) (x := vB true) rfl (by kernel_rfl) rfl rfl rfl rfl rfl (okBo ((eq_tL w0 (nameL k)).trans (decide_eq_true hN2))) ?_
          refine aGo [8] (by kernel_rfl) rfl ⟨?_, trivial⟩
          refine sOk (b := false) (d := 26) (x := vB (cond2 true true false)) rfl (by kernel_rfl) rfl rfl rfl ?_
          refine aGo [9] (by kernel_rfl) rfl ⟨?_, trivial⟩
          refine sOk (b := false) (d := 27) (x := vB (cond2 true true false)) rfl (by kernel_rfl) rfl rfl rfl ?_
          refine aGo [10, 11] (by kernel_rfl) rfl ⟨?_, ?_, trivial⟩
          · refine sgOk (b := false) (d := 28) (x := vN k) rfl (by kernel_rfl) rfl rfl rfl rfl rfl rfl ?_
            refine aGo [11] (by kernel_rfl) rfl ⟨?_, trivial⟩
            refine sgOk (b := false) (d := 29) (x := .sl 1 ((w0 :: t).map rowS) false) rfl (by kernel_rfl) rfl rfl rfl rfl rfl rfl ?_
            refine aGo [12] (by kernel_rfl) rfl ⟨?_, trivial⟩
            refine sgNeed (b := false) (d := 30) (x := .sl 1 (t.map rowS) (false && true)) rfl (by kernel_rfl) rfl rfl rfl rfl rfl (needS (sliceL rowS (w0 :: t) 1)) (by refine ⟨?_, ?_, ?_⟩; all_goals (first | decide | (apply Int.ofNat_le.2; exact omT))) ?_
            refine aGo [13] (by kernel_rfl) rfl ⟨?_, trivial⟩
            refine sgH (args := [.ptr 0 0, vN k, .sl 1 (t.map rowS) (false && true)]) (d := 31) _ rfl rfl rfl rfl rfl rfl rfl (by kernel_rfl) (readAt L.ix hk ht hw rfl rfl) ?_
            rintro _ _ (⟨q, hq, rfl, rfl⟩ | ⟨hq, rfl, q, a2, b2, c2, rfl⟩)
            · have hqo := readM_ok hp ht hw hq
              refine aGo [14] (by kernel_rfl) rfl ⟨?_, trivial⟩
              refine sOk (b := false) (d := 32) (x := vB (cond2 (cond2 true true false) true false)) rfl (by kernel_rfl) rfl rfl rfl ?_
              refine aGo [15] (by kernel_rfl) rfl ⟨?_, trivial⟩
              refine sOk (b := false) (d := 33) (x := vB (cond2 (cond2 true true false) true false)) rfl (by kernel_rfl) rfl rfl rfl ?_
              refine aGo [16] (by kernel_rfl) rfl ⟨?_, trivial⟩
              refine sgOk (b := false) (d := 34) (x := .agg [vI q.mode, vI q.width, vI q.rob, vI q.queue, vI q.stores, vI q.slots, vI q.sets, vI q.ways, .sl 1 (q.lat.map rowI) (fl 9 (k + 1) q.lat), vB q.tables, .sl 1 (q.tape.map rowU) (fl 10 (k + 1) q.tape), .sl 1 (q.prog.map rowU) (fl 11 (k + 1) q.prog), vS q.mem, vI q.cycles]) rfl (by kernel_rfl) rfl rfl rfl rfl rfl rfl ?_
              refine aGo [17] (by kernel_rfl) rfl ⟨?_, trivial⟩
              refine sgCall (b := false) (args := [.agg [vI q.mode, vI q.width, vI q.rob, vI q.queue, vI q.stores, vI q.slots, vI q.sets, vI q.ways, .sl 1 (q.lat.map rowI) (fl 9 (k + 1) q.lat), vB q.tables, .sl 1 (q.tape.map rowU) (fl 10 (k + 1) q.tape), .sl 1 (q.prog.map rowU) (fl 11 (k + 1) q.prog), vS q.mem, vI q.cycles]]) (d := 35) (x := vB (rightP q)) rfl (by kernel_rfl) rfl rfl rfl rfl rfl rfl rfl (.inl rfl) rfl (dRight q _ _ _ hqo) ?_
              refine aGo [18] (by kernel_rfl) rfl ⟨?_, trivial⟩
              refine sOk (b := false) (d := 36) (x := vB (cond2 (cond2 (cond2 true true false) true false) (rightP q) false)) rfl (by kernel_rfl) rfl rfl rfl ?_
              refine aGo [19] (by kernel_rfl) rfl ⟨?_, trivial⟩
              refine sOk (b := false) (d := 4) (x := vB (cond2 (cond2 (cond2 true true false) true false) (rightP q) false)) rfl (by kernel_rfl) rfl rfl rfl <| aEnd (n' := 37) (by kernel_rfl) rfl <| cRet ?_
              have hst := stepM_right hws hN2 hq hqo
              rcases hR : rightP q with _ | _
              · rw [hR] at hst; exact finH (rs := [vB false]) rfl (r := vB false) (h' := heapF [(0, .box (planL q (fl 9 (k + 1) q.lat) (fl 10 (k + 1) q.tape) (fl 11 (k + 1) q.prog))), (1, .box [vS (cutL 10 r).2.1])]) (σ := fun z => z) (.inr ⟨.inr hst, rfl, _, _, _, _, rfl⟩) rfl (weak_ret (fun z => z) rfl rfl wH rfl)
              · rw [hR] at hst; exact finH (rs := [vB true]) rfl (r := vB true) (h' := heapF [(0, .box (planL q (fl 9 (k + 1) q.lat) (fl 10 (k + 1) q.tape) (fl 11 (k + 1) q.prog))), (1, .box [vS (cutL 10 r).2.1])]) (σ := fun z => z) (.inl ⟨q, ⟨hE, hst, hqo⟩, rfl, rfl⟩) rfl (weak_ret (fun z => z) rfl rfl wH rfl)
            · refine aGo [14] (by kernel_rfl) rfl ⟨?_, trivial⟩
              refine sOk (b := false) (d := 32) (x := vB (cond2 (cond2 true true false) false false)) rfl (by kernel_rfl) rfl rfl rfl ?_
              refine aGo [15] (by kernel_rfl) rfl ⟨?_, trivial⟩
              refine sOk (b := false) (d := 33) (x := vB (cond2 (cond2 true true false) false false)) rfl (by kernel_rfl) rfl rfl rfl ?_
              refine aGo [16] (by kernel_rfl) rfl ⟨?_, trivial⟩
              refine sfOk (b := false) (d := 34) (x := .agg [vI q.mode, vI q.width, vI q.rob, vI q.queue, vI q.stores, vI q.slots, vI q.sets, vI q.ways, .sl 1 (q.lat.map rowI) a2, vB q.tables, .sl 1 (q.tape.map rowU) b2, .sl 1 (q.prog.map rowU) c2, vS q.mem, vI q.cycles]) rfl (by kernel_rfl) rfl rfl rfl rfl rfl rfl ?_
              refine aGo [17] (by kernel_rfl) rfl ⟨?_, trivial⟩
              refine sfCallS (b := false) (args := [.agg [vI q.mode, vI q.width, vI q.rob, vI q.queue, vI q.stores, vI q.slots, vI q.sets, vI q.ways, .sl 1 (q.lat.map rowI) a2, vB q.tables, .sl 1 (q.tape.map rowU) b2, .sl 1 (q.prog.map rowU) c2, vS q.mem, vI q.cycles]]) (d := 35) (x := vB (rightP q)) rfl (by kernel_rfl) rfl rfl rfl rfl rfl rfl rfl (.inl rfl) rfl ?_
              refine aGo [18] (by kernel_rfl) rfl ⟨?_, trivial⟩
              refine sNeed (b := false) (d := 36) (x := vB (cond2 (cond2 (cond2 true true false) false false) (rightP q) false)) rfl (by kernel_rfl) rfl rfl rfl (fun h => h) ?_
              refine aGo [19] (by kernel_rfl) rfl ⟨?_, trivial⟩
              refine sOk (b := false) (d := 4) (x := vB (cond2 (cond2 (cond2 true true false) false false) (rightP q) false)) rfl (by kernel_rfl) rfl rfl rfl <| aEnd (n' := 37) (by kernel_rfl) rfl <| cRet ?_
              exact finH (rs := [vB false]) rfl (r := vB false) (h' := heapF [(0, .box (planL q a2 b2 c2)), (1, .box [vS (cutL 10 r).2.1])]) (σ := fun z => z) (.inr ⟨.inr (stepM_read hws hq), rfl, _, _, _, _, rfl⟩) rfl (weak_ret (fun z => z) rfl rfl wH rfl)
          · refine sgOk (b := false) (d := 29) (x := .sl 1 ((w0 :: t).map rowS) false) rfl (by kernel_rfl) rfl rfl rfl rfl rfl rfl ?_
            refine aGo [10, 12] (by kernel_rfl) rfl ⟨?_, ?_, trivial⟩
            · refine sgOk (b := true) (d := 28) (x := vN k) rfl (by kernel_rfl) rfl rfl rfl rfl rfl rfl ?_
              refine aGo [12] (by kernel_rfl) rfl ⟨?_, trivial⟩
              refine sgNeed (b := false) (d := 30) (x := .sl 1 (t.map rowS) (false && true)) rfl (by kernel_rfl) rfl rfl rfl rfl rfl (needS (sliceL rowS (w0 :: t) 1)) (by refine ⟨?_, ?_, ?_⟩; all_goals (first | decide | (apply Int.ofNat_le.2; exact omT))) ?_
              refine aGo [13] (by kernel_rfl) rfl ⟨?_, trivial⟩
              refine sgH (args := [.ptr 0 0, vN k, .sl 1 (t.map rowS) (false && true)]) (d := 31) _ rfl rfl rfl rfl rfl rfl rfl (by kernel_rfl) (readAt L.ix hk ht hw rfl rfl) ?_
              rintro _ _ (⟨q, hq, rfl, rfl⟩ | ⟨hq, rfl, q, a2, b2, c2, rfl⟩)
              · have hqo := readM_ok hp ht hw hq
                refine aGo [14] (by kernel_rfl) rfl ⟨?_, trivial⟩
                refine sOk (b := false) (d := 32) (x := vB (cond2 (cond2 true true false) true false)) rfl (by kernel_rfl) rfl rfl rfl ?_
                refine aGo [15] (by kernel_rfl) rfl ⟨?_, trivial⟩
                refine sOk (b := false) (d := 33) (x := vB (cond2 (cond2 true true false) true false)) rfl (by kernel_rfl) rfl rfl rfl ?_
                refine aGo [16] (by kernel_rfl) rfl ⟨?_, trivial⟩
                refine sgOk (b := false) (d := 34) (x := .agg [vI q.mode, vI q.width, vI q.rob, vI q.queue, vI q.stores, vI q.slots, vI q.sets, vI q.ways, .sl 1 (q.lat.map rowI) (fl 9 (k + 1) q.lat), vB q.tables, .sl 1 (q.tape.map rowU) (fl 10 (k + 1) q.tape), .sl 1 (q.prog.map rowU) (fl 11 (k + 1) q.prog), vS q.mem, vI q.cycles]) rfl (by kernel_rfl) rfl rfl rfl rfl rfl rfl ?_
                refine aGo [17] (by kernel_rfl) rfl ⟨?_, trivial⟩
                refine sgCall (b := false) (args := [.agg [vI q.mode, vI q.width, vI q.rob, vI q.queue, vI q.stores, vI q.slots, vI q.sets, vI q.ways, .sl 1 (q.lat.map rowI) (fl 9 (k + 1) q.lat), vB q.tables, .sl 1 (q.tape.map rowU) (fl 10 (k + 1) q.tape), .sl 1 (q.prog.map rowU) (fl 11 (k + 1) q.prog), vS q.mem, vI q.cycles]]) (d := 35) (x := vB (rightP q)) rfl (by kernel_rfl) rfl rfl rfl rfl rfl rfl rfl (.inl rfl) rfl (dRight q _ _ _ hqo) ?_
                refine aGo [18] (by kernel_rfl) rfl ⟨?_, trivial⟩
                refine sOk (b := false) (d := 36) (x := vB (cond2 (cond2 (cond2 true true false) true false) (rightP q) false)) rfl (by kernel_rfl) rfl rfl rfl ?_
                refine aGo [19] (by kernel_rfl) rfl ⟨?_, trivial⟩
                refine sOk (b := false) (d := 4) (x := vB (cond2 (cond2 (cond2 true true false) true false) (rightP q) false)) rfl (by kernel_rfl) rfl rfl rfl <| aEnd (n' := 37) (by kernel_rfl) rfl <| cRet ?_
                have hst := stepM_right hws hN2 hq hqo
                rcases hR : rightP q with _ | _
                · rw [hR] at hst; exact finH (rs := [vB false]) rfl (r := vB false) (h' := heapF [(0, .box (planL q (fl 9 (k + 1) q.lat) (fl 10 (k + 1) q.tape) (fl 11 (k + 1) q.prog))), (1, .box [vS (cutL 10 r).2.1])]) (σ := fun z => z) (.inr ⟨.inr hst, rfl, _, _, _, _, rfl⟩) rfl (weak_ret (fun z => z) rfl rfl wH rfl)
                · rw [hR] at hst; exact finH (rs := [vB true]) rfl (r := vB true) (h' := heapF [(0, .box (planL q (fl 9 (k + 1) q.lat) (fl 10 (k + 1) q.tape) (fl 11 (k + 1) q.prog))), (1, .box [vS (cutL 10 r).2.1])]) (σ := fun z => z) (.inl ⟨q, ⟨hE, hst, hqo⟩, rfl, rfl⟩) rfl (weak_ret (fun z => z) rfl rfl wH rfl)
              · refine aGo [14] (by kernel_rfl) rfl ⟨?_, trivial⟩
                refine sOk (b := false) (d := 32) (x := vB (cond2 (cond2 true true false) false false)) rfl (by kernel_rfl) rfl rfl rfl ?_
                refine aGo [15] (by kernel_rfl) rfl ⟨?_, trivial⟩
                refine sOk (b := false) (d := 33) (x := vB (cond2 (cond2 true true false) false false)) rfl (by kernel_rfl) rfl rfl rfl ?_
                refine aGo [16] (by kernel_rfl) rfl ⟨?_, trivial⟩
                refine sfOk (b := false) (d := 34) (x := .agg [vI q.mode, vI q.width, vI q.rob, vI q.queue, vI q.stores, vI q.slots, vI q.sets, vI q.ways, .sl 1 (q.lat.map rowI) a2, vB q.tables, .sl 1 (q.tape.map rowU) b2, .sl 1 (q.prog.map rowU) c2, vS q.mem, vI q.cycles]) rfl (by kernel_rfl) rfl rfl rfl rfl rfl rfl ?_
                refine aGo [17] (by kernel_rfl) rfl ⟨?_, trivial⟩
                refine sfCallS (b := false) (args := [.agg [vI q.mode, vI q.width, vI q.rob, vI q.queue, vI q.stores, vI q.slots, vI q.sets, vI q.ways, .sl 1 (q.lat.map rowI) a2, vB q.tables, .sl 1 (q.tape.map rowU) b2, .sl 1 (q.prog.map rowU) c2, vS q.mem, vI q.cycles]]) (d := 35) (x := vB (rightP q)) rfl (by kernel_rfl) rfl rfl rfl rfl rfl rfl rfl (.inl rfl) rfl ?_
                refine aGo [18] (by kernel_rfl) rfl ⟨?_, trivial⟩
                refine sNeed (b := false) (d := 36) (x := vB (cond2 (cond2 (cond2 true true false) false false) (rightP q) false)) rfl (by kernel_rfl) rfl rfl rfl (fun h => h) ?_
                refine aGo [19] (by kernel_rfl) rfl ⟨?_, trivial⟩
                refine sOk (b := false) (d := 4) (x := vB (cond2 (cond2 (cond2 true true false) false false) (rightP q) false)) rfl (by kernel_rfl) rfl rfl rfl <| aEnd (n' := 37) (by kernel_rfl) rfl <| cRet ?_
                exact finH (rs := [vB false]) rfl (r := vB false) (h' := heapF [(0, .box (planL q a2 b2 c2)), (1, .box [vS (cutL 10 r).2.1])]) (σ := fun z => z) (.inr ⟨.inr (stepM_read hws hq), rfl, _, _, _, _, rfl⟩) rfl (weak_ret (fun z => z) rfl rfl wH rfl)
            · refine sgNeed (b := false) (d := 30) (x := .sl 1 (t.map rowS) (false && true)) rfl (by kernel_rfl) rfl rfl rfl rfl rfl (needS (sliceL rowS (w0 :: t) 1)) (by refine ⟨?_, ?_, ?_⟩; all_goals (first | decide | (apply Int.ofNat_le.2; exact omT))) ?_
              refine aGo [10] (by kernel_rfl) rfl ⟨?_, trivial⟩
              refine sgOk (b := true) (d := 28) (x := vN k) rfl (by kernel_rfl) rfl rfl rfl rfl rfl rfl ?_
              refine aGo [13] (by kernel_rfl) rfl ⟨?_, trivial⟩
              refine sgH (args := [.ptr 0 0, vN k, .sl 1 (t.map rowS) (false && true)]) (d := 31) _ rfl rfl rfl rfl rfl rfl rfl (by kernel_rfl) (readAt L.ix hk ht hw rfl rfl) ?_
              rintro _ _ (⟨q, hq, rfl, rfl⟩ | ⟨hq, rfl, q, a2, b2, c2, rfl⟩)
              · have hqo := readM_ok hp ht hw hq
                refine aGo [14] (by kernel_rfl) rfl ⟨?_, trivial⟩
                refine sOk (b := false) (d := 32) (x := vB (cond2 (cond2 true true false) true false)) rfl (by kernel_rfl) rfl rfl rfl ?_
                refine aGo [15] (by kernel_rfl) rfl ⟨?_, trivial⟩
                refine sOk (b := false) (d := 33) (x := vB (cond2 (cond2 true true false) true false)) rfl (by kernel_rfl) rfl rfl rfl ?_
                refine aGo [16] (by kernel_rfl) rfl ⟨?_, trivial⟩
                refine sgOk (b := false) (d := 34) (x := .agg [vI q.mode, vI q.width, vI q.rob, vI q.queue, vI q.stores, vI q.slots, vI q.sets, vI q.ways, .sl 1 (q.lat.map rowI) (fl 9 (k + 1) q.lat), vB q.tables, .sl 1 (q.tape.map rowU) (fl 10 (k + 1) q.tape), .sl 1 (q.prog.map rowU) (fl 11 (k + 1) q.prog), vS q.mem, vI q.cycles]) rfl (by kernel_rfl) rfl rfl rfl rfl rfl rfl ?_
                refine aGo [17] (by kernel_rfl) rfl ⟨?_, trivial⟩
                refine sgCall (b := false) (args := [.agg [vI q.mode, vI q.width, vI q.rob, vI q.queue, vI q.stores, vI q.slots, vI q.sets, vI q.ways, .sl 1 (q.lat.map rowI) (fl 9 (k + 1) q.lat), vB q.tables, .sl 1 (q.tape.map rowU) (fl 10 (k + 1) q.tape), .sl 1 (q.prog.map rowU) (fl 11 (k + 1) q.prog), vS q.mem, vI q.cycles]]) (d := 35) (x := vB (rightP q)) rfl (by kernel_rfl) rfl rfl rfl rfl rfl rfl rfl (.inl rfl) rfl (dRight q _ _ _ hqo) ?_
                refine aGo [18] (by kernel_rfl) rfl ⟨?_, trivial⟩
                refine sOk (b := false) (d := 36) (x := vB (cond2 (cond2 (cond2 true true false) true false) (rightP q) false)) rfl (by kernel_rfl) rfl rfl rfl ?_
                refine aGo [19] (by kernel_rfl) rfl ⟨?_, trivial⟩
                refine sOk (b := false) (d := 4) (x := vB (cond2 (cond2 (cond2 true true false) true false) (rightP q) false)) rfl (by kernel_rfl) rfl rfl rfl <| aEnd (n' := 37) (by kernel_rfl) rfl <| cRet ?_
                have hst := stepM_right hws hN2 hq hqo
                rcases hR : rightP q with _ | _
                · rw [hR] at hst; exact finH (rs := [vB false]) rfl (r := vB false) (h' := heapF [(0, .box (planL q (fl 9 (k + 1) q.lat) (fl 10 (k + 1) q.tape) (fl 11 (k + 1) q.prog))), (1, .box [vS (cutL 10 r).2.1])]) (σ := fun z => z) (.inr ⟨.inr hst, rfl, _, _, _, _, rfl⟩) rfl (weak_ret (fun z => z) rfl rfl wH rfl)
                · rw [hR] at hst; exact finH (rs := [vB true]) rfl (r := vB true) (h' := heapF [(0, .box (planL q (fl 9 (k + 1) q.lat) (fl 10 (k + 1) q.tape) (fl 11 (k + 1) q.prog))), (1, .box [vS (cutL 10 r).2.1])]) (σ := fun z => z) (.inl ⟨q, ⟨hE, hst, hqo⟩, rfl, rfl⟩) rfl (weak_ret (fun z => z) rfl rfl wH rfl)
              · refine aGo [14] (by kernel_rfl) rfl ⟨?_, trivial⟩
                refine sOk (b := false) (d := 32) (x := vB (cond2 (cond2 true true false) false false)) rfl (by kernel_rfl) rfl rfl rfl ?_
                refine aGo [15] (by kernel_rfl) rfl ⟨?_, trivial⟩
                refine sOk (b := false) (d := 33) (x := vB (cond2 (cond2 true true false) false false)) rfl (by kernel_rfl) rfl rfl rfl ?_
                refine aGo [16] (by kernel_rfl) rfl ⟨?_, trivial⟩
                refine sfOk (b := false) (d := 34) (x := .agg [vI q.mode, vI q.width, vI q.rob, vI q.queue, vI q.stores, vI q.slots, vI q.sets, vI q.ways, .sl 1 (q.lat.map rowI) a2, vB q.tables, .sl 1 (q.tape.map rowU) b2, .sl 1 (q.prog.map rowU) c2, vS q.mem, vI q.cycles]) rfl (by kernel_rfl) rfl rfl rfl rfl rfl rfl ?_
                refine aGo [17] (by kernel_rfl) rfl ⟨?_, trivial⟩
                refine sfCallS (b := false) (args := [.agg [vI q.mode, vI q.width, vI q.rob, vI q.queue, vI q.stores, vI q.slots, vI q.sets, vI q.ways, .sl 1 (q.lat.map rowI) a2, vB q.tables, .sl 1 (q.tape.map rowU) b2, .sl 1 (q.prog.map rowU) c2, vS q.mem, vI q.cycles]]) (d := 35) (x := vB (rightP q)) rfl (by kernel_rfl) rfl rfl rfl rfl rfl rfl rfl (.inl rfl) rfl ?_
                refine aGo [18] (by kernel_rfl) rfl ⟨?_, trivial⟩
                refine sNeed (b := false) (d := 36) (x := vB (cond2 (cond2 (cond2 true true false) false false) (rightP q) false)) rfl (by kernel_rfl) rfl rfl rfl (fun h => h) ?_
                refine aGo [19] (by kernel_rfl) rfl ⟨?_, trivial⟩
                refine sOk (b := false) (d := 4) (x := vB (cond2 (cond2 (cond2 true true false) false false) (rightP q) false)) rfl (by kernel_rfl) rfl rfl rfl <| aEnd (n' := 37) (by kernel_rfl) rfl <| cRet ?_
                exact finH (rs := [vB false]) rfl (r := vB false) (h' := heapF [(0, .box (planL q a2 b2 c2)), (1, .box [vS (cutL 10 r).2.1])]) (σ := fun z => z) (.inr ⟨.inr (stepM_read hws hq), rfl, _, _, _, _, rfl⟩) rfl (weak_ret (fun z => z) rfl rfl wH rfl)
        · refine sgCall (b := false) (args := [vN k]) (d := 24) (x := vS (nameL k)) rfl (by kernel_rfl) rfl rfl rfl rfl rfl rfl rfl (.inl rfl) rfl (dName k hk) ?_
          refine aGo [4] (by kernel_rfl) rfl ⟨?_, trivial⟩
          refine sgOk (b := true) (d := 22) (x := vS w0) rfl (by kernel_rfl) rfl rfl rfl rfl rfl rfl ?_
          refine aGo [7] (by kernel_rfl) rfl ⟨?_, trivial⟩
          refine sgOk (b := false) (d := 25) (x := vB true) rfl (by kernel_rfl) rfl rfl rfl rfl rfl (okBo ((eq_tL w0 (nameL k)).trans (decide_eq_true hN2))) ?_
          refine aGo [8] (by kernel_rfl) rfl ⟨?_, trivial⟩
          refine sOk (b := false) (d := 26) (x := vB (cond2 true true false)) rfl (by kernel_rfl) rfl rfl rfl ?_
          refine aGo [9] (by kernel_rfl) rfl ⟨?_, trivial⟩
          refine sOk (b := false) (d := 27) (x := vB (cond2 true true false)) rfl (by kernel_rfl) rfl rfl rfl ?_
          refine aGo [10, 11] (by kernel_rfl) rfl ⟨?_, ?_, trivial⟩
          · refine sgOk (b := false) (d := 28) (x := vN k) rfl (by kernel_rfl) rfl rfl rfl rfl rfl rfl ?_
            refine aGo [11] (by kernel_rfl) rfl ⟨?_, trivial⟩
            refine sgOk (b := false) (d := 29) (x := .sl 1 ((w0 :: t).map rowS) false) rfl (by kernel_rfl) rfl rfl rfl rfl rfl rfl ?_
            refine aGo [12] (by kernel_rfl) rfl ⟨?_, trivial⟩
            refine sgNeed (b := false) (d := 30) (x := .sl 1 (t.map rowS) (false && true)) rfl (by kernel_rfl) rfl rfl rfl rfl rfl (needS (sliceL rowS (w0 :: t) 1)) (by refine ⟨?_, ?_, ?_⟩; all_goals (first | decide | (apply Int.ofNat_le.2; exact omT))) ?_
            refine aGo [13] (by kernel_rfl) rfl ⟨?_, trivial⟩
            refine sgH (args := [.ptr 0 0, vN k, .sl 1 (t.map rowS) (false && true)]) (d := 31) _ rfl rfl rfl rfl rfl rfl rfl (by kernel_rfl) (readAt L.ix hk ht hw rfl rfl) ?_
            rintro _ _ (⟨q, hq, rfl, rfl⟩ | ⟨hq, rfl, q, a2, b2, c2, rfl⟩)
            · have hqo := readM_ok hp ht hw hq
              refine aGo [14] (by kernel_rfl) rfl ⟨?_, trivial⟩
              refine sOk (b := false) (d := 32) (x := vB (cond2 (cond2 true true false) true false)) rfl (by kernel_rfl) rfl rfl rfl ?_
              refine aGo [15] (by kernel_rfl) rfl ⟨?_, trivial⟩
              refine sOk (b := false) (d := 33) (x := vB (cond2 (cond2 true true false) true false)) rfl (by kernel_rfl) rfl rfl rfl ?_
              refine aGo [16] (by kernel_rfl) rfl ⟨?_, trivial⟩
              refine sgOk (b := false) (d := 34) (x := .agg [vI q.mode, vI q.width, vI q.rob, vI q.queue, vI q.stores, vI q.slots, vI q.sets, vI q.ways, .sl 1 (q.lat.map rowI) (fl 9 (k + 1) q.lat), vB q.tables, .sl 1 (q.tape.map rowU) (fl 10 (k + 1) q.tape), .sl 1 (q.prog.map rowU) (fl 11 (k + 1) q.prog), vS q.mem, vI q.cycles]) rfl (by kernel_rfl) rfl rfl rfl rfl rfl rfl ?_
              refine aGo [17] (by kernel_rfl) rfl ⟨?_, trivial⟩
              refine sgCall (b := false) (args := [.agg [vI q.mode, vI q.width, vI q.rob, vI q.queue, vI q.stores, vI q.slots, vI q.sets, vI q.ways, .sl 1 (q.lat.map rowI) (fl 9 (k + 1) q.lat), vB q.tables, .sl 1 (q.tape.map rowU) (fl 10 (k + 1) q.tape), .sl 1 (q.prog.map rowU) (fl 11 (k + 1) q.prog), vS q.mem, vI q.cycles]]) (d := 35) (x := vB (rightP q)) rfl (by kernel_rfl) rfl rfl rfl rfl rfl rfl rfl (.inl rfl) rfl (dRight q _ _ _ hqo) ?_
              refine aGo [18] (by kernel_rfl) rfl ⟨?_, trivial⟩
              refine sOk (b := false) (d := 36) (x := vB (cond2 (cond2 (cond2 true true false) true false) (rightP q) false)) rfl (by kernel_rfl) rfl rfl rfl ?_
              refine aGo [19] (by kernel_rfl) rfl ⟨?_, trivial⟩
              refine sOk (b := false) (d := 4) (x := vB (cond2 (cond2 (cond2 true true false) true false) (rightP q) false)) rfl (by kernel_rfl) rfl rfl rfl <| aEnd (n' := 37) (by kernel_rfl) rfl <| cRet ?_
              have hst := stepM_right hws hN2 hq hqo
              rcases hR : rightP q with _ | _
              · rw [hR] at hst; exact finH (rs := [vB false]) rfl (r := vB false) (h' := heapF [(0, .box (planL q (fl 9 (k + 1) q.lat) (fl 10 (k + 1) q.tape) (fl 11 (k + 1) q.prog))), (1, .box [vS (cutL 10 r).2.1])]) (σ := fun z => z) (.inr ⟨.inr hst, rfl, _, _, _, _, rfl⟩) rfl (weak_ret (fun z => z) rfl rfl wH rfl)
              · rw [hR] at hst; exact finH (rs := [vB true]) rfl (r := vB true) (h' := heapF [(0, .box (planL q (fl 9 (k + 1) q.lat) (fl 10 (k + 1) q.tape) (fl 11 (k + 1) q.prog))), (1, .box [vS (cutL 10 r).2.1])]) (σ := fun z => z) (.inl ⟨q, ⟨hE, hst, hqo⟩, rfl, rfl⟩) rfl (weak_ret (fun z => z) rfl rfl wH rfl)
            · refine aGo [14] (by kernel_rfl) rfl ⟨?_, trivial⟩
              refine sOk (b := false) (d := 32) (x := vB (cond2 (cond2 true true false) false false)) rfl (by kernel_rfl) rfl rfl rfl ?_
              refine aGo [15] (by kernel_rfl) rfl ⟨?_, trivial⟩
              refine sOk (b := false) (d := 33) (x := vB (cond2 (cond2 true true false) false false)) rfl (by kernel_rfl) rfl rfl rfl ?_
              refine aGo [16] (by kernel_rfl) rfl ⟨?_, trivial⟩
              refine sfOk (b := false) (d := 34) (x := .agg [vI q.mode, vI q.width, vI q.rob, vI q.queue, vI q.stores, vI q.slots, vI q.sets, vI q.ways, .sl 1 (q.lat.map rowI) a2, vB q.tables, .sl 1 (q.tape.map rowU) b2, .sl 1 (q.prog.map rowU) c2, vS q.mem, vI q.cycles]) rfl (by kernel_rfl) rfl rfl rfl rfl rfl rfl ?_
              refine aGo [17] (by kernel_rfl) rfl ⟨?_, trivial⟩
              refine sfCallS (b := false) (args := [.agg [vI q.mode, vI q.width, vI q.rob, vI q.queue, vI q.stores, vI q.slots, vI q.sets, vI q.ways, .sl 1 (q.lat.map rowI) a2, vB q.tables, .sl 1 (q.tape.map rowU) b2, .sl 1 (q.prog.map rowU) c2, vS q.mem, vI q.cycles]]) (d := 35) (x := vB (rightP q)) rfl (by kernel_rfl) rfl rfl rfl rfl rfl rfl rfl (.inl rfl) rfl ?_
              refine aGo [18] (by kernel_rfl) rfl ⟨?_, trivial⟩
              refine sNeed (b := false) (d := 36) (x := vB (cond2 (cond2 (cond2 true true false) false false) (rightP q) false)) rfl (by kernel_rfl) rfl rfl rfl (fun h => h) ?_
              refine aGo [19] (by kernel_rfl) rfl ⟨?_, trivial⟩
              refine sOk (b := false) (d := 4) (x := vB (cond2 (cond2 (cond2 true true false) false false) (rightP q) false)) rfl (by kernel_rfl) rfl rfl rfl <| aEnd (n' := 37) (by kernel_rfl) rfl <| cRet ?_
              exact finH (rs := [vB false]) rfl (r := vB false) (h' := heapF [(0, .box (planL q a2 b2 c2)), (1, .box [vS (cutL 10 r).2.1])]) (σ := fun z => z) (.inr ⟨.inr (stepM_read hws hq), rfl, _, _, _, _, rfl⟩) rfl (weak_ret (fun z => z) rfl rfl wH rfl)
          · refine sgOk (b := false) (d := 29) (x := .sl 1 ((w0 :: t).map rowS) false) rfl (by kernel_rfl) rfl rfl rfl rfl rfl rfl ?_
            refine aGo [10, 12] (by kernel_rfl) rfl ⟨?_, ?_, trivial⟩
            · refine sgOk (b := true) (d := 28) (x := vN k) rfl (by kernel_rfl) rfl rfl rfl rfl rfl rfl ?_
              refine aGo [12] (by kernel_rfl) rfl ⟨?_, trivial⟩
              refine sgNeed (b := false) (d := 30) (x := .sl 1 (t.map rowS) (false && true)) rfl (by kernel_rfl) rfl rfl rfl rfl rfl (needS (sliceL rowS (w0 :: t) 1)) (by refine ⟨?_, ?_, ?_⟩; all_goals (first | decide | (apply Int.ofNat_le.2; exact omT))) ?_
              refine aGo [13] (by kernel_rfl) rfl ⟨?_, trivial⟩
              refine sgH (args := [.ptr 0 0, vN k, .sl 1 (t.map rowS) (false && true)]) (d := 31) _ rfl rfl rfl rfl rfl rfl rfl (by kernel_rfl) (readAt L.ix hk ht hw rfl rfl) ?_
              rintro _ _ (⟨q, hq, rfl, rfl⟩ | ⟨hq, rfl, q, a2, b2, c2, rfl⟩)
              · have hqo := readM_ok hp ht hw hq
                refine aGo [14] (by kernel_rfl) rfl ⟨?_, trivial⟩
                refine sOk (b := false) (d := 32) (x := vB (cond2 (cond2 true true false) true false)) rfl (by kernel_rfl) rfl rfl rfl ?_
                refine aGo [15] (by kernel_rfl) rfl ⟨?_, trivial⟩
                refine sOk (b := false) (d := 33) (x := vB (cond2 (cond2 true true false) true false)) rfl (by kernel_rfl) rfl rfl rfl ?_
                refine aGo [16] (by kernel_rfl) rfl ⟨?_, trivial⟩
                refine sgOk (b := false) (d := 34) (x := .agg [vI q.mode, vI q.width, vI q.rob, vI q.queue, vI q.stores, vI q.slots, vI q.sets, vI q.ways, .sl 1 (q.lat.map rowI) (fl 9 (k + 1) q.lat), vB q.tables, .sl 1 (q.tape.map rowU) (fl 10 (k + 1) q.tape), .sl 1 (q.prog.map rowU) (fl 11 (k + 1) q.prog), vS q.mem, vI q.cycles]) rfl (by kernel_rfl) rfl rfl rfl rfl rfl rfl ?_
                refine aGo [17] (by kernel_rfl) rfl ⟨?_, trivial⟩
                refine sgCall (b := false) (args := [.agg [vI q.mode, vI q.width, vI q.rob, vI q.queue, vI q.stores, vI q.slots, vI q.sets, vI q.ways, .sl 1 (q.lat.map rowI) (fl 9 (k + 1) q.lat), vB q.tables, .sl 1 (q.tape.map rowU) (fl 10 (k + 1) q.tape), .sl 1 (q.prog.map rowU) (fl 11 (k + 1) q.prog), vS q.mem, vI q.cycles]]) (d := 35) (x := vB (rightP q)) rfl (by kernel_rfl) rfl rfl rfl rfl rfl rfl rfl (.inl rfl) rfl (dRight q _ _ _ hqo) ?_
                refine aGo [18] (by kernel_rfl) rfl ⟨?_, trivial⟩
                refine sOk (b := false) (d := 36) (x := vB (cond2 (cond2 (cond2 true true false) true false) (rightP q) false)) rfl (by kernel_rfl) rfl rfl rfl ?_
                refine aGo [19] (by kernel_rfl) rfl ⟨?_, trivial⟩
                refine sOk (b := false) (d := 4) (x := vB (cond2 (cond2 (cond2 true true false) true false) (rightP q) false)) rfl (by kernel_rfl) rfl rfl rfl <| aEnd (n' := 37) (by kernel_rfl) rfl <| cRet ?_
                have hst := stepM_right hws hN2 hq hqo
                rcases hR : rightP q with _ | _
                · rw [hR] at hst; exact finH (rs := [vB false]) rfl (r := vB false) (h' := heapF [(0, .box (planL q (fl 9 (k + 1) q.lat) (fl 10 (k + 1) q.tape) (fl 11 (k + 1) q.prog))), (1, .box [vS (cutL 10 r).2.1])]) (σ := fun z => z) (.inr ⟨.inr hst, rfl, _, _, _, _, rfl⟩) rfl (weak_ret (fun z => z) rfl rfl wH rfl)
                · rw [hR] at hst; exact finH (rs := [vB true]) rfl (r := vB true) (h' := heapF [(0, .box (planL q (fl 9 (k + 1) q.lat) (fl 10 (k + 1) q.tape) (fl 11 (k + 1) q.prog))), (1, .box [vS (cutL 10 r).2.1])]) (σ := fun z => z) (.inl ⟨q, ⟨hE, hst, hqo⟩, rfl, rfl⟩) rfl (weak_ret (fun z => z) rfl rfl wH rfl)
              · refine aGo [14] (by kernel_rfl) rfl ⟨?_, trivial⟩
                refine sOk (b := false) (d := 32) (x := vB (cond2 (cond2 true true false) false false)) rfl (by kernel_rfl) rfl rfl rfl ?_
                refine aGo [15] (by kernel_rfl) rfl ⟨?_, trivial⟩
                refine sOk (b := false) (d := 33) (x := vB (cond2 (cond2 true true false) false false)) rfl (by kernel_rfl) rfl rfl rfl ?_
                refine aGo [16] (by kernel_rfl) rfl ⟨?_, trivial⟩
                refine sfOk (b := false) (d := 34) (x := .agg [vI q.mode, vI q.width, vI q.rob, vI q.queue, vI q.stores, vI q.slots, vI q.sets, vI q.ways, .sl 1 (q.lat.map rowI) a2, vB q.tables, .sl 1 (q.tape.map rowU) b2, .sl 1 (q.prog.map rowU) c2, vS q.mem, vI q.cycles]) rfl (by kernel_rfl) rfl rfl rfl rfl rfl rfl ?_
                refine aGo [17] (by kernel_rfl) rfl ⟨?_, trivial⟩
                refine sfCallS (b := false) (args := [.agg [vI q.mode, vI q.width, vI q.rob, vI q.queue, vI q.stores, vI q.slots, vI q.sets, vI q.ways, .sl 1 (q.lat.map rowI) a2, vB q.tables, .sl 1 (q.tape.map rowU) b2, .sl 1 (q.prog.map rowU) c2, vS q.mem, vI q.cycles]]) (d := 35) (x := vB (rightP q)) rfl (by kernel_rfl) rfl rfl rfl rfl rfl rfl rfl (.inl rfl) rfl ?_
                refine aGo [18] (by kernel_rfl) rfl ⟨?_, trivial⟩
                refine sNeed (b := false) (d := 36) (x := vB (cond2 (cond2 (cond2 true true false) false false) (rightP q) false)) rfl (by kernel_rfl) rfl rfl rfl (fun h => h) ?_
                refine aGo [19] (by kernel_rfl) rfl ⟨?_, trivial⟩
                refine sOk (b := false) (d := 4) (x := vB (cond2 (cond2 (cond2 true true false) false false) (rightP q) false)) rfl (by kernel_rfl) rfl rfl rfl <| aEnd (n' := 37) (by kernel_rfl) rfl <| cRet ?_
                exact finH (rs := [vB false]) rfl (r := vB false) (h' := heapF [(0, .box (planL q a2 b2 c2)), (1, .box [vS (cutL 10 r).2.1])]) (σ := fun z => z) (.inr ⟨.inr (stepM_read hws hq), rfl, _, _, _, _, rfl⟩) rfl (weak_ret (fun z => z) rfl rfl wH rfl)
            · refine sgNeed (b := false) (d := 30) (x := .sl 1 (t.map rowS) (false && true)) rfl (by kernel_rfl) rfl rfl rfl rfl rfl (needS (sliceL rowS (w0 :: t) 1)) (by refine ⟨?_, ?_, ?_⟩; all_goals (first | decide | (apply Int.ofNat_le.2; exact omT))) ?_
              refine aGo [10] (by kernel_rfl) rfl ⟨?_, trivial⟩
              refine sgOk (b := true) (d := 28) (x := vN k) rfl (by kernel_rfl) rfl rfl rfl rfl rfl rfl ?_
              refine aGo [13] (by kernel_rfl) rfl ⟨?_, trivial⟩
              refine sgH (args := [.ptr 0 0, vN k, .sl 1 (t.map rowS) (false && true)]) (d := 31) _ rfl rfl rfl rfl rfl rfl rfl (by kernel_rfl) (readAt L.ix hk ht hw rfl rfl) ?_
              rintro _ _ (⟨q, hq, rfl, rfl⟩ | ⟨hq, rfl, q, a2, b2, c2, rfl⟩)
              · have hqo := readM_ok hp ht hw hq
                refine aGo [14] (by kernel_rfl) rfl ⟨?_, trivial⟩
                refine sOk (b := false) (d := 32) (x := vB (cond2 (cond2 true true false) true false)) rfl (by kernel_rfl) rfl rfl rfl ?_
                refine aGo [15] (by kernel_rfl) rfl ⟨?_, trivial⟩
                refine sOk (b := false) (d := 33) (x := vB (cond2 (cond2 true true false) true false)) rfl (by kernel_rfl) rfl rfl rfl ?_
                refine aGo [16] (by kernel_rfl) rfl ⟨?_, trivial⟩
                refine sgOk (b := false) (d := 34) (x := .agg [vI q.mode, vI q.width, vI q.rob, vI q.queue, vI q.stores, vI q.slots, vI q.sets, vI q.ways, .sl 1 (q.lat.map rowI) (fl 9 (k + 1) q.lat), vB q.tables, .sl 1 (q.tape.map rowU) (fl 10 (k + 1) q.tape), .sl 1 (q.prog.map rowU) (fl 11 (k + 1) q.prog), vS q.mem, vI q.cycles]) rfl (by kernel_rfl) rfl rfl rfl rfl rfl rfl ?_
                refine aGo [17] (by kernel_rfl) rfl ⟨?_, trivial⟩
                refine sgCall (b := false) (args := [.agg [vI q.mode, vI q.width, vI q.rob, vI q.queue, vI q.stores, vI q.slots, vI q.sets, vI q.ways, .sl 1 (q.lat.map rowI) (fl 9 (k + 1) q.lat), vB q.tables, .sl 1 (q.tape.map rowU) (fl 10 (k + 1) q.tape), .sl 1 (q.prog.map rowU) (fl 11 (k + 1) q.prog), vS q.mem, vI q.cycles]]) (d := 35) (x := vB (rightP q)) rfl (by kernel_rfl) rfl rfl rfl rfl rfl rfl rfl (.inl rfl) rfl (dRight q _ _ _ hqo) ?_
                refine aGo [18] (by kernel_rfl) rfl ⟨?_, trivial⟩
                refine sOk (b := false) (d := 36) (x := vB (cond2 (cond2 (cond2 true true false) true false) (rightP q) false)) rfl (by kernel_rfl) rfl rfl rfl ?_
                refine aGo [19] (by kernel_rfl) rfl ⟨?_, trivial⟩
                refine sOk (b := false) (d := 4) (x := vB (cond2 (cond2 (cond2 true true false) true false) (rightP q) false)) rfl (by kernel_rfl) rfl rfl rfl <| aEnd (n' := 37) (by kernel_rfl) rfl <| cRet ?_
                have hst := stepM_right hws hN2 hq hqo
                rcases hR : rightP q with _ | _
                · rw [hR] at hst; exact finH (rs := [vB false]) rfl (r := vB false) (h' := heapF [(0, .box (planL q (fl 9 (k + 1) q.lat) (fl 10 (k + 1) q.tape) (fl 11 (k + 1) q.prog))), (1, .box [vS (cutL 10 r).2.1])]) (σ := fun z => z) (.inr ⟨.inr hst, rfl, _, _, _, _, rfl⟩) rfl (weak_ret (fun z => z) rfl rfl wH rfl)
                · rw [hR] at hst; exact finH (rs := [vB true]) rfl (r := vB true) (h' := heapF [(0, .box (planL q (fl 9 (k + 1) q.lat) (fl 10 (k + 1) q.tape) (fl 11 (k + 1) q.prog))), (1, .box [vS (cutL 10 r).2.1])]) (σ := fun z => z) (.inl ⟨q, ⟨hE, hst, hqo⟩, rfl, rfl⟩) rfl (weak_ret (fun z => z) rfl rfl wH rfl)
              · refine aGo [14] (by kernel_rfl) rfl ⟨?_, trivial⟩
                refine sOk (b := false) (d := 32) (x := vB (cond2 (cond2 true true false) false false)) rfl (by kernel_rfl) rfl rfl rfl ?_
                refine aGo [15] (by kernel_rfl) rfl ⟨?_, trivial⟩
                refine sOk (b := false) (d := 33) (x := vB (cond2 (cond2 true true false) false false)) rfl (by kernel_rfl) rfl rfl rfl ?_
                refine aGo [16] (by kernel_rfl) rfl ⟨?_, trivial⟩
                refine sfOk (b := false) (d := 34) (x := .agg [vI q.mode, vI q.width, vI q.rob, vI q.queue, vI q.stores, vI q.slots, vI q.sets, vI q.ways, .sl 1 (q.lat.map rowI) a2, vB q.tables, .sl 1 (q.tape.map rowU) b2, .sl 1 (q.prog.map rowU) c2, vS q.mem, vI q.cycles]) rfl (by kernel_rfl) rfl rfl rfl rfl rfl rfl ?_
                refine aGo [17] (by kernel_rfl) rfl ⟨?_, trivial⟩
                refine sfCallS (b := false) (args := [.agg [vI q.mode, vI q.width, vI q.rob, vI q.queue, vI q.stores, vI q.slots, vI q.sets, vI q.ways, .sl 1 (q.lat.map rowI) a2, vB q.tables, .sl 1 (q.tape.map rowU) b2, .sl 1 (q.prog.map rowU) c2, vS q.mem, vI q.cycles]]) (d := 35) (x := vB (rightP q)) rfl (by kernel_rfl) rfl rfl rfl rfl rfl rfl rfl (.inl rfl) rfl ?_
                refine aGo [18] (by kernel_rfl) rfl ⟨?_, trivial⟩
                refine sNeed (b := false) (d := 36) (x := vB (cond2 (cond2 (cond2 true true false) false false) (rightP q) false)) rfl (by kernel_rfl) rfl rfl rfl (fun h => h) ?_
                refine aGo [19] (by kernel_rfl) rfl ⟨?_, trivial⟩
                refine sOk (b := false) (d := 4) (x := vB (cond2 (cond2 (cond2 true true false) false false) (rightP q) false)) rfl (by kernel_rfl) rfl rfl rfl <| aEnd (n' := 37) (by kernel_rfl) rfl <| cRet ?_
                exact finH (rs := [vB false]) rfl (r := vB false) (h' := heapF [(0, .box (planL q a2 b2 c2)), (1, .box [vS (cutL 10 r).2.1])]) (σ := fun z => z) (.inr ⟨.inr (stepM_read hws hq), rfl, _, _, _, _, rfl⟩) rfl (weak_ret (fun z => z) rfl rfl wH rfl)
      · refine sgCall (b := false) (args := [vN k]) (d := 24) (x := vS (nameL k)) rfl (by kernel_rfl) rfl rfl rfl rfl rfl rfl rfl (.inl rfl) rfl (dName k hk) ?_
        refine aGo [3] (by kernel_rfl) rfl ⟨?_, trivial⟩
        refine sgIdx (b := true) (rowS w0) (d := 21) (x := .dp 1 0 (rowS w0)) rfl (by kernel_rfl) rfl rfl rfl rfl rfl rfl (⟨by decide, getM (l := w0 :: t) (k := 0) rfl⟩) rfl ?_
        refine aGo [4] (by kernel_rfl) rfl ⟨?_, trivial⟩
        refine sgOk (b := true) (d := 22) (x := vS w0) rfl (by kernel_rfl) rfl rfl rfl rfl rfl rfl ?_
        refine aGo [7] (by kernel_rfl) rfl ⟨?_, trivial⟩
        refine sgOk (b := false) (d := 25) (x := vB true) rfl (by kernel_rfl) rfl rfl rfl rfl rfl (okBo ((eq_tL w0 (nameL k)).trans (decide_eq_true hN2))) ?_
        refine aGo [8] (by kernel_rfl) rfl ⟨?_, trivial⟩
        refine sOk (b := false) (d := 26) (x := vB (cond2 true true false)) rfl (by kernel_rfl) rfl rfl rfl ?_
        refine aGo [9] (by kernel_rfl) rfl ⟨?_, trivial⟩
        refine sOk (b := false) (d := 27) (x := vB (cond2 true true false)) rfl (by kernel_rfl) rfl rfl rfl ?_
        refine aGo [10, 11] (by kernel_rfl) rfl ⟨?_, ?_, trivial⟩
        · refine sgOk (b := false) (d := 28) (x := vN k) rfl (by kernel_rfl) rfl rfl rfl rfl rfl rfl ?_
          refine aGo [11] (by kernel_rfl) rfl ⟨?_, trivial⟩
          refine sgOk (b := false) (d := 29) (x := .sl 1 ((w0 :: t).map rowS) false) rfl (by kernel_rfl) rfl rfl rfl rfl rfl rfl ?_
          refine aGo [12] (by kernel_rfl) rfl ⟨?_, trivial⟩
          refine sgNeed (b := false) (d := 30) (x := .sl 1 (t.map rowS) (false && true)) rfl (by kernel_rfl) rfl rfl rfl rfl rfl (needS (sliceL rowS (w0 :: t) 1)) (by refine ⟨?_, ?_, ?_⟩; all_goals (first | decide | (apply Int.ofNat_le.2; exact omT))) ?_
          refine aGo [13] (by kernel_rfl) rfl ⟨?_, trivial⟩
          refine sgH (args := [.ptr 0 0, vN k, .sl 1 (t.map rowS) (false && true)]) (d := 31) _ rfl rfl rfl rfl rfl rfl rfl (by kernel_rfl) (readAt L.ix hk ht hw rfl rfl) ?_
          rintro _ _ (⟨q, hq, rfl, rfl⟩ | ⟨hq, rfl, q, a2, b2, c2, rfl⟩)
          · have hqo := readM_ok hp ht hw hq
            refine aGo [14] (by kernel_rfl) rfl ⟨?_, trivial⟩
            refine sOk (b := false) (d := 32) (x := vB (cond2 (cond2 true true false) true false)) rfl (by kernel_rfl) rfl rfl rfl ?_
            refine aGo [15] (by kernel_rfl) rfl ⟨?_, trivial⟩
            refine sOk (b := false) (d := 33) (x := vB (cond2 (cond2 true true false) true false)) rfl (by kernel_rfl) rfl rfl rfl ?_
            refine aGo [16] (by kernel_rfl) rfl ⟨?_, trivial⟩
            refine sgOk (b := false) (d := 34) (x := .agg [vI q.mode, vI q.width, vI q.rob, vI q.queue, vI q.stores, vI q.slots, vI q.sets, vI q.ways, .sl 1 (q.lat.map rowI) (fl 9 (k + 1) q.lat), vB q.tables, .sl 1 (q.tape.map rowU) (fl 10 (k + 1) q.tape), .sl 1 (q.prog.map rowU) (fl 11 (k + 1) q.prog), vS q.mem, vI q.cycles]) rfl (by kernel_rfl) rfl rfl rfl rfl rfl rfl ?_
            refine aGo [17] (by kernel_rfl) rfl ⟨?_, trivial⟩
            refine sgCall (b := false) (args := [.agg [vI q.mode, vI q.width, vI q.rob, vI q.queue, vI q.stores, vI q.slots, vI q.sets, vI q.ways, .sl 1 (q.lat.map rowI) (fl 9 (k + 1) q.lat), vB q.tables, .sl 1 (q.tape.map rowU) (fl 10 (k + 1) q.tape), .sl 1 (q.prog.map rowU) (fl 11 (k + 1) q.prog), vS q.mem, vI q.cycles]]) (d := 35) (x := vB (rightP q)) rfl (by kernel_rfl) rfl rfl rfl rfl rfl rfl rfl (.inl rfl) rfl (dRight q _ _ _ hqo) ?_
            refine aGo [18] (by kernel_rfl) rfl ⟨?_, trivial⟩
            refine sOk (b := false) (d := 36) (x := vB (cond2 (cond2 (cond2 true true false) true false) (rightP q) false)) rfl (by kernel_rfl) rfl rfl rfl ?_
            refine aGo [19] (by kernel_rfl) rfl ⟨?_, trivial⟩
            refine sOk (b := false) (d := 4) (x := vB (cond2 (cond2 (cond2 true true false) true false) (rightP q) false)) rfl (by kernel_rfl) rfl rfl rfl <| aEnd (n' := 37) (by kernel_rfl) rfl <| cRet ?_
            have hst := stepM_right hws hN2 hq hqo
            rcases hR : rightP q with _ | _
            · rw [hR] at hst; exact finH (rs := [vB false]) rfl (r := vB false) (h' := heapF [(0, .box (planL q (fl 9 (k + 1) q.lat) (fl 10 (k + 1) q.tape) (fl 11 (k + 1) q.prog))), (1, .box [vS (cutL 10 r).2.1])]) (σ := fun z => z) (.inr ⟨.inr hst, rfl, _, _, _, _, rfl⟩) rfl (weak_ret (fun z => z) rfl rfl wH rfl)
            · rw [hR] at hst; exact finH (rs := [vB true]) rfl (r := vB true) (h' := heapF [(0, .box (planL q (fl 9 (k + 1) q.lat) (fl 10 (k + 1) q.tape) (fl 11 (k + 1) q.prog))), (1, .box [vS (cutL 10 r).2.1])]) (σ := fun z => z) (.inl ⟨q, ⟨hE, hst, hqo⟩, rfl, rfl⟩) rfl (weak_ret (fun z => z) rfl rfl wH rfl)
          · refine aGo [14] (by kernel_rfl) rfl ⟨?_, trivial⟩
            refine sOk (b := false) (d := 32) (x := vB (cond2 (cond2 true true false) false false)) rfl (by kernel_rfl) rfl rfl rfl ?_
            refine aGo [15] (by kernel_rfl) rfl ⟨?_, trivial⟩
            refine sOk (b := false) (d := 33) (x := vB (cond2 (cond2 true true false) false false)) rfl (by kernel_rfl) rfl rfl rfl ?_
            refine aGo [16] (by kernel_rfl) rfl ⟨?_, trivial⟩
            refine sfOk (b := false) (d := 34) (x := .agg [vI q.mode, vI q.width, vI q.rob, vI q.queue, vI q.stores, vI q.slots, vI q.sets, vI q.ways, .sl 1 (q.lat.map rowI) a2, vB q.tables, .sl 1 (q.tape.map rowU) b2, .sl 1 (q.prog.map rowU) c2, vS q.mem, vI q.cycles]) rfl (by kernel_rfl) rfl rfl rfl rfl rfl rfl ?_
            refine aGo [17] (by kernel_rfl) rfl ⟨?_, trivial⟩
            refine sfCallS (b := false) (args := [.agg [vI q.mode, vI q.width, vI q.rob, vI q.queue, vI q.stores, vI q.slots, vI q.sets, vI q.ways, .sl 1 (q.lat.map rowI) a2, vB q.tables, .sl 1 (q.tape.map rowU) b2, .sl 1 (q.prog.map rowU) c2, vS q.mem, vI q.cycles]]) (d := 35) (x := vB (rightP q)) rfl (by kernel_rfl) rfl rfl rfl rfl rfl rfl rfl (.inl rfl) rfl ?_
            refine aGo [18] (by kernel_rfl) rfl ⟨?_, trivial⟩
            refine sNeed (b := false) (d := 36) (x := vB (cond2 (cond2 (cond2 true true false) false false) (rightP q) false)) rfl (by kernel_rfl) rfl rfl rfl (fun h => h) ?_
            refine aGo [19] (by kernel_rfl) rfl ⟨?_, trivial⟩
            refine sOk (b := false) (d := 4) (x := vB (cond2 (cond2 (cond2 true true false) false false) (rightP q) false)) rfl (by kernel_rfl) rfl rfl rfl <| aEnd (n' := 37) (by kernel_rfl) rfl <| cRet ?_
            exact finH (rs := [vB false]) rfl (r := vB false) (h' := heapF [(0, .box (planL q a2 b2 c2)), (1, .box [vS (cutL 10 r).2.1])]) (σ := fun z => z) (.inr ⟨.inr (stepM_read hws hq), rfl, _, _, _, _, rfl⟩) rfl (weak_ret (fun z => z) rfl rfl wH rfl)
        · refine sgOk (b := false) (d := 29) (x := .sl 1 ((w0 :: t).map rowS) false) rfl (by kernel_rfl) rfl rfl rfl rfl rfl rfl ?_
          refine aGo [10, 12] (by kernel_rfl) rfl ⟨?_, ?_, trivial⟩
          · refine sgOk (b := true) (d := 28) (x := vN k) rfl (by kernel_rfl) rfl rfl rfl rfl rfl rfl ?_
            refine aGo [12] (by kernel_rfl) rfl ⟨?_, trivial⟩
            refine sgNeed (b := false) (d := 30) (x := .sl 1 (t.map rowS) (false && true)) rfl (by kernel_rfl) rfl rfl rfl rfl rfl (needS (sliceL rowS (w0 :: t) 1)) (by refine ⟨?_, ?_, ?_⟩; all_goals (first | decide | (apply Int.ofNat_le.2; exact omT))) ?_
            refine aGo [13] (by kernel_rfl) rfl ⟨?_, trivial⟩
            refine sgH (args := [.ptr 0 0, vN k, .sl 1 (t.map rowS) (false && true)]) (d := 31) _ rfl rfl rfl rfl rfl rfl rfl (by kernel_rfl) (readAt L.ix hk ht hw rfl rfl) ?_
            rintro _ _ (⟨q, hq, rfl, rfl⟩ | ⟨hq, rfl, q, a2, b2, c2, rfl⟩)
            · have hqo := readM_ok hp ht hw hq
              refine aGo [14] (by kernel_rfl) rfl ⟨?_, trivial⟩
              refine sOk (b := false) (d := 32) (x := vB (cond2 (cond2 true true false) true false)) rfl (by kernel_rfl) rfl rfl rfl ?_
              refine aGo [15] (by kernel_rfl) rfl ⟨?_, trivial⟩
              refine sOk (b := false) (d := 33) (x := vB (cond2 (cond2 true true false) true false)) rfl (by kernel_rfl) rfl rfl rfl ?_
              refine aGo [16] (by kernel_rfl) rfl ⟨?_, trivial⟩
              refine sgOk (b := false) (d := 34) (x := .agg [vI q.mode, vI q.width, vI q.rob, vI q.queue, vI q.stores, vI q.slots, vI q.sets, vI q.ways, .sl 1 (q.lat.map rowI) (fl 9 (k + 1) q.lat), vB q.tables, .sl 1 (q.tape.map rowU) (fl 10 (k + 1) q.tape), .sl 1 (q.prog.map rowU) (fl 11 (k + 1) q.prog), vS q.mem, vI q.cycles]) rfl (by kernel_rfl) rfl rfl rfl rfl rfl rfl ?_
              refine aGo [17] (by kernel_rfl) rfl ⟨?_, trivial⟩
              refine sgCall (b := false) (args := [.agg [vI q.mode, vI q.width, vI q.rob, vI q.queue, vI q.stores, vI q.slots, vI q.sets, vI q.ways, .sl 1 (q.lat.map rowI) (fl 9 (k + 1) q.lat), vB q.tables, .sl 1 (q.tape.map rowU) (fl 10 (k + 1) q.tape), .sl 1 (q.prog.map rowU) (fl 11 (k + 1) q.prog), vS q.mem, vI q.cycles]]) (d := 35) (x := vB (rightP q)) rfl (by kernel_rfl) rfl rfl rfl rfl rfl rfl rfl (.inl rfl) rfl (dRight q _ _ _ hqo) ?_
              refine aGo [18] (by kernel_rfl) rfl ⟨?_, trivial⟩
              refine sOk (b := false) (d := 36) (x := vB (cond2 (cond2 (cond2 true true false) true false) (rightP q) false)) rfl (by kernel_rfl) rfl rfl rfl ?_
              refine aGo [19] (by kernel_rfl) rfl ⟨?_, trivial⟩
              refine sOk (b := false) (d := 4) (x := vB (cond2 (cond2 (cond2 true true false) true false) (rightP q) false)) rfl (by kernel_rfl) rfl rfl rfl <| aEnd (n' := 37) (by kernel_rfl) rfl <| cRet ?_
              have hst := stepM_right hws hN2 hq hqo
              rcases hR : rightP q with _ | _
              · rw [hR] at hst; exact finH (rs := [vB false]) rfl (r := vB false) (h' := heapF [(0, .box (planL q (fl 9 (k + 1) q.lat) (fl 10 (k + 1) q.tape) (fl 11 (k + 1) q.prog))), (1, .box [vS (cutL 10 r).2.1])]) (σ := fun z => z) (.inr ⟨.inr hst, rfl, _, _, _, _, rfl⟩) rfl (weak_ret (fun z => z) rfl rfl wH rfl)
              · rw [hR] at hst; exact finH (rs := [vB true]) rfl (r := vB true) (h' := heapF [(0, .box (planL q (fl 9 (k + 1) q.lat) (fl 10 (k + 1) q.tape) (fl 11 (k + 1) q.prog))), (1, .box [vS (cutL 10 r).2.1])]) (σ := fun z => z) (.inl ⟨q, ⟨hE, hst, hqo⟩, rfl, rfl⟩) rfl (weak_ret (fun z => z) rfl rfl wH rfl)
            · refine aGo [14] (by kernel_rfl) rfl ⟨?_, trivial⟩
              refine sOk (b := false) (d := 32) (x := vB (cond2 (cond2 true true false) false false)) rfl (by kernel_rfl) rfl rfl rfl ?_
              refine aGo [15] (by kernel_rfl) rfl ⟨?_, trivial⟩
              refine sOk (b := false) (d := 33) (x := vB (cond2 (cond2 true true false) false false)) rfl (by kernel_rfl) rfl rfl rfl ?_
              refine aGo [16] (by kernel_rfl) rfl ⟨?_, trivial⟩
              refine sfOk (b := false) (d := 34) (x := .agg [vI q.mode, vI q.width, vI q.rob, vI q.queue, vI q.stores, vI q.slots, vI q.sets, vI q.ways, .sl 1 (q.lat.map rowI) a2, vB q.tables, .sl 1 (q.tape.map rowU) b2, .sl 1 (q.prog.map rowU) c2, vS q.mem, vI q.cycles]) rfl (by kernel_rfl) rfl rfl rfl rfl rfl rfl ?_
              refine aGo [17] (by kernel_rfl) rfl ⟨?_, trivial⟩
              refine sfCallS (b := false) (args := [.agg [vI q.mode, vI q.width, vI q.rob, vI q.queue, vI q.stores, vI q.slots, vI q.sets, vI q.ways, .sl 1 (q.lat.map rowI) a2, vB q.tables, .sl 1 (q.tape.map rowU) b2, .sl 1 (q.prog.map rowU) c2, vS q.mem, vI q.cycles]]) (d := 35) (x := vB (rightP q)) rfl (by kernel_rfl) rfl rfl rfl rfl rfl rfl rfl (.inl rfl) rfl ?_
              refine aGo [18] (by kernel_rfl) rfl ⟨?_, trivial⟩
              refine sNeed (b := false) (d := 36) (x := vB (cond2 (cond2 (cond2 true true false) false false) (rightP q) false)) rfl (by kernel_rfl) rfl rfl rfl (fun h => h) ?_
              refine aGo [19] (by kernel_rfl) rfl ⟨?_, trivial⟩
              refine sOk (b := false) (d := 4) (x := vB (cond2 (cond2 (cond2 true true false) false false) (rightP q) false)) rfl (by kernel_rfl) rfl rfl rfl <| aEnd (n' := 37) (by kernel_rfl) rfl <| cRet ?_
              exact finH (rs := [vB false]) rfl (r := vB false) (h' := heapF [(0, .box (planL q a2 b2 c2)), (1, .box [vS (cutL 10 r).2.1])]) (σ := fun z => z) (.inr ⟨.inr (stepM_read hws hq), rfl, _, _, _, _, rfl⟩) rfl (weak_ret (fun z => z) rfl rfl wH rfl)
          · refine sgNeed (b := false) (d := 30) (x := .sl 1 (t.map rowS) (false && true)) rfl (by kernel_rfl) rfl rfl rfl rfl rfl (needS (sliceL rowS (w0 :: t) 1)) (by refine ⟨?_, ?_, ?_⟩; all_goals (first | decide | (apply Int.ofNat_le.2; exact omT))) ?_
            refine aGo [10] (by kernel_rfl) rfl ⟨?_, trivial⟩
            refine sgOk (b := true) (d := 28) (x := vN k) rfl (by kernel_rfl) rfl rfl rfl rfl rfl rfl ?_
            refine aGo [13] (by kernel_rfl) rfl ⟨?_, trivial⟩
            refine sgH (args := [.ptr 0 0, vN k, .sl 1 (t.map rowS) (false && true)]) (d := 31) _ rfl rfl rfl rfl rfl rfl rfl (by kernel_rfl) (readAt L.ix hk ht hw rfl rfl) ?_
            rintro _ _ (⟨q, hq, rfl, rfl⟩ | ⟨hq, rfl, q, a2, b2, c2, rfl⟩)
            · have hqo := readM_ok hp ht hw hq
              refine aGo [14] (by kernel_rfl) rfl ⟨?_, trivial⟩
              refine sOk (b := false) (d := 32) (x := vB (cond2 (cond2 true true false) true false)) rfl (by kernel_rfl) rfl rfl rfl ?_
              refine aGo [15] (by kernel_rfl) rfl ⟨?_, trivial⟩
              refine sOk (b := false) (d := 33) (x := vB (cond2 (cond2 true true false) true false)) rfl (by kernel_rfl) rfl rfl rfl ?_
              refine aGo [16] (by kernel_rfl) rfl ⟨?_, trivial⟩
              refine sgOk (b := false) (d := 34) (x := .agg [vI q.mode, vI q.width, vI q.rob, vI q.queue, vI q.stores, vI q.slots, vI q.sets, vI q.ways, .sl 1 (q.lat.map rowI) (fl 9 (k + 1) q.lat), vB q.tables, .sl 1 (q.tape.map rowU) (fl 10 (k + 1) q.tape), .sl 1 (q.prog.map rowU) (fl 11 (k + 1) q.prog), vS q.mem, vI q.cycles]) rfl (by kernel_rfl) rfl rfl rfl rfl rfl rfl ?_
              refine aGo [17] (by kernel_rfl) rfl ⟨?_, trivial⟩
              refine sgCall (b := false) (args := [.agg [vI q.mode, vI q.width, vI q.rob, vI q.queue, vI q.stores, vI q.slots, vI q.sets, vI q.ways, .sl 1 (q.lat.map rowI) (fl 9 (k + 1) q.lat), vB q.tables, .sl 1 (q.tape.map rowU) (fl 10 (k + 1) q.tape), .sl 1 (q.prog.map rowU) (fl 11 (k + 1) q.prog), vS q.mem, vI q.cycles]]) (d := 35) (x := vB (rightP q)) rfl (by kernel_rfl) rfl rfl rfl rfl rfl rfl rfl (.inl rfl) rfl (dRight q _ _ _ hqo) ?_
              refine aGo [18] (by kernel_rfl) rfl ⟨?_, trivial⟩
              refine sOk (b := false) (d := 36) (x := vB (cond2 (cond2 (cond2 true true false) true false) (rightP q) false)) rfl (by kernel_rfl) rfl rfl rfl ?_
              refine aGo [19] (by kernel_rfl) rfl ⟨?_, trivial⟩
              refine sOk (b := false) (d := 4) (x := vB (cond2 (cond2 (cond2 true true false) true false) (rightP q) false)) rfl (by kernel_rfl) rfl rfl rfl <| aEnd (n' := 37) (by kernel_rfl) rfl <| cRet ?_
              have hst := stepM_right hws hN2 hq hqo
              rcases hR : rightP q with _ | _
              · rw [hR] at hst; exact finH (rs := [vB false]) rfl (r := vB false) (h' := heapF [(0, .box (planL q (fl 9 (k + 1) q.lat) (fl 10 (k + 1) q.tape) (fl 11 (k + 1) q.prog))), (1, .box [vS (cutL 10 r).2.1])]) (σ := fun z => z) (.inr ⟨.inr hst, rfl, _, _, _, _, rfl⟩) rfl (weak_ret (fun z => z) rfl rfl wH rfl)
              · rw [hR] at hst; exact finH (rs := [vB true]) rfl (r := vB true) (h' := heapF [(0, .box (planL q (fl 9 (k + 1) q.lat) (fl 10 (k + 1) q.tape) (fl 11 (k + 1) q.prog))), (1, .box [vS (cutL 10 r).2.1])]) (σ := fun z => z) (.inl ⟨q, ⟨hE, hst, hqo⟩, rfl, rfl⟩) rfl (weak_ret (fun z => z) rfl rfl wH rfl)
            · refine aGo [14] (by kernel_rfl) rfl ⟨?_, trivial⟩
              refine sOk (b := false) (d := 32) (x := vB (cond2 (cond2 true true false) false false)) rfl (by kernel_rfl) rfl rfl rfl ?_
              refine aGo [15] (by kernel_rfl) rfl ⟨?_, trivial⟩
              refine sOk (b := false) (d := 33) (x := vB (cond2 (cond2 true true false) false false)) rfl (by kernel_rfl) rfl rfl rfl ?_
              refine aGo [16] (by kernel_rfl) rfl ⟨?_, trivial⟩
              refine sfOk (b := false) (d := 34) (x := .agg [vI q.mode, vI q.width, vI q.rob, vI q.queue, vI q.stores, vI q.slots, vI q.sets, vI q.ways, .sl 1 (q.lat.map rowI) a2, vB q.tables, .sl 1 (q.tape.map rowU) b2, .sl 1 (q.prog.map rowU) c2, vS q.mem, vI q.cycles]) rfl (by kernel_rfl) rfl rfl rfl rfl rfl rfl ?_
              refine aGo [17] (by kernel_rfl) rfl ⟨?_, trivial⟩
              refine sfCallS (b := false) (args := [.agg [vI q.mode, vI q.width, vI q.rob, vI q.queue, vI q.stores, vI q.slots, vI q.sets, vI q.ways, .sl 1 (q.lat.map rowI) a2, vB q.tables, .sl 1 (q.tape.map rowU) b2, .sl 1 (q.prog.map rowU) c2, vS q.mem, vI q.cycles]]) (d := 35) (x := vB (rightP q)) rfl (by kernel_rfl) rfl rfl rfl rfl rfl rfl rfl (.inl rfl) rfl ?_
              refine aGo [18] (by kernel_rfl) rfl ⟨?_, trivial⟩
              refine sNeed (b := false) (d := 36) (x := vB (cond2 (cond2 (cond2 true true false) false false) (rightP q) false)) rfl (by kernel_rfl) rfl rfl rfl (fun h => h) ?_
              refine aGo [19] (by kernel_rfl) rfl ⟨?_, trivial⟩
              refine sOk (b := false) (d := 4) (x := vB (cond2 (cond2 (cond2 true true false) false false) (rightP q) false)) rfl (by kernel_rfl) rfl rfl rfl <| aEnd (n' := 37) (by kernel_rfl) rfl <| cRet ?_
              exact finH (rs := [vB false]) rfl (r := vB false) (h' := heapF [(0, .box (planL q a2 b2 c2)), (1, .box [vS (cutL 10 r).2.1])]) (σ := fun z => z) (.inr ⟨.inr (stepM_read hws hq), rfl, _, _, _, _, rfl⟩) rfl (weak_ret (fun z => z) rfl rfl wH rfl)
  · refine sgOk (b := false) (d := 23) (x := vN k) rfl (by kernel_rfl) rfl rfl rfl rfl rfl rfl ?_
    refine aGo [2, 6] (by kernel_rfl) rfl ⟨?_, ?_, trivial⟩
    · refine sgOk (b := true) (d := 20) (x := .sl 1 ((w0 :: t).map rowS) false) rfl (by kernel_rfl) rfl rfl rfl rfl rfl rfl ?_
      refine aGo [3, 6] (by kernel_rfl) rfl ⟨?_, ?_, trivial⟩
      · refine sgIdx (b := true) (rowS w0) (d := 21) (x := .dp 1 0 (rowS w0)) rfl (by kernel_rfl) rfl rfl rfl rfl rfl rfl (⟨by decide, getM (l := w0 :: t) (k := 0) rfl⟩) rfl ?_
        refine aGo [4, 6] (by kernel_rfl) rfl ⟨?_, ?_, trivial⟩
        · refine sgOk (b := true) (d := 22) (x := vS w0) rfl (by kernel_rfl) rfl rfl rfl rfl rfl rfl ?_
          refine aGo [6] (by kernel_rfl) rfl ⟨?_, trivial⟩
          refine sgCall (b := false) (args := [vN k]) (d := 24) (x := vS (nameL k)) rfl (by kernel_rfl) rfl rfl rfl rfl rfl rfl rfl (.inl rfl) rfl (dName k hk) ?_
          refine aGo [7] (by kernel_rfl) rfl ⟨?_, trivial⟩
          refine sgOk (b := false) (d := 25) (x := vB true) rfl (by kernel_rfl) rfl rfl rfl rfl rfl (okBo ((eq_tL w0 (nameL k)).trans (decide_eq_true hN2))) ?_
          refine aGo [8] (by kernel_rfl) rfl ⟨?_, trivial⟩
          refine sOk (b := false) (d := 26) (x := vB (cond2 true true false)) rfl (by kernel_rfl) rfl rfl rfl ?_
          refine aGo [9] (by kernel_rfl) rfl ⟨?_, trivial⟩
          refine sOk (b := false) (d := 27) (x := vB (cond2 true true false)) rfl (by kernel_rfl) rfl rfl rfl ?_
          refine aGo [10, 11] (by kernel_rfl) rfl ⟨?_, ?_, trivial⟩
          · refine sgOk (b := false) (d := 28) (x := vN k) rfl (by kernel_rfl) rfl rfl rfl rfl rfl rfl ?_
            refine aGo [11] (by kernel_rfl) rfl ⟨?_, trivial⟩
            refine sgOk (b := false) (d := 29) (x := .sl 1 ((w0 :: t).map rowS) false) rfl (by kernel_rfl) rfl rfl rfl rfl rfl rfl ?_
            refine aGo [12] (by kernel_rfl) rfl ⟨?_, trivial⟩
            refine sgNeed (b := false) (d := 30) (x := .sl 1 (t.map rowS) (false && true)) rfl (by kernel_rfl) rfl rfl rfl rfl rfl (needS (sliceL rowS (w0 :: t) 1)) (by refine ⟨?_, ?_, ?_⟩; all_goals (first | decide | (apply Int.ofNat_le.2; exact omT))) ?_
            refine aGo [13] (by kernel_rfl) rfl ⟨?_, trivial⟩
            refine sgH (args := [.ptr 0 0, vN k, .sl 1 (t.map rowS) (false && true)]) (d := 31) _ rfl rfl rfl rfl rfl rfl rfl (by kernel_rfl) (readAt L.ix hk ht hw rfl rfl) ?_
            rintro _ _ (⟨q, hq, rfl, rfl⟩ | ⟨hq, rfl, q, a2, b2, c2, rfl⟩)
            · have hqo := readM_ok hp ht hw hq
              refine aGo [14] (by kernel_rfl) rfl ⟨?_, trivial⟩
              refine sOk (b := false) (d := 32) (x := vB (cond2 (cond2 true true false) true false)) rfl (by kernel_rfl) rfl rfl rfl ?_
              refine aGo [15] (by kernel_rfl) rfl ⟨?_, trivial⟩
              refine sOk (b := false) (d := 33) (x := vB (cond2 (cond2 true true false) true false)) rfl (by kernel_rfl) rfl rfl rfl ?_
              refine aGo [16] (by kernel_rfl) rfl ⟨?_, trivial⟩
              refine sgOk (b := false) (d := 34) (x := .agg [vI q.mode, vI q.width, vI q.rob, vI q.queue, vI q.stores, vI q.slots, vI q.sets, vI q.ways, .sl 1 (q.lat.map rowI) (fl 9 (k + 1) q.lat), vB q.tables, .sl 1 (q.tape.map rowU) (fl 10 (k + 1) q.tape), .sl 1 (q.prog.map rowU) (fl 11 (k + 1) q.prog), vS q.mem, vI q.cycles]) rfl (by kernel_rfl) rfl rfl rfl rfl rfl rfl ?_
              refine aGo [17] (by kernel_rfl) rfl ⟨?_, trivial⟩
              refine sgCall (b := false) (args := [.agg [vI q.mode, vI q.width, vI q.rob, vI q.queue, vI q.stores, vI q.slots, vI q.sets, vI q.ways, .sl 1 (q.lat.map rowI) (fl 9 (k + 1) q.lat), vB q.tables, .sl 1 (q.tape.map rowU) (fl 10 (k + 1) q.tape), .sl 1 (q.prog.map rowU) (fl 11 (k + 1) q.prog), vS q.mem, vI q.cycles]]) (d := 35) (x := vB (rightP q)) rfl (by kernel_rfl) rfl rfl rfl rfl rfl rfl rfl (.inl rfl) rfl (dRight q _ _ _ hqo) ?_
              refine aGo [18] (by kernel_rfl) rfl ⟨?_, trivial⟩
              refine sOk (b := false) (d := 36) (x := vB (cond2 (cond2 (cond2 true true false) true false) (rightP q) false)) rfl (by kernel_rfl) rfl rfl rfl ?_
              refine aGo [19] (by kernel_rfl) rfl ⟨?_, trivial⟩
              refine sOk (b := false) (d := 4) (x := vB (cond2 (cond2 (cond2 true true false) true false) (rightP q) false)) rfl (by kernel_rfl) rfl rfl rfl <| aEnd (n' := 37) (by kernel_rfl) rfl <| cRet ?_
              have hst := stepM_right hws hN2 hq hqo
              rcases hR : rightP q with _ | _
              · rw [hR] at hst; exact finH (rs := [vB false]) rfl (r := vB false) (h' := heapF [(0, .box (planL q (fl 9 (k + 1) q.lat) (fl 10 (k + 1) q.tape) (fl 11 (k + 1) q.prog))), (1, .box [vS (cutL 10 r).2.1])]) (σ := fun z => z) (.inr ⟨.inr hst, rfl, _, _, _, _, rfl⟩) rfl (weak_ret (fun z => z) rfl rfl wH rfl)
              · rw [hR] at hst; exact finH (rs := [vB true]) rfl (r := vB true) (h' := heapF [(0, .box (planL q (fl 9 (k + 1) q.lat) (fl 10 (k + 1) q.tape) (fl 11 (k + 1) q.prog))), (1, .box [vS (cutL 10 r).2.1])]) (σ := fun z => z) (.inl ⟨q, ⟨hE, hst, hqo⟩, rfl, rfl⟩) rfl (weak_ret (fun z => z) rfl rfl wH rfl)
            · refine aGo [14] (by kernel_rfl) rfl ⟨?_, trivial⟩
              refine sOk (b := false) (d := 32) (x := vB (cond2 (cond2 true true false) false false)) rfl (by kernel_rfl) rfl rfl rfl ?_
              refine aGo [15] (by kernel_rfl) rfl ⟨?_, trivial⟩
              refine sOk (b := false) (d := 33) (x := vB (cond2 (cond2 true true false) false false)) rfl (by kernel_rfl) rfl rfl rfl ?_
              refine aGo [16] (by kernel_rfl) rfl ⟨?_, trivial⟩
              refine sfOk (b := false) (d := 34) (x := .agg [vI q.mode, vI q.width, vI q.rob, vI q.queue, vI q.stores, vI q.slots, vI q.sets, vI q.ways, .sl 1 (q.lat.map rowI) a2, vB q.tables, .sl 1 (q.tape.map rowU) b2, .sl 1 (q.prog.map rowU) c2, vS q.mem, vI q.cycles]) rfl (by kernel_rfl) rfl rfl rfl rfl rfl rfl ?_
              refine aGo [17] (by kernel_rfl) rfl ⟨?_, trivial⟩
              refine sfCallS (b := false) (args := [.agg [vI q.mode, vI q.width, vI q.rob, vI q.queue, vI q.stores, vI q.slots, vI q.sets, vI q.ways, .sl 1 (q.lat.map rowI) a2, vB q.tables, .sl 1 (q.tape.map rowU) b2, .sl 1 (q.prog.map rowU) c2, vS q.mem, vI q.cycles]]) (d := 35) (x := vB (rightP q)) rfl (by kernel_rfl) rfl rfl rfl rfl rfl rfl rfl (.inl rfl) rfl ?_
              refine aGo [18] (by kernel_rfl) rfl ⟨?_, trivial⟩
              refine sNeed (b := false) (d := 36) (x := vB (cond2 (cond2 (cond2 true true false) false false) (rightP q) false)) rfl (by kernel_rfl) rfl rfl rfl (fun h => h) ?_
              refine aGo [19] (by kernel_rfl) rfl ⟨?_, trivial⟩
              refine sOk (b := false) (d := 4) (x := vB (cond2 (cond2 (cond2 true true false) false false) (rightP q) false)) rfl (by kernel_rfl) rfl rfl rfl <| aEnd (n' := 37) (by kernel_rfl) rfl <| cRet ?_
              exact finH (rs := [vB false]) rfl (r := vB false) (h' := heapF [(0, .box (planL q a2 b2 c2)), (1, .box [vS (cutL 10 r).2.1])]) (σ := fun z => z) (.inr ⟨.inr (stepM_read hws hq), rfl, _, _, _, _, rfl⟩) rfl (weak_ret (fun z => z) rfl rfl wH rfl)
          · refine sgOk (b := false) (d := 29) (x := .sl 1 ((w0 :: t).map rowS) false) rfl (by kernel_rfl) rfl rfl rfl rfl rfl rfl ?_
            refine aGo [10, 12] (by kernel_rfl) rfl ⟨?_, ?_, trivial⟩
            · refine sgOk (b := true) (d := 28) (x := vN k) rfl (by kernel_rfl) rfl rfl rfl rfl rfl rfl ?_
              refine aGo [12] (by kernel_rfl) rfl ⟨?_, trivial⟩
              refine sgNeed (b := false) (d := 30) (x := .sl 1 (t.map rowS) (false && true)) rfl (by kernel_rfl) rfl rfl rfl rfl rfl (needS (sliceL rowS (w0 :: t) 1)) (by refine ⟨?_, ?_, ?_⟩; all_goals (first | decide | (apply Int.ofNat_le.2; exact omT))) ?_
              refine aGo [13] (by kernel_rfl) rfl ⟨?_, trivial⟩
              refine sgH (args := [.ptr 0 0, vN k, .sl 1 (t.map rowS) (false && true)]) (d := 31) _ rfl rfl rfl rfl rfl rfl rfl (by kernel_rfl) (readAt L.ix hk ht hw rfl rfl) ?_
              rintro _ _ (⟨q, hq, rfl, rfl⟩ | ⟨hq, rfl, q, a2, b2, c2, rfl⟩)
              · have hqo := readM_ok hp ht hw hq
                refine aGo [14] (by kernel_rfl) rfl ⟨?_, trivial⟩
                refine sOk (b := false) (d := 32) (x := vB (cond2 (cond2 true true false) true false)) rfl (by kernel_rfl) rfl rfl rfl ?_
                refine aGo [15] (by kernel_rfl) rfl ⟨?_, trivial⟩
                refine sOk (b := false) (d := 33) (x := vB (cond2 (cond2 true true false) true false)) rfl (by kernel_rfl) rfl rfl rfl ?_
                refine aGo [16] (by kernel_rfl) rfl ⟨?_, trivial⟩
                refine sgOk (b := false) (d := 34) (x := .agg [vI q.mode, vI q.width, vI q.rob, vI q.queue, vI q.stores, vI q.slots, vI q.sets, vI q.ways, .sl 1 (q.lat.map rowI) (fl 9 (k + 1) q.lat), vB q.tables, .sl 1 (q.tape.map rowU) (fl 10 (k + 1) q.tape), .sl 1 (q.prog.map rowU) (fl 11 (k + 1) q.prog), vS q.mem, vI q.cycles]) rfl (by kernel_rfl) rfl rfl rfl rfl rfl rfl ?_
                refine aGo [17] (by kernel_rfl) rfl ⟨?_, trivial⟩
                refine sgCall (b := false) (args := [.agg [vI q.mode, vI q.width, vI q.rob, vI q.queue, vI q.stores, vI q.slots, vI q.sets, vI q.ways, .sl 1 (q.lat.map rowI) (fl 9 (k + 1) q.lat), vB q.tables, .sl 1 (q.tape.map rowU) (fl 10 (k + 1) q.tape), .sl 1 (q.prog.map rowU) (fl 11 (k + 1) q.prog), vS q.mem, vI q.cycles]]) (d := 35) (x := vB (rightP q)) rfl (by kernel_rfl) rfl rfl rfl rfl rfl rfl rfl (.inl rfl) rfl (dRight q _ _ _ hqo) ?_
                refine aGo [18] (by kernel_rfl) rfl ⟨?_, trivial⟩
                refine sOk (b := false) (d := 36) (x := vB (cond2 (cond2 (cond2 true true false) true false) (rightP q) false)) rfl (by kernel_rfl) rfl rfl rfl ?_
                refine aGo [19] (by kernel_rfl) rfl ⟨?_, trivial⟩
                refine sOk (b := false) (d := 4) (x := vB (cond2 (cond2 (cond2 true true false) true false) (rightP q) false)) rfl (by kernel_rfl) rfl rfl rfl <| aEnd (n' := 37) (by kernel_rfl) rfl <| cRet ?_
                have hst := stepM_right hws hN2 hq hqo
                rcases hR : rightP q with _ | _
                · rw [hR] at hst; exact finH (rs := [vB false]) rfl (r := vB false) (h' := heapF [(0, .box (planL q (fl 9 (k + 1) q.lat) (fl 10 (k + 1) q.tape) (fl 11 (k + 1) q.prog))), (1, .box [vS (cutL 10 r).2.1])]) (σ := fun z => z) (.inr ⟨.inr hst, rfl, _, _, _, _, rfl⟩) rfl (weak_ret (fun z => z) rfl rfl wH rfl)
                · rw [hR] at hst; exact finH (rs := [vB true]) rfl (r := vB true) (h' := heapF [(0, .box (planL q (fl 9 (k + 1) q.lat) (fl 10 (k + 1) q.tape) (fl 11 (k + 1) q.prog))), (1, .box [vS (cutL 10 r).2.1])]) (σ := fun z => z) (.inl ⟨q, ⟨hE, hst, hqo⟩, rfl, rfl⟩) rfl (weak_ret (fun z => z) rfl rfl wH rfl)
              · refine aGo [14] (by kernel_rfl) rfl ⟨?_, trivial⟩
                refine sOk (b := false) (d := 32) (x := vB (cond2 (cond2 true true false) false false)) rfl (by kernel_rfl) rfl rfl rfl ?_
                refine aGo [15] (by kernel_rfl) rfl ⟨?_, trivial⟩
                refine sOk (b := false) (d := 33) (x := vB (cond2 (cond2 true true false) false false)) rfl (by kernel_rfl) rfl rfl rfl ?_
                refine aGo [16] (by kernel_rfl) rfl ⟨?_, trivial⟩
                refine sfOk (b := false) (d := 34) (x := .agg [vI q.mode, vI q.width, vI q.rob, vI q.queue, vI q.stores, vI q.slots, vI q.sets, vI q.ways, .sl 1 (q.lat.map rowI) a2, vB q.tables, .sl 1 (q.tape.map rowU) b2, .sl 1 (q.prog.map rowU) c2, vS q.mem, vI q.cycles]) rfl (by kernel_rfl) rfl rfl rfl rfl rfl rfl ?_
                refine aGo [17] (by kernel_rfl) rfl ⟨?_, trivial⟩
                refine sfCallS (b := false) (args := [.agg [vI q.mode, vI q.width, vI q.rob, vI q.queue, vI q.stores, vI q.slots, vI q.sets, vI q.ways, .sl 1 (q.lat.map rowI) a2, vB q.tables, .sl 1 (q.tape.map rowU) b2, .sl 1 (q.prog.map rowU) c2, vS q.mem, vI q.cycles]]) (d := 35) (x := vB (rightP q)) rfl (by kernel_rfl) rfl rfl rfl rfl rfl rfl rfl (.inl rfl) rfl ?_
                refine aGo [18] (by kernel_rfl) rfl ⟨?_, trivial⟩
                refine sNeed (b := false) (d := 36) (x := vB (cond2 (cond2 (cond2 true true false) false false) (rightP q) false)) rfl (by kernel_rfl) rfl rfl rfl (fun h => h) ?_
                refine aGo [19] (by kernel_rfl) rfl ⟨?_, trivial⟩
                refine sOk (b := false) (d := 4) (x := vB (cond2 (cond2 (cond2 true true false) false false) (rightP q) false)) rfl (by kernel_rfl) rfl rfl rfl <| aEnd (n' := 37) (by kernel_rfl) rfl <| cRet ?_
                exact finH (rs := [vB false]) rfl (r := vB false) (h' := heapF [(0, .box (planL q a2 b2 c2)), (1, .box [vS (cutL 10 r).2.1])]) (σ := fun z => z) (.inr ⟨.inr (stepM_read hws hq), rfl, _, _, _, _, rfl⟩) rfl (weak_ret (fun z => z) rfl rfl wH rfl)
            · refine sgNeed (b := false) (d := 30) (x := .sl 1 (t.map rowS) (false && true)) rfl (by kernel_rfl) rfl rfl rfl rfl rfl (needS (sliceL rowS (w0 :: t) 1)) (by refine ⟨?_, ?_, ?_⟩; all_goals (first | decide | (apply Int.ofNat_le.2; exact omT))) ?_
              refine aGo [10] (by kernel_rfl) rfl ⟨?_, trivial⟩
              refine sgOk (b := true) (d := 28) (x := vN k) rfl (by kernel_rfl) rfl rfl rfl rfl rfl rfl ?_
              refine aGo [13] (by kernel_rfl) rfl ⟨?_, trivial⟩
              refine sgH (args := [.ptr 0 0, vN k, .sl 1 (t.map rowS) (false && true)]) (d := 31) _ rfl rfl rfl rfl rfl rfl rfl (by kernel_rfl) (readAt L.ix hk ht hw rfl rfl) ?_
              rintro _ _ (⟨q, hq, rfl, rfl⟩ | ⟨hq, rfl, q, a2, b2, c2, rfl⟩)
              · have hqo := readM_ok hp ht hw hq
                refine aGo [14] (by kernel_rfl) rfl ⟨?_, trivial⟩
                refine sOk (b := false) (d := 32) (x := vB (cond2 (cond2 true true false) true false)) rfl (by kernel_rfl) rfl rfl rfl ?_
                refine aGo [15] (by kernel_rfl) rfl ⟨?_, trivial⟩
                refine sOk (b := false) (d := 33) (x := vB (cond2 (cond2 true true false) true false)) rfl (by kernel_rfl) rfl rfl rfl ?_
                refine aGo [16] (by kernel_rfl) rfl ⟨?_, trivial⟩
                refine sgOk (b := false) (d := 34) (x := .agg [vI q.mode, vI q.width, vI q.rob, vI q.queue, vI q.stores, vI q.slots, vI q.sets, vI q.ways, .sl 1 (q.lat.map rowI) (fl 9 (k + 1) q.lat), vB q.tables, .sl 1 (q.tape.map rowU) (fl 10 (k + 1) q.tape), .sl 1 (q.prog.map rowU) (fl 11 (k + 1) q.prog), vS q.mem, vI q.cycles]) rfl (by kernel_rfl) rfl rfl rfl rfl rfl rfl ?_
                refine aGo [17] (by kernel_rfl) rfl ⟨?_, trivial⟩
                refine sgCall (b := false) (args := [.agg [vI q.mode, vI q.width, vI q.rob, vI q.queue, vI q.stores, vI q.slots, vI q.sets, vI q.ways, .sl 1 (q.lat.map rowI) (fl 9 (k + 1) q.lat), vB q.tables, .sl 1 (q.tape.map rowU) (fl 10 (k + 1) q.tape), .sl 1 (q.prog.map rowU) (fl 11 (k + 1) q.prog), vS q.mem, vI q.cycles]]) (d := 35) (x := vB (rightP q)) rfl (by kernel_rfl) rfl rfl rfl rfl rfl rfl rfl (.inl rfl) rfl (dRight q _ _ _ hqo) ?_
                refine aGo [18] (by kernel_rfl) rfl ⟨?_, trivial⟩
                refine sOk (b := false) (d := 36) (x := vB (cond2 (cond2 (cond2 true true false) true false) (rightP q) false)) rfl (by kernel_rfl) rfl rfl rfl ?_
                refine aGo [19] (by kernel_rfl) rfl ⟨?_, trivial⟩
                refine sOk (b := false) (d := 4) (x := vB (cond2 (cond2 (cond2 true true false) true false) (rightP q) false)) rfl (by kernel_rfl) rfl rfl rfl <| aEnd (n' := 37) (by kernel_rfl) rfl <| cRet ?_
                have hst := stepM_right hws hN2 hq hqo
                rcases hR : rightP q with _ | _
                · rw [hR] at hst; exact finH (rs := [vB false]) rfl (r := vB false) (h' := heapF [(0, .box (planL q (fl 9 (k + 1) q.lat) (fl 10 (k + 1) q.tape) (fl 11 (k + 1) q.prog))), (1, .box [vS (cutL 10 r).2.1])]) (σ := fun z => z) (.inr ⟨.inr hst, rfl, _, _, _, _, rfl⟩) rfl (weak_ret (fun z => z) rfl rfl wH rfl)
                · rw [hR] at hst; exact finH (rs := [vB true]) rfl (r := vB true) (h' := heapF [(0, .box (planL q (fl 9 (k + 1) q.lat) (fl 10 (k + 1) q.tape) (fl 11 (k + 1) q.prog))), (1, .box [vS (cutL 10 r).2.1])]) (σ := fun z => z) (.inl ⟨q, ⟨hE, hst, hqo⟩, rfl, rfl⟩) rfl (weak_ret (fun z => z) rfl rfl wH rfl)
              · refine aGo [14] (by kernel_rfl) rfl ⟨?_, trivial⟩
                refine sOk (b := false) (d := 32) (x := vB (cond2 (cond2 true true false) false false)) rfl (by kernel_rfl) rfl rfl rfl ?_
                refine aGo [15] (by kernel_rfl) rfl ⟨?_, trivial⟩
                refine sOk (b := false) (d := 33) (x := vB (cond2 (cond2 true true false) false false)) rfl (by kernel_rfl) rfl rfl rfl ?_
                refine aGo [16] (by kernel_rfl) rfl ⟨?_, trivial⟩
                refine sfOk (b := false) (d := 34) (x := .agg [vI q.mode, vI q.width, vI q.rob, vI q.queue, vI q.stores, vI q.slots, vI q.sets, vI q.ways, .sl 1 (q.lat.map rowI) a2, vB q.tables, .sl 1 (q.tape.map rowU) b2, .sl 1 (q.prog.map rowU) c2, vS q.mem, vI q.cycles]) rfl (by kernel_rfl) rfl rfl rfl rfl rfl rfl ?_
                refine aGo [17] (by kernel_rfl) rfl ⟨?_, trivial⟩
                refine sfCallS (b := false) (args := [.agg [vI q.mode, vI q.width, vI q.rob, vI q.queue, vI q.stores, vI q.slots, vI q.sets, vI q.ways, .sl 1 (q.lat.map rowI) a2, vB q.tables, .sl 1 (q.tape.map rowU) b2, .sl 1 (q.prog.map rowU) c2, vS q.mem, vI q.cycles]]) (d := 35) (x := vB (rightP q)) rfl (by kernel_rfl) rfl rfl rfl rfl rfl rfl rfl (.inl rfl) rfl ?_
                refine aGo [18] (by kernel_rfl) rfl ⟨?_, trivial⟩
                refine sNeed (b := false) (d := 36) (x := vB (cond2 (cond2 (cond2 true true false) false false) (rightP q) false)) rfl (by kernel_rfl) rfl rfl rfl (fun h => h) ?_
                refine aGo [19] (by kernel_rfl) rfl ⟨?_, trivial⟩
                refine sOk (b := false) (d := 4) (x := vB (cond2 (cond2 (cond2 true true false) false false) (rightP q) false)) rfl (by kernel_rfl) rfl rfl rfl <| aEnd (n' := 37) (by kernel_rfl) rfl <| cRet ?_
                exact finH (rs := [vB false]) rfl (r := vB false) (h' := heapF [(0, .box (planL q a2 b2 c2)), (1, .box [vS (cutL 10 r).2.1])]) (σ := fun z => z) (.inr ⟨.inr (stepM_read hws hq), rfl, _, _, _, _, rfl⟩) rfl (weak_ret (fun z => z) rfl rfl wH rfl)
        · refine sgCall (b := false) (args := [vN k]) (d := 24) (x := vS (nameL k)) rfl (by kernel_rfl) rfl rfl rfl rfl rfl rfl rfl (.inl rfl) rfl (dName k hk) ?_
          refine aGo [4] (by kernel_rfl) rfl ⟨?_, trivial⟩
          refine sgOk (b := true) (d := 22) (x := vS w0) rfl (by kernel_rfl) rfl rfl rfl rfl rfl rfl ?_
          refine aGo [7] (by kernel_rfl) rfl ⟨?_, trivial⟩
          refine sgOk (b := false) (d := 25) (x := vB true) rfl (by kernel_rfl) rfl rfl rfl rfl rfl (okBo ((eq_tL w0 (nameL k)).trans (decide_eq_true hN2))) ?_
          refine aGo [8] (by kernel_rfl) rfl ⟨?_, trivial⟩
          refine sOk (b := false) (d := 26) (x := vB (cond2 true true false)) rfl (by kernel_rfl) rfl rfl rfl ?_
          refine aGo [9] (by kernel_rfl) rfl ⟨?_, trivial⟩
          refine sOk (b := false) (d := 27) (x := vB (cond2 true true false)) rfl (by kernel_rfl) rfl rfl rfl ?_
          refine aGo [10, 11] (by kernel_rfl) rfl ⟨?_, ?_, trivial⟩
          · refine sgOk (b := false) (d := 28) (x := vN k) rfl (by kernel_rfl) rfl rfl rfl rfl rfl rfl ?_
            refine aGo [11] (by kernel_rfl) rfl ⟨?_, trivial⟩
            refine sgOk (b := false) (d := 29) (x := .sl 1 ((w0 :: t).map rowS) false) rfl (by kernel_rfl) rfl rfl rfl rfl rfl rfl ?_
            refine aGo [12] (by kernel_rfl) rfl ⟨?_, trivial⟩
            refine sgNeed (b := false) (d := 30) (x := .sl 1 (t.map rowS) (false && true)) rfl (by kernel_rfl) rfl rfl rfl rfl rfl (needS (sliceL rowS (w0 :: t) 1)) (by refine ⟨?_, ?_, ?_⟩; all_goals (first | decide | (apply Int.ofNat_le.2; exact omT))) ?_
            refine aGo [13] (by kernel_rfl) rfl ⟨?_, trivial⟩
            refine sgH (args := [.ptr 0 0, vN k, .sl 1 (t.map rowS) (false && true)]) (d := 31) _ rfl rfl rfl rfl rfl rfl rfl (by kernel_rfl) (readAt L.ix hk ht hw rfl rfl) ?_
            rintro _ _ (⟨q, hq, rfl, rfl⟩ | ⟨hq, rfl, q, a2, b2, c2, rfl⟩)
            · have hqo := readM_ok hp ht hw hq
              refine aGo [14] (by kernel_rfl) rfl ⟨?_, trivial⟩
              refine sOk (b := false) (d := 32) (x := vB (cond2 (cond2 true true false) true false)) rfl (by kernel_rfl) rfl rfl rfl ?_
              refine aGo [15] (by kernel_rfl) rfl ⟨?_, trivial⟩
              refine sOk (b := false) (d := 33) (x := vB (cond2 (cond2 true true false) true false)) rfl (by kernel_rfl) rfl rfl rfl ?_
              refine aGo [16] (by kernel_rfl) rfl ⟨?_, trivial⟩
              refine sgOk (b := false) (d := 34) (x := .agg [vI q.mode, vI q.width, vI q.rob, vI q.queue, vI q.stores, vI q.slots, vI q.sets, vI q.ways, .sl 1 (q.lat.map rowI) (fl 9 (k + 1) q.lat), vB q.tables, .sl 1 (q.tape.map rowU) (fl 10 (k + 1) q.tape), .sl 1 (q.prog.map rowU) (fl 11 (k + 1) q.prog), vS q.mem, vI q.cycles]) rfl (by kernel_rfl) rfl rfl rfl rfl rfl rfl ?_
              refine aGo [17] (by kernel_rfl) rfl ⟨?_, trivial⟩
              refine sgCall (b := false) (args := [.agg [vI q.mode, vI q.width, vI q.rob, vI q.queue, vI q.stores, vI q.slots, vI q.sets, vI q.ways, .sl 1 (q.lat.map rowI) (fl 9 (k + 1) q.lat), vB q.tables, .sl 1 (q.tape.map rowU) (fl 10 (k + 1) q.tape), .sl 1 (q.prog.map rowU) (fl 11 (k + 1) q.prog), vS q.mem, vI q.cycles]]) (d := 35) (x := vB (rightP q)) rfl (by kernel_rfl) rfl rfl rfl rfl rfl rfl rfl (.inl rfl) rfl (dRight q _ _ _ hqo) ?_
              refine aGo [18] (by kernel_rfl) rfl ⟨?_, trivial⟩
              refine sOk (b := false) (d := 36) (x := vB (cond2 (cond2 (cond2 true true false) true false) (rightP q) false)) rfl (by kernel_rfl) rfl rfl rfl ?_
              refine aGo [19] (by kernel_rfl) rfl ⟨?_, trivial⟩
              refine sOk (b := false) (d := 4) (x := vB (cond2 (cond2 (cond2 true true false) true false) (rightP q) false)) rfl (by kernel_rfl) rfl rfl rfl <| aEnd (n' := 37) (by kernel_rfl) rfl <| cRet ?_
              have hst := stepM_right hws hN2 hq hqo
              rcases hR : rightP q with _ | _
              · rw [hR] at hst; exact finH (rs := [vB false]) rfl (r := vB false) (h' := heapF [(0, .box (planL q (fl 9 (k + 1) q.lat) (fl 10 (k + 1) q.tape) (fl 11 (k + 1) q.prog))), (1, .box [vS (cutL 10 r).2.1])]) (σ := fun z => z) (.inr ⟨.inr hst, rfl, _, _, _, _, rfl⟩) rfl (weak_ret (fun z => z) rfl rfl wH rfl)
              · rw [hR] at hst; exact finH (rs := [vB true]) rfl (r := vB true) (h' := heapF [(0, .box (planL q (fl 9 (k + 1) q.lat) (fl 10 (k + 1) q.tape) (fl 11 (k + 1) q.prog))), (1, .box [vS (cutL 10 r).2.1])]) (σ := fun z => z) (.inl ⟨q, ⟨hE, hst, hqo⟩, rfl, rfl⟩) rfl (weak_ret (fun z => z) rfl rfl wH rfl)
            · refine aGo [14] (by kernel_rfl) rfl ⟨?_, trivial⟩
              refine sOk (b := false) (d := 32) (x := vB (cond2 (cond2 true true false) false false)) rfl (by kernel_rfl) rfl rfl rfl ?_
              refine aGo [15] (by kernel_rfl) rfl ⟨?_, trivial⟩
              refine sOk (b := false) (d := 33) (x := vB (cond2 (cond2 true true false) false false)) rfl (by kernel_rfl) rfl rfl rfl ?_
              refine aGo [16] (by kernel_rfl) rfl ⟨?_, trivial⟩
              refine sfOk (b := false) (d := 34) (x := .agg [vI q.mode, vI q.width, vI q.rob, vI q.queue, vI q.stores, vI q.slots, vI q.sets, vI q.ways, .sl 1 (q.lat.map rowI) a2, vB q.tables, .sl 1 (q.tape.map rowU) b2, .sl 1 (q.prog.map rowU) c2, vS q.mem, vI q.cycles]) rfl (by kernel_rfl) rfl rfl rfl rfl rfl rfl ?_
              refine aGo [17] (by kernel_rfl) rfl ⟨?_, trivial⟩
              refine sfCallS (b := false) (args := [.agg [vI q.mode, vI q.width, vI q.rob, vI q.queue, vI q.stores, vI q.slots, vI q.sets, vI q.ways, .sl 1 (q.lat.map rowI) a2, vB q.tables, .sl 1 (q.tape.map rowU) b2, .sl 1 (q.prog.map rowU) c2, vS q.mem, vI q.cycles]]) (d := 35) (x := vB (rightP q)) rfl (by kernel_rfl) rfl rfl rfl rfl rfl rfl rfl (.inl rfl) rfl ?_
              refine aGo [18] (by kernel_rfl) rfl ⟨?_, trivial⟩
              refine sNeed (b := false) (d := 36) (x := vB (cond2 (cond2 (cond2 true true false) false false) (rightP q) false)) rfl (by kernel_rfl) rfl rfl rfl (fun h => h) ?_
              refine aGo [19] (by kernel_rfl) rfl ⟨?_, trivial⟩
              refine sOk (b := false) (d := 4) (x := vB (cond2 (cond2 (cond2 true true false) false false) (rightP q) false)) rfl (by kernel_rfl) rfl rfl rfl <| aEnd (n' := 37) (by kernel_rfl) rfl <| cRet ?_
              exact finH (rs := [vB false]) rfl (r := vB false) (h' := heapF [(0, .box (planL q a2 b2 c2)), (1, .box [vS (cutL 10 r).2.1])]) (σ := fun z => z) (.inr ⟨.inr (stepM_read hws hq), rfl, _, _, _, _, rfl⟩) rfl (weak_ret (fun z => z) rfl rfl wH rfl)
          · refine sgOk (b := false) (d := 29) (x := .sl 1 ((w0 :: t).map rowS) false) rfl (by kernel_rfl) rfl rfl rfl rfl rfl rfl ?_
            refine aGo [10, 12] (by kernel_rfl) rfl ⟨?_, ?_, trivial⟩
            · refine sgOk (b := true) (d := 28) (x := vN k) rfl (by kernel_rfl) rfl rfl rfl rfl rfl rfl ?_
              refine aGo [12] (by kernel_rfl) rfl ⟨?_, trivial⟩
              refine sgNeed (b := false) (d := 30) (x := .sl 1 (t.map rowS) (false && true)) rfl (by kernel_rfl) rfl rfl rfl rfl rfl (needS (sliceL rowS (w0 :: t) 1)) (by refine ⟨?_, ?_, ?_⟩; all_goals (first | decide | (apply Int.ofNat_le.2; exact omT))) ?_
              refine aGo [13] (by kernel_rfl) rfl ⟨?_, trivial⟩
              refine sgH (args := [.ptr 0 0, vN k, .sl 1 (t.map rowS) (false && true)]) (d := 31) _ rfl rfl rfl rfl rfl rfl rfl (by kernel_rfl) (readAt L.ix hk ht hw rfl rfl) ?_
              rintro _ _ (⟨q, hq, rfl, rfl⟩ | ⟨hq, rfl, q, a2, b2, c2, rfl⟩)
              · have hqo := readM_ok hp ht hw hq
                refine aGo [14] (by kernel_rfl) rfl ⟨?_, trivial⟩
                refine sOk (b := false) (d := 32) (x := vB (cond2 (cond2 true true false) true false)) rfl (by kernel_rfl) rfl rfl rfl ?_
                refine aGo [15] (by kernel_rfl) rfl ⟨?_, trivial⟩
                refine sOk (b := false) (d := 33) (x := vB (cond2 (cond2 true true false) true false)) rfl (by kernel_rfl) rfl rfl rfl ?_
                refine aGo [16] (by kernel_rfl) rfl ⟨?_, trivial⟩
                refine sgOk (b := false) (d := 34) (x := .agg [vI q.mode, vI q.width, vI q.rob, vI q.queue, vI q.stores, vI q.slots, vI q.sets, vI q.ways, .sl 1 (q.lat.map rowI) (fl 9 (k + 1) q.lat), vB q.tables, .sl 1 (q.tape.map rowU) (fl 10 (k + 1) q.tape), .sl 1 (q.prog.map rowU) (fl 11 (k + 1) q.prog), vS q.mem, vI q.cycles]) rfl (by kernel_rfl) rfl rfl rfl rfl rfl rfl ?_
                refine aGo [17] (by kernel_rfl) rfl ⟨?_, trivial⟩
                refine sgCall (b := false) (args := [.agg [vI q.mode, vI q.width, vI q.rob, vI q.queue, vI q.stores, vI q.slots, vI q.sets, vI q.ways, .sl 1 (q.lat.map rowI) (fl 9 (k + 1) q.lat), vB q.tables, .sl 1 (q.tape.map rowU) (fl 10 (k + 1) q.tape), .sl 1 (q.prog.map rowU) (fl 11 (k + 1) q.prog), vS q.mem, vI q.cycles]]) (d := 35) (x := vB (rightP q)) rfl (by kernel_rfl) rfl rfl rfl rfl rfl rfl rfl (.inl rfl) rfl (dRight q _ _ _ hqo) ?_
                refine aGo [18] (by kernel_rfl) rfl ⟨?_, trivial⟩
                refine sOk (b := false) (d := 36) (x := vB (cond2 (cond2 (cond2 true true false) true false) (rightP q) false)) rfl (by kernel_rfl) rfl rfl rfl ?_
                refine aGo [19] (by kernel_rfl) rfl ⟨?_, trivial⟩
                refine sOk (b := false) (d := 4) (x := vB (cond2 (cond2 (cond2 true true false) true false) (rightP q) false)) rfl (by kernel_rfl) rfl rfl rfl <| aEnd (n' := 37) (by kernel_rfl) rfl <| cRet ?_
                have hst := stepM_right hws hN2 hq hqo
                rcases hR : rightP q with _ | _
                · rw [hR] at hst; exact finH (rs := [vB false]) rfl (r := vB false) (h' := heapF [(0, .box (planL q (fl 9 (k + 1) q.lat) (fl 10 (k + 1) q.tape) (fl 11 (k + 1) q.prog))), (1, .box [vS (cutL 10 r).2.1])]) (σ := fun z => z) (.inr ⟨.inr hst, rfl, _, _, _, _, rfl⟩) rfl (weak_ret (fun z => z) rfl rfl wH rfl)
                · rw [hR] at hst; exact finH (rs := [vB true]) rfl (r := vB true) (h' := heapF [(0, .box (planL q (fl 9 (k + 1) q.lat) (fl 10 (k + 1) q.tape) (fl 11 (k + 1) q.prog))), (1, .box [vS (cutL 10 r).2.1])]) (σ := fun z => z) (.inl ⟨q, ⟨hE, hst, hqo⟩, rfl, rfl⟩) rfl (weak_ret (fun z => z) rfl rfl wH rfl)
              · refine aGo [14] (by kernel_rfl) rfl ⟨?_, trivial⟩
                refine sOk (b := false) (d := 32) (x := vB (cond2 (cond2 true true false) false false)) rfl (by kernel_rfl) rfl rfl rfl ?_
                refine aGo [15] (by kernel_rfl) rfl ⟨?_, trivial⟩
                refine sOk (b := false) (d := 33) (x := vB (cond2 (cond2 true true false) false false)) rfl (by kernel_rfl) rfl rfl rfl ?_
                refine aGo [16] (by kernel_rfl) rfl ⟨?_, trivial⟩
                refine sfOk (b := false) (d := 34) (x := .agg [vI q.mode, vI q.width, vI q.rob, vI q.queue, vI q.stores, vI q.slots, vI q.sets, vI q.ways, .sl 1 (q.lat.map rowI) a2, vB q.tables, .sl 1 (q.tape.map rowU) b2, .sl 1 (q.prog.map rowU) c2, vS q.mem, vI q.cycles]) rfl (by kernel_rfl) rfl rfl rfl rfl rfl rfl ?_
                refine aGo [17] (by kernel_rfl) rfl ⟨?_, trivial⟩
                refine sfCallS (b := false) (args := [.agg [vI q.mode, vI q.width, vI q.rob, vI q.queue, vI q.stores, vI q.slots, vI q.sets, vI q.ways, .sl 1 (q.lat.map rowI) a2, vB q.tables, .sl 1 (q.tape.map rowU) b2, .sl 1 (q.prog.map rowU) c2, vS q.mem, vI q.cycles]]) (d := 35) (x := vB (rightP q)) rfl (by kernel_rfl) rfl rfl rfl rfl rfl rfl rfl (.inl rfl) rfl ?_
                refine aGo [18] (by kernel_rfl) rfl ⟨?_, trivial⟩
                refine sNeed (b := false) (d := 36) (x := vB (cond2 (cond2 (cond2 true true false) false false) (rightP q) false)) rfl (by kernel_rfl) rfl rfl rfl (fun h => h) ?_
                refine aGo [19] (by kernel_rfl) rfl ⟨?_, trivial⟩
                refine sOk (b := false) (d := 4) (x := vB (cond2 (cond2 (cond2 true true false) false false) (rightP q) false)) rfl (by kernel_rfl) rfl rfl rfl <| aEnd (n' := 37) (by kernel_rfl) rfl <| cRet ?_
                exact finH (rs := [vB false]) rfl (r := vB false) (h' := heapF [(0, .box (planL q a2 b2 c2)), (1, .box [vS (cutL 10 r).2.1])]) (σ := fun z => z) (.inr ⟨.inr (stepM_read hws hq), rfl, _, _, _, _, rfl⟩) rfl (weak_ret (fun z => z) rfl rfl wH rfl)
            · refine sgNeed (b := false) (d := 30) (x := .sl 1 (t.map rowS) (false && true)) rfl (by kernel_rfl) rfl rfl rfl rfl rfl (needS (sliceL rowS (w0 :: t) 1)) (by refine ⟨?_, ?_, ?_⟩; all_goals (first | decide | (apply Int.ofNat_le.2; exact omT))) ?_
              refine aGo [10] (by kernel_rfl) rfl ⟨?_, trivial⟩
              refine sgOk (b := true) (d := 28) (x := vN k) rfl (by kernel_rfl) rfl rfl rfl rfl rfl rfl ?_
              refine aGo [13] (by kernel_rfl) rfl ⟨?_, trivial⟩
              refine sgH (args := [.ptr 0 0, vN k, .sl 1 (t.map rowS) (false && true)]) (d := 31) _ rfl rfl rfl rfl rfl rfl rfl (by kernel_rfl) (readAt L.ix hk ht hw rfl rfl) ?_
              rintro _ _ (⟨q, hq, rfl, rfl⟩ | ⟨hq, rfl, q, a2, b2, c2, rfl⟩)
              · have hqo := readM_ok hp ht hw hq
                refine aGo [14] (by kernel_rfl) rfl ⟨?_, trivial⟩
                refine sOk (b := false) (d := 32) (x := vB (cond2 (cond2 true true false) true false)) rfl (by kernel_rfl) rfl rfl rfl ?_
                refine aGo [15] (by kernel_rfl) rfl ⟨?_, trivial⟩
                refine sOk (b := false) (d := 33) (x := vB (cond2 (cond2 true true false) true false)) rfl (by kernel_rfl) rfl rfl rfl ?_
                refine aGo [16] (by kernel_rfl) rfl ⟨?_, trivial⟩
                refine sgOk (b := false) (d := 34) (x := .agg [vI q.mode, vI q.width, vI q.rob, vI q.queue, vI q.stores, vI q.slots, vI q.sets, vI q.ways, .sl 1 (q.lat.map rowI) (fl 9 (k + 1) q.lat), vB q.tables, .sl 1 (q.tape.map rowU) (fl 10 (k + 1) q.tape), .sl 1 (q.prog.map rowU) (fl 11 (k + 1) q.prog), vS q.mem, vI q.cycles]) rfl (by kernel_rfl) rfl rfl rfl rfl rfl rfl ?_
                refine aGo [17] (by kernel_rfl) rfl ⟨?_, trivial⟩
                refine sgCall (b := false) (args := [.agg [vI q.mode, vI q.width, vI q.rob, vI q.queue, vI q.stores, vI q.slots, vI q.sets, vI q.ways, .sl 1 (q.lat.map rowI) (fl 9 (k + 1) q.lat), vB q.tables, .sl 1 (q.tape.map rowU) (fl 10 (k + 1) q.tape), .sl 1 (q.prog.map rowU) (fl 11 (k + 1) q.prog), vS q.mem, vI q.cycles]]) (d := 35) (x := vB (rightP q)) rfl (by kernel_rfl) rfl rfl rfl rfl rfl rfl rfl (.inl rfl) rfl (dRight q _ _ _ hqo) ?_
                refine aGo [18] (by kernel_rfl) rfl ⟨?_, trivial⟩
                refine sOk (b := false) (d := 36) (x := vB (cond2 (cond2 (cond2 true true false) true false) (rightP q) false)) rfl (by kernel_rfl) rfl rfl rfl ?_
                refine aGo [19] (by kernel_rfl) rfl ⟨?_, trivial⟩
                refine sOk (b := false) (d := 4) (x := vB (cond2 (cond2 (cond2 true true false) true false) (rightP q) false)) rfl (by kernel_rfl) rfl rfl rfl <| aEnd (n' := 37) (by kernel_rfl) rfl <| cRet ?_
                have hst := stepM_right hws hN2 hq hqo
                rcases hR : rightP q with _ | _
                · rw [hR] at hst; exact finH (rs := [vB false]) rfl (r := vB false) (h' := heapF [(0, .box (planL q (fl 9 (k + 1) q.lat) (fl 10 (k + 1) q.tape) (fl 11 (k + 1) q.prog))), (1, .box [vS (cutL 10 r).2.1])]) (σ := fun z => z) (.inr ⟨.inr hst, rfl, _, _, _, _, rfl⟩) rfl (weak_ret (fun z => z) rfl rfl wH rfl)
                · rw [hR] at hst; exact finH (rs := [vB true]) rfl (r := vB true) (h' := heapF [(0, .box (planL q (fl 9 (k + 1) q.lat) (fl 10 (k + 1) q.tape) (fl 11 (k + 1) q.prog))), (1, .box [vS (cutL 10 r).2.1])]) (σ := fun z => z) (.inl ⟨q, ⟨hE, hst, hqo⟩, rfl, rfl⟩) rfl (weak_ret (fun z => z) rfl rfl wH rfl)
              · refine aGo [14] (by kernel_rfl) rfl ⟨?_, trivial⟩
                refine sOk (b := false) (d := 32) (x := vB (cond2 (cond2 true true false) false false)) rfl (by kernel_rfl) rfl rfl rfl ?_
                refine aGo [15] (by kernel_rfl) rfl ⟨?_, trivial⟩
                refine sOk (b := false) (d := 33) (x := vB (cond2 (cond2 true true false) false false)) rfl (by kernel_rfl) rfl rfl rfl ?_
                refine aGo [16] (by kernel_rfl) rfl ⟨?_, trivial⟩
                refine sfOk (b := false) (d := 34) (x := .agg [vI q.mode, vI q.width, vI q.rob, vI q.queue, vI q.stores, vI q.slots, vI q.sets, vI q.ways, .sl 1 (q.lat.map rowI) a2, vB q.tables, .sl 1 (q.tape.map rowU) b2, .sl 1 (q.prog.map rowU) c2, vS q.mem, vI q.cycles]) rfl (by kernel_rfl) rfl rfl rfl rfl rfl rfl ?_
                refine aGo [17] (by kernel_rfl) rfl ⟨?_, trivial⟩
                refine sfCallS (b := false) (args := [.agg [vI q.mode, vI q.width, vI q.rob, vI q.queue, vI q.stores, vI q.slots, vI q.sets, vI q.ways, .sl 1 (q.lat.map rowI) a2, vB q.tables, .sl 1 (q.tape.map rowU) b2, .sl 1 (q.prog.map rowU) c2, vS q.mem, vI q.cycles]]) (d := 35) (x := vB (rightP q)) rfl (by kernel_rfl) rfl rfl rfl rfl rfl rfl rfl (.inl rfl) rfl ?_
                refine aGo [18] (by kernel_rfl) rfl ⟨?_, trivial⟩
                refine sNeed (b := false) (d := 36) (x := vB (cond2 (cond2 (cond2 true true false) false false) (rightP q) false)) rfl (by kernel_rfl) rfl rfl rfl (fun h => h) ?_
                refine aGo [19] (by kernel_rfl) rfl ⟨?_, trivial⟩
                refine sOk (b := false) (d := 4) (x := vB (cond2 (cond2 (cond2 true true false) false false) (rightP q) false)) rfl (by kernel_rfl) rfl rfl rfl <| aEnd (n' := 37) (by kernel_rfl) rfl <| cRet ?_
                exact finH (rs := [vB false]) rfl (r := vB false) (h' := heapF [(0, .box (planL q a2 b2 c2)), (1, .box [vS (cutL 10 r).2.1])]) (σ := fun z => z) (.inr ⟨.inr (stepM_read hws hq), rfl, _, _, _, _, rfl⟩) rfl (weak_ret (fun z => z) rfl rfl wH rfl)
      · refine sgCall (b := false) (args := [vN k]) (d := 24) (x := vS (nameL k)) rfl (by kernel_rfl) rfl rfl rfl rfl rfl rfl rfl (.inl rfl) rfl (dName k hk) ?_
        refine aGo [3] (by kernel_rfl) rfl ⟨?_, trivial⟩
        refine sgIdx (b := true) (rowS w0) (d := 21) (x := .dp 1 0 (rowS w0)) rfl (by kernel_rfl) rfl rfl rfl rfl rfl rfl (⟨by decide, getM (l := w0 :: t) (k := 0) rfl⟩) rfl ?_
        refine aGo [4] (by kernel_rfl) rfl ⟨?_, trivial⟩
        refine sgOk (b := true) (d := 22) (x := vS w0) rfl (by kernel_rfl) rfl rfl rfl rfl rfl rfl ?_
        refine aGo [7] (by kernel_rfl) rfl ⟨?_, trivial⟩
        refine sgOk (b := false) (d := 25) (x := vB true) rfl (by kernel_rfl) rfl rfl rfl rfl rfl (okBo ((eq_tL w0 (nameL k)).trans (decide_eq_true hN2))) ?_
        refine aGo [8] (by kernel_rfl) rfl ⟨?_, trivial⟩
        refine sOk (b := false) (d := 26) (x := vB (cond2 true true false)) rfl (by kernel_rfl) rfl rfl rfl ?_
        refine aGo [9] (by kernel_rfl) rfl ⟨?_, trivial⟩
        refine sOk (b := false) (d := 27) (x := vB (cond2 true true false)) rfl (by kernel_rfl) rfl rfl rfl ?_
        refine aGo [10, 11] (by kernel_rfl) rfl ⟨?_, ?_, trivial⟩
        · refine sgOk (b := false) (d := 28) (x := vN k) rfl (by kernel_rfl) rfl rfl rfl rfl rfl rfl ?_
          refine aGo [11] (by kernel_rfl) rfl ⟨?_, trivial⟩
          refine sgOk (b := false) (d := 29) (x := .sl 1 ((w0 :: t).map rowS) false) rfl (by kernel_rfl) rfl rfl rfl rfl rfl rfl ?_
          refine aGo [12] (by kernel_rfl) rfl ⟨?_, trivial⟩
          refine sgNeed (b := false) (d := 30) (x := .sl 1 (t.map rowS) (false && true)) rfl (by kernel_rfl) rfl rfl rfl rfl rfl (needS (sliceL rowS (w0 :: t) 1)) (by refine ⟨?_, ?_, ?_⟩; all_goals (first | decide | (apply Int.ofNat_le.2; exact omT))) ?_
          refine aGo [13] (by kernel_rfl) rfl ⟨?_, trivial⟩
          refine sgH (args := [.ptr 0 0, vN k, .sl 1 (t.map rowS) (false && true)]) (d := 31) _ rfl rfl rfl rfl rfl rfl rfl (by kernel_rfl) (readAt L.ix hk ht hw rfl rfl) ?_
          rintro _ _ (⟨q, hq, rfl, rfl⟩ | ⟨hq, rfl, q, a2, b2, c2, rfl⟩)
          · have hqo := readM_ok hp ht hw hq
            refine aGo [14] (by kernel_rfl) rfl ⟨?_, trivial⟩
            refine sOk (b := false) (d := 32) (x := vB (cond2 (cond2 true true false) true false)) rfl (by kernel_rfl) rfl rfl rfl ?_
            refine aGo [15] (by kernel_rfl) rfl ⟨?_, trivial⟩
            refine sOk (b := false) (d := 33) (x := vB (cond2 (cond2 true true false) true false)) rfl (by kernel_rfl) rfl rfl rfl ?_
            refine aGo [16] (by kernel_rfl) rfl ⟨?_, trivial⟩
            refine sgOk (b := false) (d := 34) (x := .agg [vI q.mode, vI q.width, vI q.rob, vI q.queue, vI q.stores, vI q.slots, vI q.sets, vI q.ways, .sl 1 (q.lat.map rowI) (fl 9 (k + 1) q.lat), vB q.tables, .sl 1 (q.tape.map rowU) (fl 10 (k + 1) q.tape), .sl 1 (q.prog.map rowU) (fl 11 (k + 1) q.prog), vS q.mem, vI q.cycles]) rfl (by kernel_rfl) rfl rfl rfl rfl rfl rfl ?_
            refine aGo [17] (by kernel_rfl) rfl ⟨?_, trivial⟩
            refine sgCall (b := false) (args := [.agg [vI q.mode, vI q.width, vI q.rob, vI q.queue, vI q.stores, vI q.slots, vI q.sets, vI q.ways, .sl 1 (q.lat.map rowI) (fl 9 (k + 1) q.lat), vB q.tables, .sl 1 (q.tape.map rowU) (fl 10 (k + 1) q.tape), .sl 1 (q.prog.map rowU) (fl 11 (k + 1) q.prog), vS q.mem, vI q.cycles]]) (d := 35) (x := vB (rightP q)) rfl (by kernel_rfl) rfl rfl rfl rfl rfl rfl rfl (.inl rfl) rfl (dRight q _ _ _ hqo) ?_
            refine aGo [18] (by kernel_rfl) rfl ⟨?_, trivial⟩
            refine sOk (b := false) (d := 36) (x := vB (cond2 (cond2 (cond2 true true false) true false) (rightP q) false)) rfl (by kernel_rfl) rfl rfl rfl ?_
            refine aGo [19] (by kernel_rfl) rfl ⟨?_, trivial⟩
            refine sOk (b := false) (d := 4) (x := vB (cond2 (cond2 (cond2 true true false) true false) (rightP q) false)) rfl (by kernel_rfl) rfl rfl rfl <| aEnd (n' := 37) (by kernel_rfl) rfl <| cRet ?_
            have hst := stepM_right hws hN2 hq hqo
            rcases hR : rightP q with _ | _
            · rw [hR] at hst; exact finH (rs := [vB false]) rfl (r := vB false) (h' := heapF [(0, .box (planL q (fl 9 (k + 1) q.lat) (fl 10 (k + 1) q.tape) (fl 11 (k + 1) q.prog))), (1, .box [vS (cutL 10 r).2.1])]) (σ := fun z => z) (.inr ⟨.inr hst, rfl, _, _, _, _, rfl⟩) rfl (weak_ret (fun z => z) rfl rfl wH rfl)
            · rw [hR] at hst; exact finH (rs := [vB true]) rfl (r := vB true) (h' := heapF [(0, .box (planL q (fl 9 (k + 1) q.lat) (fl 10 (k + 1) q.tape) (fl 11 (k + 1) q.prog))), (1, .box [vS (cutL 10 r).2.1])]) (σ := fun z => z) (.inl ⟨q, ⟨hE, hst, hqo⟩, rfl, rfl⟩) rfl (weak_ret (fun z => z) rfl rfl wH rfl)
          · refine aGo [14] (by kernel_rfl) rfl ⟨?_, trivial⟩
            refine sOk (b := false) (d := 32) (x := vB (cond2 (cond2 true true false) false false)) rfl (by kernel_rfl) rfl rfl rfl ?_
            refine aGo [15] (by kernel_rfl) rfl ⟨?_, trivial⟩
            refine sOk (b := false) (d := 33) (x := vB (cond2 (cond2 true true false) false false)) rfl (by kernel_rfl) rfl rfl rfl ?_
            refine aGo [16] (by kernel_rfl) rfl ⟨?_, trivial⟩
            refine sfOk (b := false) (d := 34) (x := .agg [vI q.mode, vI q.width, vI q.rob, vI q.queue, vI q.stores, vI q.slots, vI q.sets, vI q.ways, .sl 1 (q.lat.map rowI) a2, vB q.tables, .sl 1 (q.tape.map rowU) b2, .sl 1 (q.prog.map rowU) c2, vS q.mem, vI q.cycles]) rfl (by kernel_rfl) rfl rfl rfl rfl rfl rfl ?_
            refine aGo [17] (by kernel_rfl) rfl ⟨?_, trivial⟩
            refine sfCallS (b := false) (args := [.agg [vI q.mode, vI q.width, vI q.rob, vI q.queue, vI q.stores, vI q.slots, vI q.sets, vI q.ways, .sl 1 (q.lat.map rowI) a2, vB q.tables, .sl 1 (q.tape.map rowU) b2, .sl 1 (q.prog.map rowU) c2, vS q.mem, vI q.cycles]]) (d := 35) (x := vB (rightP q)) rfl (by kernel_rfl) rfl rfl rfl rfl rfl rfl rfl (.inl rfl) rfl ?_
            refine aGo [18] (by kernel_rfl) rfl ⟨?_, trivial⟩
            refine sNeed (b := false) (d := 36) (x := vB (cond2 (cond2 (cond2 true true false) false false) (rightP q) false)) rfl (by kernel_rfl) rfl rfl rfl (fun h => h) ?_
            refine aGo [19] (by kernel_rfl) rfl ⟨?_, trivial⟩
            refine sOk (b := false) (d := 4) (x := vB (cond2 (cond2 (cond2 true true false) false false) (rightP q) false)) rfl (by kernel_rfl) rfl rfl rfl <| aEnd (n' := 37) (by kernel_rfl) rfl <| cRet ?_
            exact finH (rs := [vB false]) rfl (r := vB false) (h' := heapF [(0, .box (planL q a2 b2 c2)), (1, .box [vS (cutL 10 r).2.1])]) (σ := fun z => z) (.inr ⟨.inr (stepM_read hws hq), rfl, _, _, _, _, rfl⟩) rfl (weak_ret (fun z => z) rfl rfl wH rfl)
        · refine sgOk (b := false) (d := 29) (x := .sl 1 ((w0 :: t).map rowS) false) rfl (by kernel_rfl) rfl rfl rfl rfl rfl rfl ?_
          refine aGo [10, 12] (by kernel_rfl) rfl ⟨?_, ?_, trivial⟩
          · refine sgOk (b := true) (d := 28) (x := vN k) rfl (by kernel_rfl) rfl rfl rfl rfl rfl rfl ?_
            refine aGo [12] (by kernel_rfl) rfl ⟨?_, trivial⟩
            refine sgNeed (b := false) (d := 30) (x := .sl 1 (t.map rowS) (false && true)) rfl (by kernel_rfl) rfl rfl rfl rfl rfl (needS (sliceL rowS (w0 :: t) 1)) (by refine ⟨?_, ?_, ?_⟩; all_goals (first | decide | (apply Int.ofNat_le.2; exact omT))) ?_
            refine aGo [13] (by kernel_rfl) rfl ⟨?_, trivial⟩
            refine sgH (args := [.ptr 0 0, vN k, .sl 1 (t.map rowS) (false && true)]) (d := 31) _ rfl rfl rfl rfl rfl rfl rfl (by kernel_rfl) (readAt L.ix hk ht hw rfl rfl) ?_
            rintro _ _ (⟨q, hq, rfl, rfl⟩ | ⟨hq, rfl, q, a2, b2, c2, rfl⟩)
            · have hqo := readM_ok hp ht hw hq
              refine aGo [14] (by kernel_rfl) rfl ⟨?_, trivial⟩
              refine sOk (b := false) (d := 32) (x := vB (cond2 (cond2 true true false) true false)) rfl (by kernel_rfl) rfl rfl rfl ?_
              refine aGo [15] (by kernel_rfl) rfl ⟨?_, trivial⟩
              refine sOk (b := false) (d := 33) (x := vB (cond2 (cond2 true true false) true false)) rfl (by kernel_rfl) rfl rfl rfl ?_
              refine aGo [16] (by kernel_rfl) rfl ⟨?_, trivial⟩
              refine sgOk (b := false) (d := 34) (x := .agg [vI q.mode, vI q.width, vI q.rob, vI q.queue, vI q.stores, vI q.slots, vI q.sets, vI q.ways, .sl 1 (q.lat.map rowI) (fl 9 (k + 1) q.lat), vB q.tables, .sl 1 (q.tape.map rowU) (fl 10 (k + 1) q.tape), .sl 1 (q.prog.map rowU) (fl 11 (k + 1) q.prog), vS q.mem, vI q.cycles]) rfl (by kernel_rfl) rfl rfl rfl rfl rfl rfl ?_
              refine aGo [17] (by kernel_rfl) rfl ⟨?_, trivial⟩
              refine sgCall (b := false) (args := [.agg [vI q.mode, vI q.width, vI q.rob, vI q.queue, vI q.stores, vI q.slots, vI q.sets, vI q.ways, .sl 1 (q.lat.map rowI) (fl 9 (k + 1) q.lat), vB q.tables, .sl 1 (q.tape.map rowU) (fl 10 (k + 1) q.tape), .sl 1 (q.prog.map rowU) (fl 11 (k + 1) q.prog), vS q.mem, vI q.cycles]]) (d := 35) (x := vB (rightP q)) rfl (by kernel_rfl) rfl rfl rfl rfl rfl rfl rfl (.inl rfl) rfl (dRight q _ _ _ hqo) ?_
              refine aGo [18] (by kernel_rfl) rfl ⟨?_, trivial⟩
              refine sOk (b := false) (d := 36) (x := vB (cond2 (cond2 (cond2 true true false) true false) (rightP q) false)) rfl (by kernel_rfl) rfl rfl rfl ?_
              refine aGo [19] (by kernel_rfl) rfl ⟨?_, trivial⟩
              refine sOk (b := false) (d := 4) (x := vB (cond2 (cond2 (cond2 true true false) true false) (rightP q) false)) rfl (by kernel_rfl) rfl rfl rfl <| aEnd (n' := 37) (by kernel_rfl) rfl <| cRet ?_
              have hst := stepM_right hws hN2 hq hqo
              rcases hR : rightP q with _ | _
              · rw [hR] at hst; exact finH (rs := [vB false]) rfl (r := vB false) (h' := heapF [(0, .box (planL q (fl 9 (k + 1) q.lat) (fl 10 (k + 1) q.tape) (fl 11 (k + 1) q.prog))), (1, .box [vS (cutL 10 r).2.1])]) (σ := fun z => z) (.inr ⟨.inr hst, rfl, _, _, _, _, rfl⟩) rfl (weak_ret (fun z => z) rfl rfl wH rfl)
              · rw [hR] at hst; exact finH (rs := [vB true]) rfl (r := vB true) (h' := heapF [(0, .box (planL q (fl 9 (k + 1) q.lat) (fl 10 (k + 1) q.tape) (fl 11 (k + 1) q.prog))), (1, .box [vS (cutL 10 r).2.1])]) (σ := fun z => z) (.inl ⟨q, ⟨hE, hst, hqo⟩, rfl, rfl⟩) rfl (weak_ret (fun z => z) rfl rfl wH rfl)
            · refine aGo [14] (by kernel_rfl) rfl ⟨?_, trivial⟩
              refine sOk (b := false) (d := 32) (x := vB (cond2 (cond2 true true false) false false)) rfl (by kernel_rfl) rfl rfl rfl ?_
              refine aGo [15] (by kernel_rfl) rfl ⟨?_, trivial⟩
              refine sOk (b := false) (d := 33) (x := vB (cond2 (cond2 true true false) false false)) rfl (by kernel_rfl) rfl rfl rfl ?_
              refine aGo [16] (by kernel_rfl) rfl ⟨?_, trivial⟩
              refine sfOk (b := false) (d := 34) (x := .agg [vI q.mode, vI q.width, vI q.rob, vI q.queue, vI q.stores, vI q.slots, vI q.sets, vI q.ways, .sl 1 (q.lat.map rowI) a2, vB q.tables, .sl 1 (q.tape.map rowU) b2, .sl 1 (q.prog.map rowU) c2, vS q.mem, vI q.cycles]) rfl (by kernel_rfl) rfl rfl rfl rfl rfl rfl ?_
              refine aGo [17] (by kernel_rfl) rfl ⟨?_, trivial⟩
              refine sfCallS (b := false) (args := [.agg [vI q.mode, vI q.width, vI q.rob, vI q.queue, vI q.stores, vI q.slots, vI q.sets, vI q.ways, .sl 1 (q.lat.map rowI) a2, vB q.tables, .sl 1 (q.tape.map rowU) b2, .sl 1 (q.prog.map rowU) c2, vS q.mem, vI q.cycles]]) (d := 35) (x := vB (rightP q)) rfl (by kernel_rfl) rfl rfl rfl rfl rfl rfl rfl (.inl rfl) rfl ?_
              refine aGo [18] (by kernel_rfl) rfl ⟨?_, trivial⟩
              refine sNeed (b := false) (d := 36) (x := vB (cond2 (cond2 (cond2 true true false) false false) (rightP q) false)) rfl (by kernel_rfl) rfl rfl rfl (fun h => h) ?_
              refine aGo [19] (by kernel_rfl) rfl ⟨?_, trivial⟩
              refine sOk (b := false) (d := 4) (x := vB (cond2 (cond2 (cond2 true true false) false false) (rightP q) false)) rfl (by kernel_rfl) rfl rfl rfl <| aEnd (n' := 37) (by kernel_rfl) rfl <| cRet ?_
              exact finH (rs := [vB false]) rfl (r := vB false) (h' := heapF [(0, .box (planL q a2 b2 c2)), (1, .box [vS (cutL 10 r).2.1])]) (σ := fun z => z) (.inr ⟨.inr (stepM_read hws hq), rfl, _, _, _, _, rfl⟩) rfl (weak_ret (fun z => z) rfl rfl wH rfl)
          · refine sgNeed (b := false) (d := 30) (x := .sl 1 (t.map rowS) (false && true)) rfl (by kernel_rfl) rfl rfl rfl rfl rfl (needS (sliceL rowS (w0 :: t) 1)) (by refine ⟨?_, ?_, ?_⟩; all_goals (first | decide | (apply Int.ofNat_le.2; exact omT))) ?_
            refine aGo [10] (by kernel_rfl) rfl ⟨?_, trivial⟩
            refine sgOk (b := true) (d := 28) (x := vN k) rfl (by kernel_rfl) rfl rfl rfl rfl rfl rfl ?_
            refine aGo [13] (by kernel_rfl) rfl ⟨?_, trivial⟩
            refine sgH (args := [.ptr 0 0, vN k, .sl 1 (t.map rowS) (false && true)]) (d := 31) _ rfl rfl rfl rfl rfl rfl rfl (by kernel_rfl) (readAt L.ix hk ht hw rfl rfl) ?_
            rintro _ _ (⟨q, hq, rfl, rfl⟩ | ⟨hq, rfl, q, a2, b2, c2, rfl⟩)
            · have hqo := readM_ok hp ht hw hq
              refine aGo [14] (by kernel_rfl) rfl ⟨?_, trivial⟩
              refine sOk (b := false) (d := 32) (x := vB (cond2 (cond2 true true false) true false)) rfl (by kernel_rfl) rfl rfl rfl ?_
              refine aGo [15] (by kernel_rfl) rfl ⟨?_, trivial⟩
              refine sOk (b := false) (d := 33) (x := vB (cond2 (cond2 true true false) true false)) rfl (by kernel_rfl) rfl rfl rfl ?_
              refine aGo [16] (by kernel_rfl) rfl ⟨?_, trivial⟩
              refine sgOk (b := false) (d := 34) (x := .agg [vI q.mode, vI q.width, vI q.rob, vI q.queue, vI q.stores, vI q.slots, vI q.sets, vI q.ways, .sl 1 (q.lat.map rowI) (fl 9 (k + 1) q.lat), vB q.tables, .sl 1 (q.tape.map rowU) (fl 10 (k + 1) q.tape), .sl 1 (q.prog.map rowU) (fl 11 (k + 1) q.prog), vS q.mem, vI q.cycles]) rfl (by kernel_rfl) rfl rfl rfl rfl rfl rfl ?_
              refine aGo [17] (by kernel_rfl) rfl ⟨?_, trivial⟩
              refine sgCall (b := false) (args := [.agg [vI q.mode, vI q.width, vI q.rob, vI q.queue, vI q.stores, vI q.slots, vI q.sets, vI q.ways, .sl 1 (q.lat.map rowI) (fl 9 (k + 1) q.lat), vB q.tables, .sl 1 (q.tape.map rowU) (fl 10 (k + 1) q.tape), .sl 1 (q.prog.map rowU) (fl 11 (k + 1) q.prog), vS q.mem, vI q.cycles]]) (d := 35) (x := vB (rightP q)) rfl (by kernel_rfl) rfl rfl rfl rfl rfl rfl rfl (.inl rfl) rfl (dRight q _ _ _ hqo) ?_
              refine aGo [18] (by kernel_rfl) rfl ⟨?_, trivial⟩
              refine sOk (b := false) (d := 36) (x := vB (cond2 (cond2 (cond2 true true false) true false) (rightP q) false)) rfl (by kernel_rfl) rfl rfl rfl ?_
              refine aGo [19] (by kernel_rfl) rfl ⟨?_, trivial⟩
              refine sOk (b := false) (d := 4) (x := vB (cond2 (cond2 (cond2 true true false) true false) (rightP q) false)) rfl (by kernel_rfl) rfl rfl rfl <| aEnd (n' := 37) (by kernel_rfl) rfl <| cRet ?_
              have hst := stepM_right hws hN2 hq hqo
              rcases hR : rightP q with _ | _
              · rw [hR] at hst; exact finH (rs := [vB false]) rfl (r := vB false) (h' := heapF [(0, .box (planL q (fl 9 (k + 1) q.lat) (fl 10 (k + 1) q.tape) (fl 11 (k + 1) q.prog))), (1, .box [vS (cutL 10 r).2.1])]) (σ := fun z => z) (.inr ⟨.inr hst, rfl, _, _, _, _, rfl⟩) rfl (weak_ret (fun z => z) rfl rfl wH rfl)
              · rw [hR] at hst; exact finH (rs := [vB true]) rfl (r := vB true) (h' := heapF [(0, .box (planL q (fl 9 (k + 1) q.lat) (fl 10 (k + 1) q.tape) (fl 11 (k + 1) q.prog))), (1, .box [vS (cutL 10 r).2.1])]) (σ := fun z => z) (.inl ⟨q, ⟨hE, hst, hqo⟩, rfl, rfl⟩) rfl (weak_ret (fun z => z) rfl rfl wH rfl)
            · refine aGo [14] (by kernel_rfl) rfl ⟨?_, trivial⟩
              refine sOk (b := false) (d := 32) (x := vB (cond2 (cond2 true true false) false false)) rfl (by kernel_rfl) rfl rfl rfl ?_
              refine aGo [15] (by kernel_rfl) rfl ⟨?_, trivial⟩
              refine sOk (b := false) (d := 33) (x := vB (cond2 (cond2 true true false) false false)) rfl (by kernel_rfl) rfl rfl rfl ?_
              refine aGo [16] (by kernel_rfl) rfl ⟨?_, trivial⟩
              refine sfOk (b := false) (d := 34) (x := .agg [vI q.mode, vI q.width, vI q.rob, vI q.queue, vI q.stores, vI q.slots, vI q.sets, vI q.ways, .sl 1 (q.lat.map rowI) a2, vB q.tables, .sl 1 (q.tape.map rowU) b2, .sl 1 (q.prog.map rowU) c2, vS q.mem, vI q.cycles]) rfl (by kernel_rfl) rfl rfl rfl rfl rfl rfl ?_
              refine aGo [17] (by kernel_rfl) rfl ⟨?_, trivial⟩
              refine sfCallS (b := false) (args := [.agg [vI q.mode, vI q.width, vI q.rob, vI q.queue, vI q.stores, vI q.slots, vI q.sets, vI q.ways, .sl 1 (q.lat.map rowI) a2, vB q.tables, .sl 1 (q.tape.map rowU) b2, .sl 1 (q.prog.map rowU) c2, vS q.mem, vI q.cycles]]) (d := 35) (x := vB (rightP q)) rfl (by kernel_rfl) rfl rfl rfl rfl rfl rfl rfl (.inl rfl) rfl ?_
              refine aGo [18] (by kernel_rfl) rfl ⟨?_, trivial⟩
              refine sNeed (b := false) (d := 36) (x := vB (cond2 (cond2 (cond2 true true false) false false) (rightP q) false)) rfl (by kernel_rfl) rfl rfl rfl (fun h => h) ?_
              refine aGo [19] (by kernel_rfl) rfl ⟨?_, trivial⟩
              refine sOk (b := false) (d := 4) (x := vB (cond2 (cond2 (cond2 true true false) false false) (rightP q) false)) rfl (by kernel_rfl) rfl rfl rfl <| aEnd (n' := 37) (by kernel_rfl) rfl <| cRet ?_
              exact finH (rs := [vB false]) rfl (r := vB false) (h' := heapF [(0, .box (planL q a2 b2 c2)), (1, .box [vS (cutL 10 r).2.1])]) (σ := fun z => z) (.inr ⟨.inr (stepM_read hws hq), rfl, _, _, _, _, rfl⟩) rfl (weak_ret (fun z => z) rfl rfl wH rfl)
    · refine sgCall (b := false) (args := [vN k]) (d := 24) (x := vS (nameL k)) rfl (by kernel_rfl) rfl rfl rfl rfl rfl rfl rfl (.inl rfl) rfl (dName k hk) ?_
      refine aGo [2] (by kernel_rfl) rfl ⟨?_, trivial⟩
      refine sgOk (b := true) (d := 20) (x := .sl 1 ((w0 :: t).map rowS) false) rfl (by kernel_rfl) rfl rfl rfl rfl rfl rfl ?_
      refine aGo [3] (by kernel_rfl) rfl ⟨?_, trivial⟩
      refine sgIdx (b := true) (rowS w0) (d := 21) (x := .dp 1 0 (rowS w0)) rfl (by kernel_rfl) rfl rfl rfl rfl rfl rfl (⟨by decide, getM (l := w0 :: t) (k := 0) rfl⟩) rfl ?_
      refine aGo [4] (by kernel_rfl) rfl ⟨?_, trivial⟩
      refine sgOk (b := true) (d := 22) (x := vS w0) rfl (by kernel_rfl) rfl rfl rfl rfl rfl rfl ?_
      refine aGo [7] (by kernel_rfl) rfl ⟨?_, trivial⟩
      refine sgOk (b := false) (d := 25) (x := vB true) rfl (by kernel_rfl) rfl rfl rfl rfl rfl (okBo ((eq_tL w0 (nameL k)).trans (decide_eq_true hN2))) ?_
      refine aGo [8] (by kernel_rfl) rfl ⟨?_, trivial⟩
      refine sOk (b := false) (d := 26) (x := vB (cond2 true true false)) rfl (by kernel_rfl) rfl rfl rfl ?_
      refine aGo [9] (by kernel_rfl) rfl ⟨?_, trivial⟩
      refine sOk (b := false) (d := 27) (x := vB (cond2 true true false)) rfl (by kernel_rfl) rfl rfl rfl ?_
      refine aGo [10, 11] (by kernel_rfl) rfl ⟨?_, ?_, trivial⟩
      · refine sgOk (b := false) (d := 28) (x := vN k) rfl (by kernel_rfl) rfl rfl rfl rfl rfl rfl ?_
        refine aGo [11] (by kernel_rfl) rfl ⟨?_, trivial⟩
        refine sgOk (b := false) (d := 29) (x := .sl 1 ((w0 :: t).map rowS) false) rfl (by kernel_rfl) rfl rfl rfl rfl rfl rfl ?_
        refine aGo [12] (by kernel_rfl) rfl ⟨?_, trivial⟩
        refine sgNeed (b := false) (d := 30) (x := .sl 1 (t.map rowS) (false && true)) rfl (by kernel_rfl) rfl rfl rfl rfl rfl (needS (sliceL rowS (w0 :: t) 1)) (by refine ⟨?_, ?_, ?_⟩; all_goals (first | decide | (apply Int.ofNat_le.2; exact omT))) ?_
        refine aGo [13] (by kernel_rfl) rfl ⟨?_, trivial⟩
        refine sgH (args := [.ptr 0 0, vN k, .sl 1 (t.map rowS) (false && true)]) (d := 31) _ rfl rfl rfl rfl rfl rfl rfl (by kernel_rfl) (readAt L.ix hk ht hw rfl rfl) ?_
        rintro _ _ (⟨q, hq, rfl, rfl⟩ | ⟨hq, rfl, q, a2, b2, c2, rfl⟩)
        · have hqo := readM_ok hp ht hw hq
          refine aGo [14] (by kernel_rfl) rfl ⟨?_, trivial⟩
          refine sOk (b := false) (d := 32) (x := vB (cond2 (cond2 true true false) true false)) rfl (by kernel_rfl) rfl rfl rfl ?_
          refine aGo [15] (by kernel_rfl) rfl ⟨?_, trivial⟩
          refine sOk (b := false) (d := 33) (x := vB (cond2 (cond2 true true false) true false)) rfl (by kernel_rfl) rfl rfl rfl ?_
          refine aGo [16] (by kernel_rfl) rfl ⟨?_, trivial⟩
          refine sgOk (b := false) (d := 34) (x := .agg [vI q.mode, vI q.width, vI q.rob, vI q.queue, vI q.stores, vI q.slots, vI q.sets, vI q.ways, .sl 1 (q.lat.map rowI) (fl 9 (k + 1) q.lat), vB q.tables, .sl 1 (q.tape.map rowU) (fl 10 (k + 1) q.tape), .sl 1 (q.prog.map rowU) (fl 11 (k + 1) q.prog), vS q.mem, vI q.cycles]) rfl (by kernel_rfl) rfl rfl rfl rfl rfl rfl ?_
          refine aGo [17] (by kernel_rfl) rfl ⟨?_, trivial⟩
          refine sgCall (b := false) (args := [.agg [vI q.mode, vI q.width, vI q.rob, vI q.queue, vI q.stores, vI q.slots, vI q.sets, vI q.ways, .sl 1 (q.lat.map rowI) (fl 9 (k + 1) q.lat), vB q.tables, .sl 1 (q.tape.map rowU) (fl 10 (k + 1) q.tape), .sl 1 (q.prog.map rowU) (fl 11 (k + 1) q.prog), vS q.mem, vI q.cycles]]) (d := 35) (x := vB (rightP q)) rfl (by kernel_rfl) rfl rfl rfl rfl rfl rfl rfl (.inl rfl) rfl (dRight q _ _ _ hqo) ?_
          refine aGo [18] (by kernel_rfl) rfl ⟨?_, trivial⟩
          refine sOk (b := false) (d := 36) (x := vB (cond2 (cond2 (cond2 true true false) true false) (rightP q) false)) rfl (by kernel_rfl) rfl rfl rfl ?_
          refine aGo [19] (by kernel_rfl) rfl ⟨?_, trivial⟩
          refine sOk (b := false) (d := 4) (x := vB (cond2 (cond2 (cond2 true true false) true false) (rightP q) false)) rfl (by kernel_rfl) rfl rfl rfl <| aEnd (n' := 37) (by kernel_rfl) rfl <| cRet ?_
          have hst := stepM_right hws hN2 hq hqo
          rcases hR : rightP q with _ | _
          · rw [hR] at hst; exact finH (rs := [vB false]) rfl (r := vB false) (h' := heapF [(0, .box (planL q (fl 9 (k + 1) q.lat) (fl 10 (k + 1) q.tape) (fl 11 (k + 1) q.prog))), (1, .box [vS (cutL 10 r).2.1])]) (σ := fun z => z) (.inr ⟨.inr hst, rfl, _, _, _, _, rfl⟩) rfl (weak_ret (fun z => z) rfl rfl wH rfl)
          · rw [hR] at hst; exact finH (rs := [vB true]) rfl (r := vB true) (h' := heapF [(0, .box (planL q (fl 9 (k + 1) q.lat) (fl 10 (k + 1) q.tape) (fl 11 (k + 1) q.prog))), (1, .box [vS (cutL 10 r).2.1])]) (σ := fun z => z) (.inl ⟨q, ⟨hE, hst, hqo⟩, rfl, rfl⟩) rfl (weak_ret (fun z => z) rfl rfl wH rfl)
        · refine aGo [14] (by kernel_rfl) rfl ⟨?_, trivial⟩
          refine sOk (b := false) (d := 32) (x := vB (cond2 (cond2 true true false) false false)) rfl (by kernel_rfl) rfl rfl rfl ?_
          refine aGo [15] (by kernel_rfl) rfl ⟨?_, trivial⟩
          refine sOk (b := false) (d := 33) (x := vB (cond2 (cond2 true true false) false false)) rfl (by kernel_rfl) rfl rfl rfl ?_
          refine aGo [16] (by kernel_rfl) rfl ⟨?_, trivial⟩
          refine sfOk (b := false) (d := 34) (x := .agg [vI q.mode, vI q.width, vI q.rob, vI q.queue, vI q.stores, vI q.slots, vI q.sets, vI q.ways, .sl 1 (q.lat.map rowI) a2, vB q.tables, .sl 1 (q.tape.map rowU) b2, .sl 1 (q.prog.map rowU) c2, vS q.mem, vI q.cycles]) rfl (by kernel_rfl) rfl rfl rfl rfl rfl rfl ?_
          refine aGo [17] (by kernel_rfl) rfl ⟨?_, trivial⟩
          refine sfCallS (b := false) (args := [.agg [vI q.mode, vI q.width, vI q.rob, vI q.queue, vI q.stores, vI q.slots, vI q.sets, vI q.ways, .sl 1 (q.lat.map rowI) a2, vB q.tables, .sl 1 (q.tape.map rowU) b2, .sl 1 (q.prog.map rowU) c2, vS q.mem, vI q.cycles]]) (d := 35) (x := vB (rightP q)) rfl (by kernel_rfl) rfl rfl rfl rfl rfl rfl rfl (.inl rfl) rfl ?_
          refine aGo [18] (by kernel_rfl) rfl ⟨?_, trivial⟩
          refine sNeed (b := false) (d := 36) (x := vB (cond2 (cond2 (cond2 true true false) false false) (rightP q) false)) rfl (by kernel_rfl) rfl rfl rfl (fun h => h) ?_
          refine aGo [19] (by kernel_rfl) rfl ⟨?_, trivial⟩
          refine sOk (b := false) (d := 4) (x := vB (cond2 (cond2 (cond2 true true false) false false) (rightP q) false)) rfl (by kernel_rfl) rfl rfl rfl <| aEnd (n' := 37) (by kernel_rfl) rfl <| cRet ?_
          exact finH (rs := [vB false]) rfl (r := vB false) (h' := heapF [(0, .box (planL q a2 b2 c2)), (1, .box [vS (cutL 10 r).2.1])]) (σ := fun z => z) (.inr ⟨.inr (stepM_read hws hq), rfl, _, _, _, _, rfl⟩) rfl (weak_ret (fun z => z) rfl rfl wH rfl)
      · refine sgOk (b := false) (d := 29) (x := .sl 1 ((w0 :: t).map rowS) false) rfl (by kernel_rfl) rfl rfl rfl rfl rfl rfl ?_
        refine aGo [10, 12] (by kernel_rfl) rfl ⟨?_, ?_, trivial⟩
        · refine sgOk (b := true) (d := 28) (x := vN k) rfl (by kernel_rfl) rfl rfl rfl rfl rfl rfl ?_
          refine aGo [12] (by kernel_rfl) rfl ⟨?_, trivial⟩
          refine sgNeed (b := false) (d := 30) (x := .sl 1 (t.map rowS) (false && true)) rfl (by kernel_rfl) rfl rfl rfl rfl rfl (needS (sliceL rowS (w0 :: t) 1)) (by refine ⟨?_, ?_, ?_⟩; all_goals (first | decide | (apply Int.ofNat_le.2; exact omT))) ?_
          refine aGo [13] (by kernel_rfl) rfl ⟨?_, trivial⟩
          refine sgH (args := [.ptr 0 0, vN k, .sl 1 (t.map rowS) (false && true)]) (d := 31) _ rfl rfl rfl rfl rfl rfl rfl (by kernel_rfl) (readAt L.ix hk ht hw rfl rfl) ?_
          rintro _ _ (⟨q, hq, rfl, rfl⟩ | ⟨hq, rfl, q, a2, b2, c2, rfl⟩)
          · have hqo := readM_ok hp ht hw hq
            refine aGo [14] (by kernel_rfl) rfl ⟨?_, trivial⟩
            refine sOk (b := false) (d := 32) (x := vB (cond2 (cond2 true true false) true false)) rfl (by kernel_rfl) rfl rfl rfl ?_
            refine aGo [15] (by kernel_rfl) rfl ⟨?_, trivial⟩
            refine sOk (b := false) (d := 33) (x := vB (cond2 (cond2 true true false) true false)) rfl (by kernel_rfl) rfl rfl rfl ?_
            refine aGo [16] (by kernel_rfl) rfl ⟨?_, trivial⟩
            refine sgOk (b := false) (d := 34) (x := .agg [vI q.mode, vI q.width, vI q.rob, vI q.queue, vI q.stores, vI q.slots, vI q.sets, vI q.ways, .sl 1 (q.lat.map rowI) (fl 9 (k + 1) q.lat), vB q.tables, .sl 1 (q.tape.map rowU) (fl 10 (k + 1) q.tape), .sl 1 (q.prog.map rowU) (fl 11 (k + 1) q.prog), vS q.mem, vI q.cycles]) rfl (by kernel_rfl) rfl rfl rfl rfl rfl rfl ?_
            refine aGo [17] (by kernel_rfl) rfl ⟨?_, trivial⟩
            refine sgCall (b := false) (args := [.agg [vI q.mode, vI q.width, vI q.rob, vI q.queue, vI q.stores, vI q.slots, vI q.sets, vI q.ways, .sl 1 (q.lat.map rowI) (fl 9 (k + 1) q.lat), vB q.tables, .sl 1 (q.tape.map rowU) (fl 10 (k + 1) q.tape), .sl 1 (q.prog.map rowU) (fl 11 (k + 1) q.prog), vS q.mem, vI q.cycles]]) (d := 35) (x := vB (rightP q)) rfl (by kernel_rfl) rfl rfl rfl rfl rfl rfl rfl (.inl rfl) rfl (dRight q _ _ _ hqo) ?_
            refine aGo [18] (by kernel_rfl) rfl ⟨?_, trivial⟩
            refine sOk (b := false) (d := 36) (x := vB (cond2 (cond2 (cond2 true true false) true false) (rightP q) false)) rfl (by kernel_rfl) rfl rfl rfl ?_
            refine aGo [19] (by kernel_rfl) rfl ⟨?_, trivial⟩
            refine sOk (b := false) (d := 4) (x := vB (cond2 (cond2 (cond2 true true false) true false) (rightP q) false)) rfl (by kernel_rfl) rfl rfl rfl <| aEnd (n' := 37) (by kernel_rfl) rfl <| cRet ?_
            have hst := stepM_right hws hN2 hq hqo
            rcases hR : rightP q with _ | _
            · rw [hR] at hst; exact finH (rs := [vB false]) rfl (r := vB false) (h' := heapF [(0, .box (planL q (fl 9 (k + 1) q.lat) (fl 10 (k + 1) q.tape) (fl 11 (k + 1) q.prog))), (1, .box [vS (cutL 10 r).2.1])]) (σ := fun z => z) (.inr ⟨.inr hst, rfl, _, _, _, _, rfl⟩) rfl (weak_ret (fun z => z) rfl rfl wH rfl)
            · rw [hR] at hst; exact finH (rs := [vB true]) rfl (r := vB true) (h' := heapF [(0, .box (planL q (fl 9 (k + 1) q.lat) (fl 10 (k + 1) q.tape) (fl 11 (k + 1) q.prog))), (1, .box [vS (cutL 10 r).2.1])]) (σ := fun z => z) (.inl ⟨q, ⟨hE, hst, hqo⟩, rfl, rfl⟩) rfl (weak_ret (fun z => z) rfl rfl wH rfl)
          · refine aGo [14] (by kernel_rfl) rfl ⟨?_, trivial⟩
            refine sOk (b := false) (d := 32) (x := vB (cond2 (cond2 true true false) false false)) rfl (by kernel_rfl) rfl rfl rfl ?_
            refine aGo [15] (by kernel_rfl) rfl ⟨?_, trivial⟩
            refine sOk (b := false) (d := 33) (x := vB (cond2 (cond2 true true false) false false)) rfl (by kernel_rfl) rfl rfl rfl ?_
            refine aGo [16] (by kernel_rfl) rfl ⟨?_, trivial⟩
            refine sfOk (b := false) (d := 34) (x := .agg [vI q.mode, vI q.width, vI q.rob, vI q.queue, vI q.stores, vI q.slots, vI q.sets, vI q.ways, .sl 1 (q.lat.map rowI) a2, vB q.tables, .sl 1 (q.tape.map rowU) b2, .sl 1 (q.prog.map rowU) c2, vS q.mem, vI q.cycles]) rfl (by kernel_rfl) rfl rfl rfl rfl rfl rfl ?_
            refine aGo [17] (by kernel_rfl) rfl ⟨?_, trivial⟩
            refine sfCallS (b := false) (args := [.agg [vI q.mode, vI q.width, vI q.rob, vI q.queue, vI q.stores, vI q.slots, vI q.sets, vI q.ways, .sl 1 (q.lat.map rowI) a2, vB q.tables, .sl 1 (q.tape.map rowU) b2, .sl 1 (q.prog.map rowU) c2, vS q.mem, vI q.cycles]]) (d := 35) (x := vB (rightP q)) rfl (by kernel_rfl) rfl rfl rfl rfl rfl rfl rfl (.inl rfl) rfl ?_
            refine aGo [18] (by kernel_rfl) rfl ⟨?_, trivial⟩
            refine sNeed (b := false) (d := 36) (x := vB (cond2 (cond2 (cond2 true true false) false false) (rightP q) false)) rfl (by kernel_rfl) rfl rfl rfl (fun h => h) ?_
            refine aGo [19] (by kernel_rfl) rfl ⟨?_, trivial⟩
            refine sOk (b := false) (d := 4) (x := vB (cond2 (cond2 (cond2 true true false) false false) (rightP q) false)) rfl (by kernel_rfl) rfl rfl rfl <| aEnd (n' := 37) (by kernel_rfl) rfl <| cRet ?_
            exact finH (rs := [vB false]) rfl (r := vB false) (h' := heapF [(0, .box (planL q a2 b2 c2)), (1, .box [vS (cutL 10 r).2.1])]) (σ := fun z => z) (.inr ⟨.inr (stepM_read hws hq), rfl, _, _, _, _, rfl⟩) rfl (weak_ret (fun z => z) rfl rfl wH rfl)
        · refine sgNeed (b := false) (d := 30) (x := .sl 1 (t.map rowS) (false && true)) rfl (by kernel_rfl) rfl rfl rfl rfl rfl (needS (sliceL rowS (w0 :: t) 1)) (by refine ⟨?_, ?_, ?_⟩; all_goals (first | decide | (apply Int.ofNat_le.2; exact omT))) ?_
          refine aGo [10] (by kernel_rfl) rfl ⟨?_, trivial⟩
          refine sgOk (b := true) (d := 28) (x := vN k) rfl (by kernel_rfl) rfl rfl rfl rfl rfl rfl ?_
          refine aGo [13] (by kernel_rfl) rfl ⟨?_, trivial⟩
          refine sgH (args := [.ptr 0 0, vN k, .sl 1 (t.map rowS) (false && true)]) (d := 31) _ rfl rfl rfl rfl rfl rfl rfl (by kernel_rfl) (readAt L.ix hk ht hw rfl rfl) ?_
          rintro _ _ (⟨q, hq, rfl, rfl⟩ | ⟨hq, rfl, q, a2, b2, c2, rfl⟩)
          · have hqo := readM_ok hp ht hw hq
            refine aGo [14] (by kernel_rfl) rfl ⟨?_, trivial⟩
            refine sOk (b := false) (d := 32) (x := vB (cond2 (cond2 true true false) true false)) rfl (by kernel_rfl) rfl rfl rfl ?_
            refine aGo [15] (by kernel_rfl) rfl ⟨?_, trivial⟩
            refine sOk (b := false) (d := 33) (x := vB (cond2 (cond2 true true false) true false)) rfl (by kernel_rfl) rfl rfl rfl ?_
            refine aGo [16] (by kernel_rfl) rfl ⟨?_, trivial⟩
            refine sgOk (b := false) (d := 34) (x := .agg [vI q.mode, vI q.width, vI q.rob, vI q.queue, vI q.stores, vI q.slots, vI q.sets, vI q.ways, .sl 1 (q.lat.map rowI) (fl 9 (k + 1) q.lat), vB q.tables, .sl 1 (q.tape.map rowU) (fl 10 (k + 1) q.tape), .sl 1 (q.prog.map rowU) (fl 11 (k + 1) q.prog), vS q.mem, vI q.cycles]) rfl (by kernel_rfl) rfl rfl rfl rfl rfl rfl ?_
            refine aGo [17] (by kernel_rfl) rfl ⟨?_, trivial⟩
            refine sgCall (b := false) (args := [.agg [vI q.mode, vI q.width, vI q.rob, vI q.queue, vI q.stores, vI q.slots, vI q.sets, vI q.ways, .sl 1 (q.lat.map rowI) (fl 9 (k + 1) q.lat), vB q.tables, .sl 1 (q.tape.map rowU) (fl 10 (k + 1) q.tape), .sl 1 (q.prog.map rowU) (fl 11 (k + 1) q.prog), vS q.mem, vI q.cycles]]) (d := 35) (x := vB (rightP q)) rfl (by kernel_rfl) rfl rfl rfl rfl rfl rfl rfl (.inl rfl) rfl (dRight q _ _ _ hqo) ?_
            refine aGo [18] (by kernel_rfl) rfl ⟨?_, trivial⟩
            refine sOk (b := false) (d := 36) (x := vB (cond2 (cond2 (cond2 true true false) true false) (rightP q) false)) rfl (by kernel_rfl) rfl rfl rfl ?_
            refine aGo [19] (by kernel_rfl) rfl ⟨?_, trivial⟩
            refine sOk (b := false) (d := 4) (x := vB (cond2 (cond2 (cond2 true true false) true false) (rightP q) false)) rfl (by kernel_rfl) rfl rfl rfl <| aEnd (n' := 37) (by kernel_rfl) rfl <| cRet ?_
            have hst := stepM_right hws hN2 hq hqo
            rcases hR : rightP q with _ | _
            · rw [hR] at hst; exact finH (rs := [vB false]) rfl (r := vB false) (h' := heapF [(0, .box (planL q (fl 9 (k + 1) q.lat) (fl 10 (k + 1) q.tape) (fl 11 (k + 1) q.prog))), (1, .box [vS (cutL 10 r).2.1])]) (σ := fun z => z) (.inr ⟨.inr hst, rfl, _, _, _, _, rfl⟩) rfl (weak_ret (fun z => z) rfl rfl wH rfl)
            · rw [hR] at hst; exact finH (rs := [vB true]) rfl (r := vB true) (h' := heapF [(0, .box (planL q (fl 9 (k + 1) q.lat) (fl 10 (k + 1) q.tape) (fl 11 (k + 1) q.prog))), (1, .box [vS (cutL 10 r).2.1])]) (σ := fun z => z) (.inl ⟨q, ⟨hE, hst, hqo⟩, rfl, rfl⟩) rfl (weak_ret (fun z => z) rfl rfl wH rfl)
          · refine aGo [14] (by kernel_rfl) rfl ⟨?_, trivial⟩
            refine sOk (b := false) (d := 32) (x := vB (cond2 (cond2 true true false) false false)) rfl (by kernel_rfl) rfl rfl rfl ?_
            refine aGo [15] (by kernel_rfl) rfl ⟨?_, trivial⟩
            refine sOk (b := false) (d := 33) (x := vB (cond2 (cond2 true true false) false false)) rfl (by kernel_rfl) rfl rfl rfl ?_
            refine aGo [16] (by kernel_rfl) rfl ⟨?_, trivial⟩
            refine sfOk (b := false) (d := 34) (x := .agg [vI q.mode, vI q.width, vI q.rob, vI q.queue, vI q.stores, vI q.slots, vI q.sets, vI q.ways, .sl 1 (q.lat.map rowI) a2, vB q.tables, .sl 1 (q.tape.map rowU) b2, .sl 1 (q.prog.map rowU) c2, vS q.mem, vI q.cycles]) rfl (by kernel_rfl) rfl rfl rfl rfl rfl rfl ?_
            refine aGo [17] (by kernel_rfl) rfl ⟨?_, trivial⟩
            refine sfCallS (b := false) (args := [.agg [vI q.mode, vI q.width, vI q.rob, vI q.queue, vI q.stores, vI q.slots, vI q.sets, vI q.ways, .sl 1 (q.lat.map rowI) a2, vB q.tables, .sl 1 (q.tape.map rowU) b2, .sl 1 (q.prog.map rowU) c2, vS q.mem, vI q.cycles]]) (d := 35) (x := vB (rightP q)) rfl (by kernel_rfl) rfl rfl rfl rfl rfl rfl rfl (.inl rfl) rfl ?_
            refine aGo [18] (by kernel_rfl) rfl ⟨?_, trivial⟩
            refine sNeed (b := false) (d := 36) (x := vB (cond2 (cond2 (cond2 true true false) false false) (rightP q) false)) rfl (by kernel_rfl) rfl rfl rfl (fun h => h) ?_
            refine aGo [19] (by kernel_rfl) rfl ⟨?_, trivial⟩
            refine sOk (b := false) (d := 4) (x := vB (cond2 (cond2 (cond2 true true false) false false) (rightP q) false)) rfl (by kernel_rfl) rfl rfl rfl <| aEnd (n' := 37) (by kernel_rfl) rfl <| cRet ?_
            exact finH (rs := [vB false]) rfl (r := vB false) (h' := heapF [(0, .box (planL q a2 b2 c2)), (1, .box [vS (cutL 10 r).2.1])]) (σ := fun z => z) (.inr ⟨.inr (stepM_read hws hq), rfl, _, _, _, _, rfl⟩) rfl (weak_ret (fun z => z) rfl rfl wH rfl)
end Go.Proofs.YtpefnjbmbfdmmaaDoor
