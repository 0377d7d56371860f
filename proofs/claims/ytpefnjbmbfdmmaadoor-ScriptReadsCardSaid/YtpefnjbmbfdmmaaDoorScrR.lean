/- Package script: how a line's words turn a plan: walks on the second machine. -/
import Derived.Test.YtpefnjbmbfdmmaaDoorAbsT
import Derived.Test.YtpefnjbmbfdmmaaDoorScrN
namespace Go.Proofs.YtpefnjbmbfdmmaaDoor
set_option maxRecDepth 100000
set_option maxHeartbeats 4000000
open Go.RowKit Go.Lib

theorem dPartsI2 (t : List W) (ck : Bool) (ht : t.length ≤ 900000) (hw : ∀ x ∈ t, x.length ≤ 900000) : DCall C0 41 [.sl 1 (t.map rowS) ck, .clo 42 [] []] (.tup [.sl 1 (((partsL readD t).getD []).map rowI) ((partsL readD t).getD []).isEmpty, vB (partsL readD t).isSome]) := by
  have h := dPartsI t ck ht hw
  cases hr : partsL readD t with
  | none => rw [hr] at h; exact h
  | some n => rw [hr] at h; exact h
theorem dPartsU2 (hB : HexIx) (t : List W) (ck : Bool) (ht : t.length ≤ 900000) (hw : ∀ x ∈ t, x.length ≤ 900000) : DCall C0 43 [.sl 1 (t.map rowS) ck, .clo 44 [] []] (.tup [.sl 1 (((partsL readC t).getD []).map rowU) ((partsL readC t).getD []).isEmpty, vB (partsL readC t).isSome]) := by
  have h := dPartsU hB t ck ht hw
  cases hr : partsL readC t with
  | none => rw [hr] at h; exact h
  | some n => rw [hr] at h; exact h
/-- What reading a line makes of a plan. -/
def ReadP (p : ScPlan) (t : List W) (k : Nat) (x : AV) (h' : AH) : Prop :=
  (∃ q, readM p t k = some q ∧ x = vB true ∧ h' = heapF [(0, .box (planF q (k + 1)))]) ∨ (readM p t k = none ∧ x = vB false ∧ ∃ q a b c, h' = heapF [(0, .box (planL q a b c))])
theorem one_no {α : Type} {rd : W → Option α} {t : List W} (h : ¬ t.length = 1) : oneL rd t = none := by
  match t, h with
  | [], _ => rfl
  | [_], h => exact absurd rfl h
  | _ :: _ :: _, _ => rfl
theorem one_len1 {t : List W} {x : W} (h : t.length = 1) (hx : t[0]? = some x) : t = [x] := by
  match t, h with
  | [y], _ => rw [show y = x from Option.some.inj hx]
theorem readO_none {x : W} (h : ∀ j : Nat, j < 3 → ¬ x = modeW j) : readO x = none := by
  unfold readO
  rw [if_neg (show ¬ x = offW from h 0 (by omega)), if_neg (show ¬ x = taintW from h 1 (by omega)), if_neg (show ¬ x = strictW from h 2 (by omega))]
theorem readO_some {x : W} {j : Nat} (hj : j < 3) (h : x = modeW j) : readO x = some (j : Int) := by
  subst h
  have : j = 0 ∨ j = 1 ∨ j = 2 := by omega
  rcases this with rfl | rfl | rfl <;> decide
theorem readT_ok (x : W) : cond2 (decide (x = tablesW)) true (decide (x = tapeW)) = (readT x).isSome ∧ ∀ v, readT x = some v → v = decide (x = tablesW) := by
  unfold readT
  by_cases h1 : x = tablesW
  · rw [if_pos h1, decide_eq_true h1]; exact ⟨rfl, fun v hv => (Option.some.inj hv).symm⟩
  · rw [if_neg h1, decide_eq_false h1]
    by_cases h2 : x = tapeW
    · rw [if_pos h2, decide_eq_true h2]; exact ⟨rfl, fun v hv => (Option.some.inj hv).symm⟩
    · rw [if_neg h2, decide_eq_false h2]; exact ⟨rfl, fun v hv => by cases hv⟩

theorem hRead_0 (hB : HexIx) (p : ScPlan) (t : List W) (ck : Bool) (ht : t.length ≤ 900000) (hw : ∀ x ∈ t, x.length ≤ 900000) : HSem C0.P C0.G 24 [.ptr 0 0, vI 0, .sl 1 (t.map rowS) ck] (heapF [(0, .box (planF p 0))]) 1 (ReadP p t 0) := by
  refine HCall.intro (C := C0) (s := 1) c0Ok.at Tryd.func24 rfl rfl (by kernel_rfl) rfl rfl <| cSeq <| cReg rfl <| oR 1 rfl <| rE 2 <| cSeq <| cReg rfl <| oR 1 rfl <| rE 3 <| cSeq <| cSeq <| cReg rfl <| oR 1 rfl <| rCl rfl (.inl rfl) (dName_0) <| rE 5 <| cBlock ?_
  refine cSeq <| cReg rfl <| rOk (x := vB false) rfl rfl (okBo ((eq_tL [109, 111, 100, 101] [108, 97, 116]).trans (by decide))) <| oR 1 rfl <| rE 7 ?_
  refine cCond rfl (fun h => by cases h) (fun _ => ?_)
  refine cSeq <| cReg rfl <| rOk (x := vB false) rfl rfl (okBo ((eq_tL [109, 111, 100, 101] [116, 97, 112, 101]).trans (by decide))) <| oR 1 rfl <| rE 9 ?_
  refine cCond rfl (fun h => by cases h) (fun _ => ?_)
  refine cSeq <| cReg rfl <| rOk (x := vB false) rfl rfl (okBo ((eq_tL [109, 111, 100, 101] [112, 114, 111, 103]).trans (by decide))) <| oR 1 rfl <| rE 11 ?_
  refine cCond rfl (fun h => by cases h) (fun _ => ?_)
  refine cSkip <| cSeq <| cSeq <| cReg rfl <| oR 1 rfl <| rOk (x := vN t.length) rfl rfl (lenMap rowS t) <| rOk (x := vB (t.length != 1)) rfl rfl (okB (neN _ _)) <| rE 14 ?_
  refine cCond rfl (fun h1 => ?_) (fun h1 => ?_)
  · have h1p := bne_t h1
    refine cSeq <| cReg rfl <| oR 1 rfl <| rE 15 <| cRet ?_
    exact finH (rs := [vB false]) rfl (r := vB false) (h' := heapF [(0, .box (planL p (fl 9 0 p.lat) (fl 10 0 p.tape) (fl 11 0 p.prog)))]) (σ := fun z => z) (.inr ⟨by show (oneL readO t).map _ = none; rw [one_no (by simpa using h1)]; rfl, rfl, _, _, _, _, rfl⟩) rfl (weak_ret (fun z => z) rfl rfl wH rfl)
  · have h1p := bne_f h1
    refine cSkip <| cSeq <| cReg rfl <| oR 1 rfl ?_
    obtain ⟨x1, hx1⟩ : ∃ y_, t[0]? = some y_ := ⟨_, List.getElem?_eq_getElem omT⟩
    have hx1o := hw x1 (List.mem_of_getElem? hx1)
    refine rIdx (rowS x1) (x := .dp 1 0 (rowS x1)) rfl rfl rfl (⟨by decide, getM hx1⟩) rfl <| oR 2 rfl <| rE 18 <| cSeq <| cSeq <| cReg rfl <| oR 2 rfl <| rHCall (args := [.ptr 0 0, vN 0]) (d := 56) _ rfl rfl rfl (numAt_0 (by decide) rfl) ?_
    rintro _ _ ⟨rfl, rfl⟩
    refine oR 1 rfl <| rE 22 <| cSeq <| cReg rfl <| oR 1 rfl <| rOk (x := vB false) rfl rfl rfl <| rE 24 ?_
    refine cCond rfl (fun h => by cases h) (fun _ => ?_)
    refine cSkip <| cSeq <| cSeq <| cReg rfl <| oR 1 rfl <| rCl rfl (.inl rfl) (dName_0) <| rE 26 <| cBlock <| cSeq <| cReg rfl <| rOk (x := vB true) rfl rfl (okBo ((eq_tL [109, 111, 100, 101] [109, 111, 100, 101]).trans (by decide))) <| oR 1 rfl <| rE 28 ?_
    refine cCond rfl (fun _ => ?_) (fun h => by cases h)
    refine cSeq <| cReg rfl <| oR 1 rfl <| rE 29 <| cBlock <| cLoopK (κ := Nat) (fun j => ⟨slotsF [(0, .ptr 0 0), (7, vB false), (13, vB false), (25, vB false), (37, vB false), (50, vB (t.length != 1)), (8, vS x1), (58, vB false), (68, .v (.string (⟨#[109, 111, 100, 101]⟩ : ByteArray))), (69, vB true), (10, vN j)], heapF [(0, .box [vI p.mode, vI p.width, vI p.rob, vI p.queue, vI p.stores, vI p.slots, vI p.sets, vI p.ways, .sl 1 (p.lat.map rowI) (fl 9 0 p.lat), vB p.tables, .sl 1 (p.tape.map rowU) (fl 10 0 p.tape), .sl 1 (p.prog.map rowU) (fl 11 0 p.prog), vS p.mem, vI p.cycles])], 29⟩) (fun j => j ≤ 3 ∧ ∀ i : Nat, i < j → ¬ x1 = modeW i) (fun j => 3 - j) 0 (fun s => s) (Weak.of_lists (fun s => s) wT wH rfl) rfl (⟨Nat.zero_le _, (fun i h => absurd h (Nat.not_lt_zero _))⟩) ?_
    intro j hj
    have hjn : j ≤ 3 := hj.1
    have hjB : j ≤ 3 := by omega
    refine cSeq <| cSeq <| cReg rfl <| oR 1 rfl <| rOk (x := vB (decide (j ≤ 2))) rfl rfl (okB (leN _ _)) <| rE 31 ?_
    refine cCond rfl (fun h2 => ?_) (fun h2 => ?_)
    · have h2p := of_decide_eq_true h2
      refine cSkip <| cSeq <| cBlock <| cSeq <| cReg rfl <| oR 2 rfl <| rCl rfl (.inl rfl) (dMode (j : Int) ⟨by omega, by omega⟩) <| rOk (x := vB (decide (x1 = modeW (j : Int)))) rfl rfl (okBo (eq_tL x1 (modeW (j : Int)))) <| rE 35 ?_
      refine cCond rfl (fun h3 => ?_) (fun h3 => ?_)
      · have h3p := of_decide_eq_true h3
        refine cSeq <| cReg rfl <| oR 5 rfl <| rSt rfl <| rE 41 <| cSeq <| cReg rfl <| oR 1 rfl <| rE 42 <| cRet ?_
        obtain rfl := one_len1 (by simpa using h1) hx1
        have hr := readO_some (j := j) (by omega) (by simpa using h3)
        exact finH (rs := [vB true]) rfl (r := vB true) (h' := heapF [(0, .box (planL ({ p with mode := (j : Int) }) (fl 9 1 p.lat) (fl 10 1 p.tape) (fl 11 1 p.prog)))]) (σ := fun z => z) (.inl ⟨{ p with mode := (j : Int) }, by show (readO x1).map _ = _; rw [hr]; rfl, rfl, rfl⟩) rfl (weak_ret (fun z => z) rfl rfl wH rfl)
      · have h3p := of_decide_eq_false h3
        refine cSkip <| cReg rfl <| oR 1 rfl ?_
        have b1 : j + 1 ≤ 4 := Nat.add_le_add hjB (Nat.le_refl 1)
        refine rOk (x := vN (j + 1)) rfl rfl (okI (wrapI64 b1 rfl)) <| oR 1 rfl <| rE 38 ?_
        refine .mk _ (.refl _) ⟨j + 1, fun s => s, Weak.of_lists (fun s => s) wT wH rfl, rfl, ⟨by omega, (fun i hi => by rcases Nat.lt_or_ge i j with q | q; exact hj.2 i q; obtain rfl : i = j := (by omega); simpa using h3)⟩, by show 3 - (j + 1) < 3 - j; omega⟩
    · have h2p := of_decide_eq_false h2
      refine cExit <| cSeq <| cReg rfl <| oR 2 rfl <| rE 33 <| cRet ?_
      obtain rfl := one_len1 (by simpa using h1) hx1
      have hr := readO_none (x := x1) (fun i hi => hj.2 i (by have := of_decide_eq_false h2; omega))
      exact finH (rs := [vB false]) rfl (r := vB false) (h' := heapF [(0, .box (planL p (fl 9 0 p.lat) (fl 10 0 p.tape) (fl 11 0 p.prog)))]) (σ := fun z => z) (.inr ⟨by show (readO x1).map _ = none; rw [hr]; rfl, rfl, _, _, _, _, rfl⟩) rfl (weak_ret (fun z => z) rfl rfl wH rfl)
theorem hRead_1 (hB : HexIx) (p : ScPlan) (t : List W) (ck : Bool) (ht : t.length ≤ 900000) (hw : ∀ x ∈ t, x.length ≤ 900000) : HSem C0.P C0.G 24 [.ptr 0 0, vI 1, .sl 1 (t.map rowS) ck] (heapF [(0, .box (planF p 1))]) 1 (ReadP p t 1) := by
  refine HCall.intro (C := C0) (s := 1) c0Ok.at Tryd.func24 rfl rfl (by kernel_rfl) rfl rfl <| cSeq <| cReg rfl <| oR 1 rfl <| rE 2 <| cSeq <| cReg rfl <| oR 1 rfl <| rE 3 <| cSeq <| cSeq <| cReg rfl <| oR 1 rfl <| rCl rfl (.inl rfl) (dName_1) <| rE 5 <| cBlock ?_
  refine cSeq <| cReg rfl <| rOk (x := vB false) rfl rfl (okBo ((eq_tL [119, 105, 100, 116, 104] [108, 97, 116]).trans (by decide))) <| oR 1 rfl <| rE 7 ?_
  refine cCond rfl (fun h => by cases h) (fun _ => ?_)
  refine cSeq <| cReg rfl <| rOk (x := vB false) rfl rfl (okBo ((eq_tL [119, 105, 100, 116, 104] [116, 97, 112, 101]).trans (by decide))) <| oR 1 rfl <| rE 9 ?_
  refine cCond rfl (fun h => by cases h) (fun _ => ?_)
  refine cSeq <| cReg rfl <| rOk (x := vB false) rfl rfl (okBo ((eq_tL [119, 105, 100, 116, 104] [112, 114, 111, 103]).trans (by decide))) <| oR 1 rfl <| rE 11 ?_
  refine cCond rfl (fun h => by cases h) (fun _ => ?_)
  refine cSkip <| cSeq <| cSeq <| cReg rfl <| oR 1 rfl <| rOk (x := vN t.length) rfl rfl (lenMap rowS t) <| rOk (x := vB (t.length != 1)) rfl rfl (okB (neN _ _)) <| rE 14 ?_
  refine cCond rfl (fun h1 => ?_) (fun h1 => ?_)
  · have h1p := bne_t h1
    refine cSeq <| cReg rfl <| oR 1 rfl <| rE 15 <| cRet ?_
    exact finH (rs := [vB false]) rfl (r := vB false) (h' := heapF [(0, .box (planL p (fl 9 1 p.lat) (fl 10 1 p.tape) (fl 11 1 p.prog)))]) (σ := fun z => z) (.inr ⟨by show (oneL readD t).map _ = none; rw [one_no (by simpa using h1)]; rfl, rfl, _, _, _, _, rfl⟩) rfl (weak_ret (fun z => z) rfl rfl wH rfl)
  · have h1p := bne_f h1
    refine cSkip <| cSeq <| cReg rfl <| oR 1 rfl ?_
    obtain ⟨x1, hx1⟩ : ∃ y_, t[0]? = some y_ := ⟨_, List.getElem?_eq_getElem omT⟩
    have hx1o := hw x1 (List.mem_of_getElem? hx1)
    refine rIdx (rowS x1) (x := .dp 1 0 (rowS x1)) rfl rfl rfl (⟨by decide, getM hx1⟩) rfl <| oR 2 rfl <| rE 18 <| cSeq <| cSeq <| cReg rfl <| oR 2 rfl <| rHCall (args := [.ptr 0 0, vN 1]) (d := 56) _ rfl rfl rfl (numAt_1 (by decide) rfl) ?_
    rintro _ _ ⟨rfl, rfl⟩
    refine oR 1 rfl <| rE 22 <| cSeq <| cReg rfl <| oR 1 rfl <| rOk (x := vB true) rfl rfl rfl <| rE 24 ?_
    refine cCond rfl (fun _ => ?_) (fun h => by cases h)
    refine cSeq <| cReg rfl <| oR 2 rfl <| rCl rfl (.inl rfl) (dDecimal2 x1 hx1o) <| oR 4 rfl <| rSt rfl <| oR 1 rfl <| rE 33 <| cSeq <| cReg rfl <| oR 2 rfl <| rE 35 <| cRet ?_
    obtain rfl := one_len1 (by simpa using h1) hx1
    rcases hr : readD x1 with _ | v
    · exact finH (rs := [vB false]) rfl (r := vB false) (h' := heapF [(0, .box (planL ({ p with width := 0 }) (fl 9 1 p.lat) (fl 10 1 p.tape) (fl 11 1 p.prog)))]) (σ := fun z => z) (.inr ⟨by show (readD x1).map _ = none; rw [hr]; rfl, rfl, _, _, _, _, rfl⟩) rfl (weak_ret (fun z => z) rfl rfl wH rfl)
    · exact finH (rs := [vB true]) rfl (r := vB true) (h' := heapF [(0, .box (planL ({ p with width := v }) (fl 9 2 p.lat) (fl 10 2 p.tape) (fl 11 2 p.prog)))]) (σ := fun z => z) (.inl ⟨{ p with width := v }, by show (readD x1).map _ = _; rw [hr]; rfl, rfl, rfl⟩) rfl (weak_ret (fun z => z) rfl rfl wH rfl)
theorem hRead_2 (hB : HexIx) (p : ScPlan) (t : List W) (ck : Bool) (ht : t.length ≤ 900000) (hw : ∀ x ∈ t, x.length ≤ 900000) : HSem C0.P C0.G 24 [.ptr 0 0, vI 2, .sl 1 (t.map rowS) ck] (heapF [(0, .box (planF p 2))]) 1 (ReadP p t 2) := by
  refine HCall.intro (C := C0) (s := 1) c0Ok.at Tryd.func24 rfl rfl (by kernel_rfl) rfl rfl <| cSeq <| cReg rfl <| oR 1 rfl <| rE 2 <| cSeq <| cReg rfl <| oR 1 rfl <| rE 3 <| cSeq <| cSeq <| cReg rfl <| oR 1 rfl <| rCl rfl (.inl rfl) (dName_2) <| rE 5 <| cBlock ?_
  refine cSeq <| cReg rfl <| rOk (x := vB false) rfl rfl (okBo ((eq_tL [114, 111, 98] [108, 97, 116]).trans (by decide))) <| oR 1 rfl <| rE 7 ?_
  refine cCond rfl (fun h => by cases h) (fun _ => ?_)
  refine cSeq <| cReg rfl <| rOk (x := vB false) rfl rfl (okBo ((eq_tL [114, 111, 98] [116, 97, 112, 101]).trans (by decide))) <| oR 1 rfl <| rE 9 ?_
  refine cCond rfl (fun h => by cases h) (fun _ => ?_)
  refine cSeq <| cReg rfl <| rOk (x := vB false) rfl rfl (okBo ((eq_tL [114, 111, 98] [112, 114, 111, 103]).trans (by decide))) <| oR 1 rfl <| rE 11 ?_
  refine cCond rfl (fun h => by cases h) (fun _ => ?_)
  refine cSkip <| cSeq <| cSeq <| cReg rfl <| oR 1 rfl <| rOk (x := vN t.length) rfl rfl (lenMap rowS t) <| rOk (x := vB (t.length != 1)) rfl rfl (okB (neN _ _)) <| rE 14 ?_
  refine cCond rfl (fun h1 => ?_) (fun h1 => ?_)
  · have h1p := bne_t h1
    refine cSeq <| cReg rfl <| oR 1 rfl <| rE 15 <| cRet ?_
    exact finH (rs := [vB false]) rfl (r := vB false) (h' := heapF [(0, .box (planL p (fl 9 2 p.lat) (fl 10 2 p.tape) (fl 11 2 p.prog)))]) (σ := fun z => z) (.inr ⟨by show (oneL readD t).map _ = none; rw [one_no (by simpa using h1)]; rfl, rfl, _, _, _, _, rfl⟩) rfl (weak_ret (fun z => z) rfl rfl wH rfl)
  · have h1p := bne_f h1
    refine cSkip <| cSeq <| cReg rfl <| oR 1 rfl ?_
    obtain ⟨x1, hx1⟩ : ∃ y_, t[0]? = some y_ := ⟨_, List.getElem?_eq_getElem omT⟩
    have hx1o := hw x1 (List.mem_of_getElem? hx1)
    refine rIdx (rowS x1) (x := .dp 1 0 (rowS x1)) rfl rfl rfl (⟨by decide, getM hx1⟩) rfl <| oR 2 rfl <| rE 18 <| cSeq <| cSeq <| cReg rfl <| oR 2 rfl <| rHCall (args := [.ptr 0 0, vN 2]) (d := 56) _ rfl rfl rfl (numAt_2 (by decide) rfl) ?_
    rintro _ _ ⟨rfl, rfl⟩
    refine oR 1 rfl <| rE 22 <| cSeq <| cReg rfl <| oR 1 rfl <| rOk (x := vB true) rfl rfl rfl <| rE 24 ?_
    refine cCond rfl (fun _ => ?_) (fun h => by cases h)
    refine cSeq <| cReg rfl <| oR 2 rfl <| rCl rfl (.inl rfl) (dDecimal2 x1 hx1o) <| oR 4 rfl <| rSt rfl <| oR 1 rfl <| rE 33 <| cSeq <| cReg rfl <| oR 2 rfl <| rE 35 <| cRet ?_
    obtain rfl := one_len1 (by simpa using h1) hx1
    rcases hr : readD x1 with _ | v
    · exact finH (rs := [vB false]) rfl (r := vB false) (h' := heapF [(0, .box (planL ({ p with rob := 0 }) (fl 9 2 p.lat) (fl 10 2 p.tape) (fl 11 2 p.prog)))]) (σ := fun z => z) (.inr ⟨by show (readD x1).map _ = none; rw [hr]; rfl, rfl, _, _, _, _, rfl⟩) rfl (weak_ret (fun z => z) rfl rfl wH rfl)
    · exact finH (rs := [vB true]) rfl (r := vB true) (h' := heapF [(0, .box (planL ({ p with rob := v }) (fl 9 3 p.lat) (fl 10 3 p.tape) (fl 11 3 p.prog)))]) (σ := fun z => z) (.inl ⟨{ p with rob := v }, by show (readD x1).map _ = _; rw [hr]; rfl, rfl, rfl⟩) rfl (weak_ret (fun z => z) rfl rfl wH rfl)
theorem hRead_3 (hB : HexIx) (p : ScPlan) (t : List W) (ck : Bool) (ht : t.length ≤ 900000) (hw : ∀ x ∈ t, x.length ≤ 900000) : HSem C0.P C0.G 24 [.ptr 0 0, vI 3, .sl 1 (t.map rowS) ck] (heapF [(0, .box (planF p 3))]) 1 (ReadP p t 3) := by
  refine HCall.intro (C := C0) (s := 1) c0Ok.at Tryd.func24 rfl rfl (by kernel_rfl) rfl rfl <| cSeq <| cReg rfl <| oR 1 rfl <| rE 2 <| cSeq <| cReg rfl <| oR 1 rfl <| rE 3 <| cSeq <| cSeq <| cReg rfl <| oR 1 rfl <| rCl rfl (.inl rfl) (dName_3) <| rE 5 <| cBlock ?_
  refine cSeq <| cReg rfl <| rOk (x := vB false) rfl rfl (okBo ((eq_tL [113, 117, 101, 117, 101] [108, 97, 116]).trans (by decide))) <| oR 1 rfl <| rE 7 ?_
  refine cCond rfl (fun h => by cases h) (fun _ => ?_)
  refine cSeq <| cReg rfl <| rOk (x := vB false) rfl rfl (okBo ((eq_tL [113, 117, 101, 117, 101] [116, 97, 112, 101]).trans (by decide))) <| oR 1 rfl <| rE 9 ?_
  refine cCond rfl (fun h => by cases h) (fun _ => ?_)
  refine cSeq <| cReg rfl <| rOk (x := vB false) rfl rfl (okBo ((eq_tL [113, 117, 101, 117, 101] [112, 114, 111, 103]).trans (by decide))) <| oR 1 rfl <| rE 11 ?_
  refine cCond rfl (fun h => by cases h) (fun _ => ?_)
  refine cSkip <| cSeq <| cSeq <| cReg rfl <| oR 1 rfl <| rOk (x := vN t.length) rfl rfl (lenMap rowS t) <| rOk (x := vB (t.length != 1)) rfl rfl (okB (neN _ _)) <| rE 14 ?_
  refine cCond rfl (fun h1 => ?_) (fun h1 => ?_)
  · have h1p := bne_t h1
    refine cSeq <| cReg rfl <| oR 1 rfl <| rE 15 <| cRet ?_
    exact finH (rs := [vB false]) rfl (r := vB false) (h' := heapF [(0, .box (planL p (fl 9 3 p.lat) (fl 10 3 p.tape) (fl 11 3 p.prog)))]) (σ := fun z => z) (.inr ⟨by show (oneL readD t).map _ = none; rw [one_no (by simpa using h1)]; rfl, rfl, _, _, _, _, rfl⟩) rfl (weak_ret (fun z => z) rfl rfl wH rfl)
  · have h1p := bne_f h1
    refine cSkip <| cSeq <| cReg rfl <| oR 1 rfl ?_
    obtain ⟨x1, hx1⟩ : ∃ y_, t[0]? = some y_ := ⟨_, List.getElem?_eq_getElem omT⟩
    have hx1o := hw x1 (List.mem_of_getElem? hx1)
    refine rIdx (rowS x1) (x := .dp 1 0 (rowS x1)) rfl rfl rfl (⟨by decide, getM hx1⟩) rfl <| oR 2 rfl <| rE 18 <| cSeq <| cSeq <| cReg rfl <| oR 2 rfl <| rHCall (args := [.ptr 0 0, vN 3]) (d := 56) _ rfl rfl rfl (numAt_3 (by decide) rfl) ?_
    rintro _ _ ⟨rfl, rfl⟩
    refine oR 1 rfl <| rE 22 <| cSeq <| cReg rfl <| oR 1 rfl <| rOk (x := vB true) rfl rfl rfl <| rE 24 ?_
    refine cCond rfl (fun _ => ?_) (fun h => by cases h)
    refine cSeq <| cReg rfl <| oR 2 rfl <| rCl rfl (.inl rfl) (dDecimal2 x1 hx1o) <| oR 4 rfl <| rSt rfl <| oR 1 rfl <| rE 33 <| cSeq <| cReg rfl <| oR 2 rfl <| rE 35 <| cRet ?_
    obtain rfl := one_len1 (by simpa using h1) hx1
    rcases hr : readD x1 with _ | v
    · exact finH (rs := [vB false]) rfl (r := vB false) (h' := heapF [(0, .box (planL ({ p with queue := 0 }) (fl 9 3 p.lat) (fl 10 3 p.tape) (fl 11 3 p.prog)))]) (σ := fun z => z) (.inr ⟨by show (readD x1).map _ = none; rw [hr]; rfl, rfl, _, _, _, _, rfl⟩) rfl (weak_ret (fun z => z) rfl rfl wH rfl)
    · exact finH (rs := [vB true]) rfl (r := vB true) (h' := heapF [(0, .box (planL ({ p with queue := v }) (fl 9 4 p.lat) (fl 10 4 p.tape) (fl 11 4 p.prog)))]) (σ := fun z => z) (.inl ⟨{ p with queue := v }, by show (readD x1).map _ = _; rw [hr]; rfl, rfl, rfl⟩) rfl (weak_ret (fun z => z) rfl rfl wH rfl)
theorem hRead_4 (hB : HexIx) (p : ScPlan) (t : List W) (ck : Bool) (ht : t.length ≤ 900000) (hw : ∀ x ∈ t, x.length ≤ 900000) : HSem C0.P C0.G 24 [.ptr 0 0, vI 4, .sl 1 (t.map rowS) ck] (heapF [(0, .box (planF p 4))]) 1 (ReadP p t 4) := by
  refine HCall.intro (C := C0) (s := 1) c0Ok.at Tryd.func24 rfl rfl (by kernel_rfl) rfl rfl <| cSeq <| cReg rfl <| oR 1 rfl <| rE 2 <| cSeq <| cReg rfl <| oR 1 rfl <| rE 3 <| cSeq <| cSeq <| cReg rfl <| oR 1 rfl <| rCl rfl (.inl rfl) (dName_4) <| rE 5 <| cBlock ?_
  refine cSeq <| cReg rfl <| rOk (x := vB false) rfl rfl (okBo ((eq_tL [115, 116, 111, 114, 101, 115] [108, 97, 116]).trans (by decide))) <| oR 1 rfl <| rE 7 ?_
  refine cCond rfl (fun h => by cases h) (fun _ => ?_)
  refine cSeq <| cReg rfl <| rOk (x := vB false) rfl rfl (okBo ((eq_tL [115, 116, 111, 114, 101, 115] [116, 97, 112, 101]).trans (by decide))) <| oR 1 rfl <| rE 9 ?_
  refine cCond rfl (fun h => by cases h) (fun _ => ?_)
  refine cSeq <| cReg rfl <| rOk (x := vB false) rfl rfl (okBo ((eq_tL [115, 116, 111, 114, 101, 115] [112, 114, 111, 103]).trans (by decide))) <| oR 1 rfl <| rE 11 ?_
  refine cCond rfl (fun h => by cases h) (fun _ => ?_)
  refine cSkip <| cSeq <| cSeq <| cReg rfl <| oR 1 rfl <| rOk (x := vN t.length) rfl rfl (lenMap rowS t) <| rOk (x := vB (t.length != 1)) rfl rfl (okB (neN _ _)) <| rE 14 ?_
  refine cCond rfl (fun h1 => ?_) (fun h1 => ?_)
  · have h1p := bne_t h1
    refine cSeq <| cReg rfl <| oR 1 rfl <| rE 15 <| cRet ?_
    exact finH (rs := [vB false]) rfl (r := vB false) (h' := heapF [(0, .box (planL p (fl 9 4 p.lat) (fl 10 4 p.tape) (fl 11 4 p.prog)))]) (σ := fun z => z) (.inr ⟨by show (oneL readD t).map _ = none; rw [one_no (by simpa using h1)]; rfl, rfl, _, _, _, _, rfl⟩) rfl (weak_ret (fun z => z) rfl rfl wH rfl)
  · have h1p := bne_f h1
    refine cSkip <| cSeq <| cReg rfl <| oR 1 rfl ?_
    obtain ⟨x1, hx1⟩ : ∃ y_, t[0]? = some y_ := ⟨_, List.getElem?_eq_getElem omT⟩
    have hx1o := hw x1 (List.mem_of_getElem? hx1)
    refine rIdx (rowS x1) (x := .dp 1 0 (rowS x1)) rfl rfl rfl (⟨by decide, getM hx1⟩) rfl <| oR 2 rfl <| rE 18 <| cSeq <| cSeq <| cReg rfl <| oR 2 rfl <| rHCall (args := [.ptr 0 0, vN 4]) (d := 56) _ rfl rfl rfl (numAt_4 (by decide) rfl) ?_
    rintro _ _ ⟨rfl, rfl⟩
    refine oR 1 rfl <| rE 22 <| cSeq <| cReg rfl <| oR 1 rfl <| rOk (x := vB true) rfl rfl rfl <| rE 24 ?_
    refine cCond rfl (fun _ => ?_) (fun h => by cases h)
    refine cSeq <| cReg rfl <| oR 2 rfl <| rCl rfl (.inl rfl) (dDecimal2 x1 hx1o) <| oR 4 rfl <| rSt rfl <| oR 1 rfl <| rE 33 <| cSeq <| cReg rfl <| oR 2 rfl <| rE 35 <| cRet ?_
    obtain rfl := one_len1 (by simpa using h1) hx1
    rcases hr : readD x1 with _ | v
    · exact finH (rs := [vB false]) rfl (r := vB false) (h' := heapF [(0, .box (planL ({ p with stores := 0 }) (fl 9 4 p.lat) (fl 10 4 p.tape) (fl 11 4 p.prog)))]) (σ := fun z => z) (.inr ⟨by show (readD x1).map _ = none; rw [hr]; rfl, rfl, _, _, _, _, rfl⟩) rfl (weak_ret (fun z => z) rfl rfl wH rfl)
    · exact finH (rs := [vB true]) rfl (r := vB true) (h' := heapF [(0, .box (planL ({ p with stores := v }) (fl 9 5 p.lat) (fl 10 5 p.tape) (fl 11 5 p.prog)))]) (σ := fun z => z) (.inl ⟨{ p with stores := v }, by show (readD x1).map _ = _; rw [hr]; rfl, rfl, rfl⟩) rfl (weak_ret (fun z => z) rfl rfl wH rfl)
theorem hRead_5 (hB : HexIx) (p : ScPlan) (t : List W) (ck : Bool) (ht : t.length ≤ 900000) (hw : ∀ x ∈ t, x.length ≤ 900000) : HSem C0.P C0.G 24 [.ptr 0 0, vI 5, .sl 1 (t.map rowS) ck] (heapF [(0, .box (planF p 5))]) 1 (ReadP p t 5) := by
  refine HCall.intro (C := C0) (s := 1) c0Ok.at Tryd.func24 rfl rfl (by kernel_rfl) rfl rfl <| cSeq <| cReg rfl <| oR 1 rfl <| rE 2 <| cSeq <| cReg rfl <| oR 1 rfl <| rE 3 <| cSeq <| cSeq <| cReg rfl <| oR 1 rfl <| rCl rfl (.inl rfl) (dName_5) <| rE 5 <| cBlock ?_
  refine cSeq <| cReg rfl <| rOk (x := vB false) rfl rfl (okBo ((eq_tL [115, 108, 111, 116, 115] [108, 97, 116]).trans (by decide))) <| oR 1 rfl <| rE 7 ?_
  refine cCond rfl (fun h => by cases h) (fun _ => ?_)
  refine cSeq <| cReg rfl <| rOk (x := vB false) rfl rfl (okBo ((eq_tL [115, 108, 111, 116, 115] [116, 97, 112, 101]).trans (by decide))) <| oR 1 rfl <| rE 9 ?_
  refine cCond rfl (fun h => by cases h) (fun _ => ?_)
  refine cSeq <| cReg rfl <| rOk (x := vB false) rfl rfl (okBo ((eq_tL [115, 108, 111, 116, 115] [112, 114, 111, 103]).trans (by decide))) <| oR 1 rfl <| rE 11 ?_
  refine cCond rfl (fun h => by cases h) (fun _ => ?_)
  refine cSkip <| cSeq <| cSeq <| cReg rfl <| oR 1 rfl <| rOk (x := vN t.length) rfl rfl (lenMap rowS t) <| rOk (x := vB (t.length != 1)) rfl rfl (okB (neN _ _)) <| rE 14 ?_
  refine cCond rfl (fun h1 => ?_) (fun h1 => ?_)
  · have h1p := bne_t h1
    refine cSeq <| cReg rfl <| oR 1 rfl <| rE 15 <| cRet ?_
    exact finH (rs := [vB false]) rfl (r := vB false) (h' := heapF [(0, .box (planL p (fl 9 5 p.lat) (fl 10 5 p.tape) (fl 11 5 p.prog)))]) (σ := fun z => z) (.inr ⟨by show (oneL readD t).map _ = none; rw [one_no (by simpa using h1)]; rfl, rfl, _, _, _, _, rfl⟩) rfl (weak_ret (fun z => z) rfl rfl wH rfl)
  · have h1p := bne_f h1
    refine cSkip <| cSeq <| cReg rfl <| oR 1 rfl ?_
    obtain ⟨x1, hx1⟩ : ∃ y_, t[0]? = some y_ := ⟨_, List.getElem?_eq_getElem omT⟩
    have hx1o := hw x1 (List.mem_of_getElem? hx1)
    refine rIdx (rowS x1) (x := .dp 1 0 (rowS x1)) rfl rfl rfl (⟨by decide, getM hx1⟩) rfl <| oR 2 rfl <| rE 18 <| cSeq <| cSeq <| cReg rfl <| oR 2 rfl <| rHCall (args := [.ptr 0 0, vN 5]) (d := 56) _ rfl rfl rfl (numAt_5 (by decide) rfl) ?_
    rintro _ _ ⟨rfl, rfl⟩
    refine oR 1 rfl <| rE 22 <| cSeq <| cReg rfl <| oR 1 rfl <| rOk (x := vB true) rfl rfl rfl <| rE 24 ?_
    refine cCond rfl (fun _ => ?_) (fun h => by cases h)
    refine cSeq <| cReg rfl <| oR 2 rfl <| rCl rfl (.inl rfl) (dDecimal2 x1 hx1o) <| oR 4 rfl <| rSt rfl <| oR 1 rfl <| rE 33 <| cSeq <| cReg rfl <| oR 2 rfl <| rE 35 <| cRet ?_
    obtain rfl := one_len1 (by simpa using h1) hx1
    rcases hr : readD x1 with _ | v
    · exact finH (rs := [vB false]) rfl (r := vB false) (h' := heapF [(0, .box (planL ({ p with slots := 0 }) (fl 9 5 p.lat) (fl 10 5 p.tape) (fl 11 5 p.prog)))]) (σ := fun z => z) (.inr ⟨by show (readD x1).map _ = none; rw [hr]; rfl, rfl, _, _, _, _, rfl⟩) rfl (weak_ret (fun z => z) rfl rfl wH rfl)
    · exact finH (rs := [vB true]) rfl (r := vB true) (h' := heapF [(0, .box (planL ({ p with slots := v }) (fl 9 6 p.lat) (fl 10 6 p.tape) (fl 11 6 p.prog)))]) (σ := fun z => z) (.inl ⟨{ p with slots := v }, by show (readD x1).map _ = _; rw [hr]; rfl, rfl, rfl⟩) rfl (weak_ret (fun z => z) rfl rfl wH rfl)
theorem hRead_6 (hB : HexIx) (p : ScPlan) (t : List W) (ck : Bool) (ht : t.length ≤ 900000) (hw : ∀ x ∈ t, x.length ≤ 900000) : HSem C0.P C0.G 24 [.ptr 0 0, vI 6, .sl 1 (t.map rowS) ck] (heapF [(0, .box (planF p 6))]) 1 (ReadP p t 6) := by
  refine HCall.intro (C := C0) (s := 1) c0Ok.at Tryd.func24 rfl rfl (by kernel_rfl) rfl rfl <| cSeq <| cReg rfl <| oR 1 rfl <| rE 2 <| cSeq <| cReg rfl <| oR 1 rfl <| rE 3 <| cSeq <| cSeq <| cReg rfl <| oR 1 rfl <| rCl rfl (.inl rfl) (dName_6) <| rE 5 <| cBlock ?_
  refine cSeq <| cReg rfl <| rOk (x := vB false) rfl rfl (okBo ((eq_tL [115, 101, 116, 115] [108, 97, 116]).trans (by decide))) <| oR 1 rfl <| rE 7 ?_
  refine cCond rfl (fun h => by cases h) (fun _ => ?_)
  refine cSeq <| cReg rfl <| rOk (x := vB false) rfl rfl (okBo ((eq_tL [115, 101, 116, 115] [116, 97, 112, 101]).trans (by decide))) <| oR 1 rfl <| rE 9 ?_
  refine cCond rfl (fun h => by cases h) (fun _ => ?_)
  refine cSeq <| cReg rfl <| rOk (x := vB false) rfl rfl (okBo ((eq_tL [115, 101, 116, 115] [112, 114, 111, 103]).trans (by decide))) <| oR 1 rfl <| rE 11 ?_
  refine cCond rfl (fun h => by cases h) (fun _ => ?_)
  refine cSkip <| cSeq <| cSeq <| cReg rfl <| oR 1 rfl <| rOk (x := vN t.length) rfl rfl (lenMap rowS t) <| rOk (x := vB (t.length != 1)) rfl rfl (okB (neN _ _)) <| rE 14 ?_
  refine cCond rfl (fun h1 => ?_) (fun h1 => ?_)
  · have h1p := bne_t h1
    refine cSeq <| cReg rfl <| oR 1 rfl <| rE 15 <| cRet ?_
    exact finH (rs := [vB false]) rfl (r := vB false) (h' := heapF [(0, .box (planL p (fl 9 6 p.lat) (fl 10 6 p.tape) (fl 11 6 p.prog)))]) (σ := fun z => z) (.inr ⟨by show (oneL readD t).map _ = none; rw [one_no (by simpa using h1)]; rfl, rfl, _, _, _, _, rfl⟩) rfl (weak_ret (fun z => z) rfl rfl wH rfl)
  · have h1p := bne_f h1
    refine cSkip <| cSeq <| cReg rfl <| oR 1 rfl ?_
    obtain ⟨x1, hx1⟩ : ∃ y_, t[0]? = some y_ := ⟨_, List.getElem?_eq_getElem omT⟩
    have hx1o := hw x1 (List.mem_of_getElem? hx1)
    refine rIdx (rowS x1) (x := .dp 1 0 (rowS x1)) rfl rfl rfl (⟨by decide, getM hx1⟩) rfl <| oR 2 rfl <| rE 18 <| cSeq <| cSeq <| cReg rfl <| oR 2 rfl <| rHCall (args := [.ptr 0 0, vN 6]) (d := 56) _ rfl rfl rfl (numAt_6 (by decide) rfl) ?_
    rintro _ _ ⟨rfl, rfl⟩
    refine oR 1 rfl <| rE 22 <| cSeq <| cReg rfl <| oR 1 rfl <| rOk (x := vB true) rfl rfl rfl <| rE 24 ?_
    refine cCond rfl (fun _ => ?_) (fun h => by cases h)
    refine cSeq <| cReg rfl <| oR 2 rfl <| rCl rfl (.inl rfl) (dDecimal2 x1 hx1o) <| oR 4 rfl <| rSt rfl <| oR 1 rfl <| rE 33 <| cSeq <| cReg rfl <| oR 2 rfl <| rE 35 <| cRet ?_
    obtain rfl := one_len1 (by simpa using h1) hx1
    rcases hr : readD x1 with _ | v
    · exact finH (rs := [vB false]) rfl (r := vB false) (h' := heapF [(0, .box (planL ({ p with sets := 0 }) (fl 9 6 p.lat) (fl 10 6 p.tape) (fl 11 6 p.prog)))]) (σ := fun z => z) (.inr ⟨by show (readD x1).map _ = none; rw [hr]; rfl, rfl, _, _, _, _, rfl⟩) rfl (weak_ret (fun z => z) rfl rfl wH rfl)
    · exact finH (rs := [vB true]) rfl (r := vB true) (h' := heapF [(0, .box (planL ({ p with sets := v }) (fl 9 7 p.lat) (fl 10 7 p.tape) (fl 11 7 p.prog)))]) (σ := fun z => z) (.inl ⟨{ p with sets := v }, by show (readD x1).map _ = _; rw [hr]; rfl, rfl, rfl⟩) rfl (weak_ret (fun z => z) rfl rfl wH rfl)
theorem hRead_7 (hB : HexIx) (p : ScPlan) (t : List W) (ck : Bool) (ht : t.length ≤ 900000) (hw : ∀ x ∈ t, x.length ≤ 900000) : HSem C0.P C0.G 24 [.ptr 0 0, vI 7, .sl 1 (t.map rowS) ck] (heapF [(0, .box (planF p 7))]) 1 (ReadP p t 7) := by
  refine HCall.intro (C := C0) (s := 1) c0Ok.at Tryd.func24 rfl rfl (by kernel_rfl) rfl rfl <| cSeq <| cReg rfl <| oR 1 rfl <| rE 2 <| cSeq <| cReg rfl <| oR 1 rfl <| rE 3 <| cSeq <| cSeq <| cReg rfl <| oR 1 rfl <| rCl rfl (.inl rfl) (dName_7) <| rE 5 <| cBlock ?_
  refine cSeq <| cReg rfl <| rOk (x := vB false) rfl rfl (okBo ((eq_tL [119, 97, 121, 115] [108, 97, 116]).trans (by decide))) <| oR 1 rfl <| rE 7 ?_
  refine cCond rfl (fun h => by cases h) (fun _ => ?_)
  refine cSeq <| cReg rfl <| rOk (x := vB false) rfl rfl (okBo ((eq_tL [119, 97, 121, 115] [116, 97, 112, 101]).trans (by decide))) <| oR 1 rfl <| rE 9 ?_
  refine cCond rfl (fun h => by cases h) (fun _ => ?_)
  refine cSeq <| cReg rfl <| rOk (x := vB false) rfl rfl (okBo ((eq_tL [119, 97, 121, 115] [112, 114, 111, 103]).trans (by decide))) <| oR 1 rfl <| rE 11 ?_
  refine cCond rfl (fun h => by cases h) (fun _ => ?_)
  refine cSkip <| cSeq <| cSeq <| cReg rfl <| oR 1 rfl <| rOk (x := vN t.length) rfl rfl (lenMap rowS t) <| rOk (x := vB (t.length != 1)) rfl rfl (okB (neN _ _)) <| rE 14 ?_
  refine cCond rfl (fun h1 => ?_) (fun h1 => ?_)
  · have h1p := bne_t h1
    refine cSeq <| cReg rfl <| oR 1 rfl <| rE 15 <| cRet ?_
    exact finH (rs := [vB false]) rfl (r := vB false) (h' := heapF [(0, .box (planL p (fl 9 7 p.lat) (fl 10 7 p.tape) (fl 11 7 p.prog)))]) (σ := fun z => z) (.inr ⟨by show (oneL readD t).map _ = none; rw [one_no (by simpa using h1)]; rfl, rfl, _, _, _, _, rfl⟩) rfl (weak_ret (fun z => z) rfl rfl wH rfl)
  · have h1p := bne_f h1
    refine cSkip <| cSeq <| cReg rfl <| oR 1 rfl ?_
    obtain ⟨x1, hx1⟩ : ∃ y_, t[0]? = some y_ := ⟨_, List.getElem?_eq_getElem omT⟩
    have hx1o := hw x1 (List.mem_of_getElem? hx1)
    refine rIdx (rowS x1) (x := .dp 1 0 (rowS x1)) rfl rfl rfl (⟨by decide, getM hx1⟩) rfl <| oR 2 rfl <| rE 18 <| cSeq <| cSeq <| cReg rfl <| oR 2 rfl <| rHCall (args := [.ptr 0 0, vN 7]) (d := 56) _ rfl rfl rfl (numAt_7 (by decide) rfl) ?_
    rintro _ _ ⟨rfl, rfl⟩
    refine oR 1 rfl <| rE 22 <| cSeq <| cReg rfl <| oR 1 rfl <| rOk (x := vB true) rfl rfl rfl <| rE 24 ?_
    refine cCond rfl (fun _ => ?_) (fun h => by cases h)
    refine cSeq <| cReg rfl <| oR 2 rfl <| rCl rfl (.inl rfl) (dDecimal2 x1 hx1o) <| oR 4 rfl <| rSt rfl <| oR 1 rfl <| rE 33 <| cSeq <| cReg rfl <| oR 2 rfl <| rE 35 <| cRet ?_
    obtain rfl := one_len1 (by simpa using h1) hx1
    rcases hr : readD x1 with _ | v
    · exact finH (rs := [vB false]) rfl (r := vB false) (h' := heapF [(0, .box (planL ({ p with ways := 0 }) (fl 9 7 p.lat) (fl 10 7 p.tape) (fl 11 7 p.prog)))]) (σ := fun z => z) (.inr ⟨by show (readD x1).map _ = none; rw [hr]; rfl, rfl, _, _, _, _, rfl⟩) rfl (weak_ret (fun z => z) rfl rfl wH rfl)
    · exact finH (rs := [vB true]) rfl (r := vB true) (h' := heapF [(0, .box (planL ({ p with ways := v }) (fl 9 8 p.lat) (fl 10 8 p.tape) (fl 11 8 p.prog)))]) (σ := fun z => z) (.inl ⟨{ p with ways := v }, by show (readD x1).map _ = _; rw [hr]; rfl, rfl, rfl⟩) rfl (weak_ret (fun z => z) rfl rfl wH rfl)
theorem hRead_8 (hB : HexIx) (p : ScPlan) (t : List W) (ck : Bool) (ht : t.length ≤ 900000) (hw : ∀ x ∈ t, x.length ≤ 900000) : HSem C0.P C0.G 24 [.ptr 0 0, vI 8, .sl 1 (t.map rowS) ck] (heapF [(0, .box (planF p 8))]) 1 (ReadP p t 8) := by
  refine HCall.intro (C := C0) (s := 1) c0Ok.at Tryd.func24 rfl rfl (by kernel_rfl) rfl rfl <| cSeq <| cReg rfl <| oR 1 rfl <| rE 2 <| cSeq <| cReg rfl <| oR 1 rfl <| rE 3 <| cSeq <| cSeq <| cReg rfl <| oR 1 rfl <| rCl rfl (.inl rfl) (dName_8) <| rE 5 <| cBlock ?_
  refine cSeq <| cReg rfl <| rOk (x := vB false) rfl rfl (okBo ((eq_tL [103, 117, 101, 115, 115] [108, 97, 116]).trans (by decide))) <| oR 1 rfl <| rE 7 ?_
  refine cCond rfl (fun h => by cases h) (fun _ => ?_)
  refine cSeq <| cReg rfl <| rOk (x := vB false) rfl rfl (okBo ((eq_tL [103, 117, 101, 115, 115] [116, 97, 112, 101]).trans (by decide))) <| oR 1 rfl <| rE 9 ?_
  refine cCond rfl (fun h => by cases h) (fun _ => ?_)
  refine cSeq <| cReg rfl <| rOk (x := vB false) rfl rfl (okBo ((eq_tL [103, 117, 101, 115, 115] [112, 114, 111, 103]).trans (by decide))) <| oR 1 rfl <| rE 11 ?_
  refine cCond rfl (fun h => by cases h) (fun _ => ?_)
  refine cSkip <| cSeq <| cSeq <| cReg rfl <| oR 1 rfl <| rOk (x := vN t.length) rfl rfl (lenMap rowS t) <| rOk (x := vB (t.length != 1)) rfl rfl (okB (neN _ _)) <| rE 14 ?_
  refine cCond rfl (fun h1 => ?_) (fun h1 => ?_)
  · have h1p := bne_t h1
    refine cSeq <| cReg rfl <| oR 1 rfl <| rE 15 <| cRet ?_
    exact finH (rs := [vB false]) rfl (r := vB false) (h' := heapF [(0, .box (planL p (fl 9 8 p.lat) (fl 10 8 p.tape) (fl 11 8 p.prog)))]) (σ := fun z => z) (.inr ⟨by show (oneL readT t).map _ = none; rw [one_no (by simpa using h1)]; rfl, rfl, _, _, _, _, rfl⟩) rfl (weak_ret (fun z => z) rfl rfl wH rfl)
  · have h1p := bne_f h1
    refine cSkip <| cSeq <| cReg rfl <| oR 1 rfl ?_
    obtain ⟨x1, hx1⟩ : ∃ y_, t[0]? = some y_ := ⟨_, List.getElem?_eq_getElem omT⟩
    have hx1o := hw x1 (List.mem_of_getElem? hx1)
    refine rIdx (rowS x1) (x := .dp 1 0 (rowS x1)) rfl rfl rfl (⟨by decide, getM hx1⟩) rfl <| oR 2 rfl <| rE 18 <| cSeq <| cSeq <| cReg rfl <| oR 2 rfl <| rHCall (args := [.ptr 0 0, vN 8]) (d := 56) _ rfl rfl rfl (numAt_8 (by decide) rfl) ?_
    rintro _ _ ⟨rfl, rfl⟩
    refine oR 1 rfl <| rE 22 <| cSeq <| cReg rfl <| oR 1 rfl <| rOk (x := vB false) rfl rfl rfl <| rE 24 ?_
    refine cCond rfl (fun h => by cases h) (fun _ => ?_)
    refine cSkip <| cSeq <| cSeq <| cReg rfl <| oR 1 rfl <| rCl rfl (.inl rfl) (dName_8) <| rE 26 <| cBlock <| cSeq <| cReg rfl <| rOk (x := vB false) rfl rfl (okBo ((eq_tL [103, 117, 101, 115, 115] [109, 111, 100, 101]).trans (by decide))) <| oR 1 rfl <| rE 28 ?_
    refine cCond rfl (fun h => by cases h) (fun _ => ?_)
    refine cSeq <| cReg rfl <| rOk (x := vB true) rfl rfl (okBo ((eq_tL [103, 117, 101, 115, 115] [103, 117, 101, 115, 115]).trans (by decide))) <| oR 1 rfl <| rE 30 ?_
    refine cCond rfl (fun _ => ?_) (fun h => by cases h)
    refine cSeq <| cReg rfl <| oR 2 rfl <| rOk (x := vB (decide (x1 = [116, 97, 98, 108, 101, 115]))) rfl rfl (okBo (eq_tL x1 ([116, 97, 98, 108, 101, 115]))) <| oR 3 rfl <| rSt rfl <| rE 37 <| cSeq <| cReg rfl <| oR 1 rfl <| rOk (x := vB (decide (x1 = [116, 97, 98, 108, 101, 115]))) rfl rfl (okBo (eq_tL x1 ([116, 97, 98, 108, 101, 115]))) <| oR 1 rfl <| gN rfl <| gBS (x := vB (decide (x1 = [116, 97, 112, 101]))) rfl id (okBo (eq_tL x1 ([116, 97, 112, 101]))) <| rNeed rfl rfl rfl (by simp) <| oR 1 rfl ?_
    refine rE 44 <| cRet ?_
    obtain rfl := one_len1 (by simpa using h1) hx1
    have hT := readT_ok x1
    refine finH (rs := [vB (cond2 (decide (x1 = tablesW)) true (decide (x1 = tapeW)))]) rfl (r := vB (readT x1).isSome) (h' := heapF [(0, .box (planL { p with tables := decide (x1 = tablesW) } (fl 9 8 p.lat) (fl 10 8 p.tape) (fl 11 8 p.prog)))]) (σ := fun z => z) ?_ rfl (weak_ret (fun z => z) (congrArg vB hT.1) rfl wH rfl)
    rcases hr : readT x1 with _ | v
    · exact .inr ⟨by show (readT x1).map _ = none; rw [hr]; rfl, rfl, _, _, _, _, rfl⟩
    · exact .inl ⟨{ p with tables := decide (x1 = tablesW) }, by show (readT x1).map _ = _; rw [hr, hT.2 v hr]; rfl, rfl, rfl⟩
theorem hRead_9 (hB : HexIx) (p : ScPlan) (t : List W) (ck : Bool) (ht : t.length ≤ 900000) (hw : ∀ x ∈ t, x.length ≤ 900000) : HSem C0.P C0.G 24 [.ptr 0 0, vI 9, .sl 1 (t.map rowS) ck] (heapF [(0, .box (planF p 9))]) 1 (ReadP p t 9) := by
  refine HCall.intro (C := C0) (s := 1) c0Ok.at Tryd.func24 rfl rfl (by kernel_rfl) rfl rfl <| cSeq <| cReg rfl <| oR 1 rfl <| rE 2 <| cSeq <| cReg rfl <| oR 1 rfl <| rE 3 <| cSeq <| cSeq <| cReg rfl <| oR 1 rfl <| rCl rfl (.inl rfl) (dName_9) <| rE 5 <| cBlock ?_
  refine cSeq <| cReg rfl <| rOk (x := vB true) rfl rfl (okBo ((eq_tL [108, 97, 116] [108, 97, 116]).trans (by decide))) <| oR 1 rfl <| rE 7 ?_
  refine cCond rfl (fun _ => ?_) (fun h => by cases h)
  refine cSeq <| cReg rfl <| oR 2 rfl <| rCl rfl (.inl rfl) (dPartsI2 t ck ht hw) <| oR 6 rfl <| rSt rfl <| oR 1 rfl <| rE 18 <| cSeq <| cReg rfl <| oR 2 rfl <| rE 20 <| cRet ?_
  rcases hr : partsL readD t with _ | v
  · exact finH (rs := [vB false]) rfl (r := vB false) (h' := heapF [(0, .box (planL ({ p with lat := [] }) true (fl 10 9 p.tape) (fl 11 9 p.prog)))]) (σ := fun z => z) (.inr ⟨by show (partsL readD t).map _ = none; rw [hr]; rfl, rfl, _, _, _, _, rfl⟩) rfl (weak_ret (fun z => z) rfl rfl wH rfl)
  · exact finH (rs := [vB true]) rfl (r := vB true) (h' := heapF [(0, .box (planL ({ p with lat := v }) (fl 9 10 ({ p with lat := v }).lat) (fl 10 10 ({ p with lat := v }).tape) (fl 11 10 ({ p with lat := v }).prog)))]) (σ := fun z => z) (.inl ⟨{ p with lat := v }, by show (partsL readD t).map _ = _; rw [hr]; rfl, rfl, rfl⟩) rfl (weak_ret (fun z => z) rfl rfl wH rfl)
theorem hRead_10 (hB : HexIx) (p : ScPlan) (t : List W) (ck : Bool) (ht : t.length ≤ 900000) (hw : ∀ x ∈ t, x.length ≤ 900000) : HSem C0.P C0.G 24 [.ptr 0 0, vI 10, .sl 1 (t.map rowS) ck] (heapF [(0, .box (planF p 10))]) 1 (ReadP p t 10) := by
  refine HCall.intro (C := C0) (s := 1) c0Ok.at Tryd.func24 rfl rfl (by kernel_rfl) rfl rfl <| cSeq <| cReg rfl <| oR 1 rfl <| rE 2 <| cSeq <| cReg rfl <| oR 1 rfl <| rE 3 <| cSeq <| cSeq <| cReg rfl <| oR 1 rfl <| rCl rfl (.inl rfl) (dName_10) <| rE 5 <| cBlock ?_
  refine cSeq <| cReg rfl <| rOk (x := vB false) rfl rfl (okBo ((eq_tL [116, 97, 112, 101] [108, 97, 116]).trans (by decide))) <| oR 1 rfl <| rE 7 ?_
  refine cCond rfl (fun h => by cases h) (fun _ => ?_)
  refine cSeq <| cReg rfl <| rOk (x := vB true) rfl rfl (okBo ((eq_tL [116, 97, 112, 101] [116, 97, 112, 101]).trans (by decide))) <| oR 1 rfl <| rE 9 ?_
  refine cCond rfl (fun _ => ?_) (fun h => by cases h)
  refine cSeq <| cReg rfl <| oR 2 rfl <| rCl rfl (.inl rfl) (dPartsU2 hB t ck ht hw) <| oR 6 rfl <| rSt rfl <| oR 1 rfl <| rE 20 <| cSeq <| cReg rfl <| oR 2 rfl <| rE 22 <| cRet ?_
  rcases hr : partsL readC t with _ | v
  · exact finH (rs := [vB false]) rfl (r := vB false) (h' := heapF [(0, .box (planL ({ p with tape := [] }) (fl 9 10 p.lat) true (fl 11 10 p.prog)))]) (σ := fun z => z) (.inr ⟨by show (partsL readC t).map _ = none; rw [hr]; rfl, rfl, _, _, _, _, rfl⟩) rfl (weak_ret (fun z => z) rfl rfl wH rfl)
  · exact finH (rs := [vB true]) rfl (r := vB true) (h' := heapF [(0, .box (planL ({ p with tape := v }) (fl 9 11 ({ p with tape := v }).lat) (fl 10 11 ({ p with tape := v }).tape) (fl 11 11 ({ p with tape := v }).prog)))]) (σ := fun z => z) (.inl ⟨{ p with tape := v }, by show (partsL readC t).map _ = _; rw [hr]; rfl, rfl, rfl⟩) rfl (weak_ret (fun z => z) rfl rfl wH rfl)
theorem hRead_11 (hB : HexIx) (p : ScPlan) (t : List W) (ck : Bool) (ht : t.length ≤ 900000) (hw : ∀ x ∈ t, x.length ≤ 900000) : HSem C0.P C0.G 24 [.ptr 0 0, vI 11, .sl 1 (t.map rowS) ck] (heapF [(0, .box (planF p 11))]) 1 (ReadP p t 11) := by
  refine HCall.intro (C := C0) (s := 1) c0Ok.at Tryd.func24 rfl rfl (by kernel_rfl) rfl rfl <| cSeq <| cReg rfl <| oR 1 rfl <| rE 2 <| cSeq <| cReg rfl <| oR 1 rfl <| rE 3 <| cSeq <| cSeq <| cReg rfl <| oR 1 rfl <| rCl rfl (.inl rfl) (dName_11) <| rE 5 <| cBlock ?_
  refine cSeq <| cReg rfl <| rOk (x := vB false) rfl rfl (okBo ((eq_tL [112, 114, 111, 103] [108, 97, 116]).trans (by decide))) <| oR 1 rfl <| rE 7 ?_
  refine cCond rfl (fun h => by cases h) (fun _ => ?_)
  refine cSeq <| cReg rfl <| rOk (x := vB false) rfl rfl (okBo ((eq_tL [112, 114, 111, 103] [116, 97, 112, 101]).trans (by decide))) <| oR 1 rfl <| rE 9 ?_
  refine cCond rfl (fun h => by cases h) (fun _ => ?_)
  refine cSeq <| cReg rfl <| rOk (x := vB true) rfl rfl (okBo ((eq_tL [112, 114, 111, 103] [112, 114, 111, 103]).trans (by decide))) <| oR 1 rfl <| rE 11 ?_
  refine cCond rfl (fun _ => ?_) (fun h => by cases h)
  refine cSeq <| cReg rfl <| oR 2 rfl <| rCl rfl (.inl rfl) (dPartsU2 hB t ck ht hw) <| oR 5 rfl <| rSt rfl <| oR 1 rfl <| rE 21 <| cSeq <| cReg rfl <| oR 2 rfl <| rE 23 <| cRet ?_
  rcases hr : partsL readC t with _ | v
  · exact finH (rs := [vB false]) rfl (r := vB false) (h' := heapF [(0, .box (planL ({ p with prog := [] }) (fl 9 11 p.lat) (fl 10 11 p.tape) true))]) (σ := fun z => z) (.inr ⟨by show (partsL readC t).map _ = none; rw [hr]; rfl, rfl, _, _, _, _, rfl⟩) rfl (weak_ret (fun z => z) rfl rfl wH rfl)
  · exact finH (rs := [vB true]) rfl (r := vB true) (h' := heapF [(0, .box (planL ({ p with prog := v }) (fl 9 12 ({ p with prog := v }).lat) (fl 10 12 ({ p with prog := v }).tape) (fl 11 12 ({ p with prog := v }).prog)))]) (σ := fun z => z) (.inl ⟨{ p with prog := v }, by show (partsL readC t).map _ = _; rw [hr]; rfl, rfl, rfl⟩) rfl (weak_ret (fun z => z) rfl rfl wH rfl)
theorem hRead_12 (hB : HexIx) (p : ScPlan) (t : List W) (ck : Bool) (ht : t.length ≤ 900000) (hw : ∀ x ∈ t, x.length ≤ 900000) : HSem C0.P C0.G 24 [.ptr 0 0, vI 12, .sl 1 (t.map rowS) ck] (heapF [(0, .box (planF p 12))]) 1 (ReadP p t 12) := by
  refine HCall.intro (C := C0) (s := 1) c0Ok.at Tryd.func24 rfl rfl (by kernel_rfl) rfl rfl <| cSeq <| cReg rfl <| oR 1 rfl <| rE 2 <| cSeq <| cReg rfl <| oR 1 rfl <| rE 3 <| cSeq <| cSeq <| cReg rfl <| oR 1 rfl <| rCl rfl (.inl rfl) (dName_12) <| rE 5 <| cBlock ?_
  refine cSeq <| cReg rfl <| rOk (x := vB false) rfl rfl (okBo ((eq_tL [109, 101, 109] [108, 97, 116]).trans (by decide))) <| oR 1 rfl <| rE 7 ?_
  refine cCond rfl (fun h => by cases h) (fun _ => ?_)
  refine cSeq <| cReg rfl <| rOk (x := vB false) rfl rfl (okBo ((eq_tL [109, 101, 109] [116, 97, 112, 101]).trans (by decide))) <| oR 1 rfl <| rE 9 ?_
  refine cCond rfl (fun h => by cases h) (fun _ => ?_)
  refine cSeq <| cReg rfl <| rOk (x := vB false) rfl rfl (okBo ((eq_tL [109, 101, 109] [112, 114, 111, 103]).trans (by decide))) <| oR 1 rfl <| rE 11 ?_
  refine cCond rfl (fun h => by cases h) (fun _ => ?_)
  refine cSkip <| cSeq <| cSeq <| cReg rfl <| oR 1 rfl <| rOk (x := vN t.length) rfl rfl (lenMap rowS t) <| rOk (x := vB (t.length != 1)) rfl rfl (okB (neN _ _)) <| rE 14 ?_
  refine cCond rfl (fun h1 => ?_) (fun h1 => ?_)
  · have h1p := bne_t h1
    refine cSeq <| cReg rfl <| oR 1 rfl <| rE 15 <| cRet ?_
    exact finH (rs := [vB false]) rfl (r := vB false) (h' := heapF [(0, .box (planL p (fl 9 12 p.lat) (fl 10 12 p.tape) (fl 11 12 p.prog)))]) (σ := fun z => z) (.inr ⟨by show (oneL pairL t).map _ = none; rw [one_no (by simpa using h1)]; rfl, rfl, _, _, _, _, rfl⟩) rfl (weak_ret (fun z => z) rfl rfl wH rfl)
  · have h1p := bne_f h1
    refine cSkip <| cSeq <| cReg rfl <| oR 1 rfl ?_
    obtain ⟨x1, hx1⟩ : ∃ y_, t[0]? = some y_ := ⟨_, List.getElem?_eq_getElem omT⟩
    have hx1o := hw x1 (List.mem_of_getElem? hx1)
    refine rIdx (rowS x1) (x := .dp 1 0 (rowS x1)) rfl rfl rfl (⟨by decide, getM hx1⟩) rfl <| oR 2 rfl <| rE 18 <| cSeq <| cSeq <| cReg rfl <| oR 2 rfl <| rHCall (args := [.ptr 0 0, vN 12]) (d := 56) _ rfl rfl rfl (numAt_12 (by decide) rfl) ?_
    rintro _ _ ⟨rfl, rfl⟩
    refine oR 1 rfl <| rE 22 <| cSeq <| cReg rfl <| oR 1 rfl <| rOk (x := vB false) rfl rfl rfl <| rE 24 ?_
    refine cCond rfl (fun h => by cases h) (fun _ => ?_)
    refine cSkip <| cSeq <| cSeq <| cReg rfl <| oR 1 rfl <| rCl rfl (.inl rfl) (dName_12) <| rE 26 <| cBlock <| cSeq <| cReg rfl <| rOk (x := vB false) rfl rfl (okBo ((eq_tL [109, 101, 109] [109, 111, 100, 101]).trans (by decide))) <| oR 1 rfl <| rE 28 ?_
    refine cCond rfl (fun h => by cases h) (fun _ => ?_)
    refine cSeq <| cReg rfl <| rOk (x := vB false) rfl rfl (okBo ((eq_tL [109, 101, 109] [103, 117, 101, 115, 115]).trans (by decide))) <| oR 1 rfl <| rE 30 ?_
    refine cCond rfl (fun h => by cases h) (fun _ => ?_)
    refine cSeq <| cReg rfl <| rOk (x := vB true) rfl rfl (okBo ((eq_tL [109, 101, 109] [109, 101, 109]).trans (by decide))) <| oR 1 rfl <| rE 32 ?_
    refine cCond rfl (fun _ => ?_) (fun h => by cases h)
    refine cReg rfl <| oR 2 rfl <| rCl rfl (.inl rfl) (dBytes2 hB x1 hx1o) <| oR 5 rfl <| rSt rfl <| oR 1 rfl <| rE 42 <| cSeq <| cReg rfl <| oR 2 rfl <| rE 44 <| cRet ?_
    obtain rfl := one_len1 (by simpa using h1) hx1
    rcases hr : pairL x1 with _ | v
    · exact finH (rs := [vB false]) rfl (r := vB false) (h' := heapF [(0, .box (planL ({ p with mem := [] }) (fl 9 12 p.lat) (fl 10 12 p.tape) (fl 11 12 p.prog)))]) (σ := fun z => z) (.inr ⟨by show (pairL x1).map _ = none; rw [hr]; rfl, rfl, _, _, _, _, rfl⟩) rfl (weak_ret (fun z => z) rfl rfl wH rfl)
    · exact finH (rs := [vB true]) rfl (r := vB true) (h' := heapF [(0, .box (planL ({ p with mem := v }) (fl 9 13 p.lat) (fl 10 13 p.tape) (fl 11 13 p.prog)))]) (σ := fun z => z) (.inl ⟨{ p with mem := v }, by show (pairL x1).map _ = _; rw [hr]; rfl, rfl, rfl⟩) rfl (weak_ret (fun z => z) rfl rfl wH rfl)
theorem hRead_13 (hB : HexIx) (p : ScPlan) (t : List W) (ck : Bool) (ht : t.length ≤ 900000) (hw : ∀ x ∈ t, x.length ≤ 900000) : HSem C0.P C0.G 24 [.ptr 0 0, vI 13, .sl 1 (t.map rowS) ck] (heapF [(0, .box (planF p 13))]) 1 (ReadP p t 13) := by
  refine HCall.intro (C := C0) (s := 1) c0Ok.at Tryd.func24 rfl rfl (by kernel_rfl) rfl rfl <| cSeq <| cReg rfl <| oR 1 rfl <| rE 2 <| cSeq <| cReg rfl <| oR 1 rfl <| rE 3 <| cSeq <| cSeq <| cReg rfl <| oR 1 rfl <| rCl rfl (.inl rfl) (dName_13) <| rE 5 <| cBlock ?_
  refine cSeq <| cReg rfl <| rOk (x := vB false) rfl rfl (okBo ((eq_tL [99, 121, 99, 108, 101, 115] [108, 97, 116]).trans (by decide))) <| oR 1 rfl <| rE 7 ?_
  refine cCond rfl (fun h => by cases h) (fun _ => ?_)
  refine cSeq <| cReg rfl <| rOk (x := vB false) rfl rfl (okBo ((eq_tL [99, 121, 99, 108, 101, 115] [116, 97, 112, 101]).trans (by decide))) <| oR 1 rfl <| rE 9 ?_
  refine cCond rfl (fun h => by cases h) (fun _ => ?_)
  refine cSeq <| cReg rfl <| rOk (x := vB false) rfl rfl (okBo ((eq_tL [99, 121, 99, 108, 101, 115] [112, 114, 111, 103]).trans (by decide))) <| oR 1 rfl <| rE 11 ?_
  refine cCond rfl (fun h => by cases h) (fun _ => ?_)
  refine cSkip <| cSeq <| cSeq <| cReg rfl <| oR 1 rfl <| rOk (x := vN t.length) rfl rfl (lenMap rowS t) <| rOk (x := vB (t.length != 1)) rfl rfl (okB (neN _ _)) <| rE 14 ?_
  refine cCond rfl (fun h1 => ?_) (fun h1 => ?_)
  · have h1p := bne_t h1
    refine cSeq <| cReg rfl <| oR 1 rfl <| rE 15 <| cRet ?_
    exact finH (rs := [vB false]) rfl (r := vB false) (h' := heapF [(0, .box (planL p (fl 9 13 p.lat) (fl 10 13 p.tape) (fl 11 13 p.prog)))]) (σ := fun z => z) (.inr ⟨by show (oneL readD t).map _ = none; rw [one_no (by simpa using h1)]; rfl, rfl, _, _, _, _, rfl⟩) rfl (weak_ret (fun z => z) rfl rfl wH rfl)
  · have h1p := bne_f h1
    refine cSkip <| cSeq <| cReg rfl <| oR 1 rfl ?_
    obtain ⟨x1, hx1⟩ : ∃ y_, t[0]? = some y_ := ⟨_, List.getElem?_eq_getElem omT⟩
    have hx1o := hw x1 (List.mem_of_getElem? hx1)
    refine rIdx (rowS x1) (x := .dp 1 0 (rowS x1)) rfl rfl rfl (⟨by decide, getM hx1⟩) rfl <| oR 2 rfl <| rE 18 <| cSeq <| cSeq <| cReg rfl <| oR 2 rfl <| rHCall (args := [.ptr 0 0, vN 13]) (d := 56) _ rfl rfl rfl (numAt_13 (by decide) rfl) ?_
    rintro _ _ ⟨rfl, rfl⟩
    refine oR 1 rfl <| rE 22 <| cSeq <| cReg rfl <| oR 1 rfl <| rOk (x := vB true) rfl rfl rfl <| rE 24 ?_
    refine cCond rfl (fun _ => ?_) (fun h => by cases h)
    refine cSeq <| cReg rfl <| oR 2 rfl <| rCl rfl (.inl rfl) (dDecimal2 x1 hx1o) <| oR 4 rfl <| rSt rfl <| oR 1 rfl <| rE 33 <| cSeq <| cReg rfl <| oR 2 rfl <| rE 35 <| cRet ?_
    obtain rfl := one_len1 (by simpa using h1) hx1
    rcases hr : readD x1 with _ | v
    · exact finH (rs := [vB false]) rfl (r := vB false) (h' := heapF [(0, .box (planL ({ p with cycles := 0 }) (fl 9 13 p.lat) (fl 10 13 p.tape) (fl 11 13 p.prog)))]) (σ := fun z => z) (.inr ⟨by show (readD x1).map _ = none; rw [hr]; rfl, rfl, _, _, _, _, rfl⟩) rfl (weak_ret (fun z => z) rfl rfl wH rfl)
    · exact finH (rs := [vB true]) rfl (r := vB true) (h' := heapF [(0, .box (planL ({ p with cycles := v }) (fl 9 14 p.lat) (fl 10 14 p.tape) (fl 11 14 p.prog)))]) (σ := fun z => z) (.inl ⟨{ p with cycles := v }, by show (readD x1).map _ = _; rw [hr]; rfl, rfl, rfl⟩) rfl (weak_ret (fun z => z) rfl rfl wH rfl)
end Go.Proofs.YtpefnjbmbfdmmaaDoor
