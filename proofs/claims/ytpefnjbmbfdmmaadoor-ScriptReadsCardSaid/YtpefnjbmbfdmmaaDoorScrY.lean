/- Package script: lists of words; which plans may be: walks on the second machine. -/
import Derived.Test.YtpefnjbmbfdmmaaDoorAbsT
import Derived.Test.YtpefnjbmbfdmmaaDoorScrX
namespace Go.Proofs.YtpefnjbmbfdmmaaDoor
set_option maxRecDepth 100000
set_option maxHeartbeats 4000000
open Go.RowKit Go.Lib

theorem dDecimal2 (w : W) (hw : w.length ≤ 900000) : DCall C0 42 [vS w] (.tup [vI ((readD w).getD 0), vB (readD w).isSome]) := by
  have h := dDecimal w hw
  unfold decA at h
  cases hr : readD w with
  | none => rw [hr] at h; exact h
  | some n => rw [hr] at h; exact h
theorem dCode2 (hB : HexIx) (w : W) (hw : w.length ≤ 900000) : DCall C0 44 [vS w] (.tup [vU ((readC w).getD 0), vB (readC w).isSome]) := by
  have h := dCode hB w hw
  unfold codA at h
  cases hr : readC w with
  | none => rw [hr] at h; exact h
  | some n => rw [hr] at h; exact h
theorem dBytes2 (hB : HexIx) (w : W) (hw : w.length ≤ 900000) : DCall C0 47 [vS w] (.tup [vS ((pairL w).getD []), vB (pairL w).isSome]) := by
  have h := dBytes hB w hw
  unfold bytA at h
  cases hr : pairL w with
  | none => rw [hr] at h; exact h
  | some n => rw [hr] at h; exact h
theorem readC_le (w : W) : (readC w).getD 0 ≤ 4294967295 := by
  unfold readC
  split
  · rename_i h
    show codV w ≤ _
    have := codK_le (w := w) (k := 8) (by rw [List.take_of_length_le (by omega)]; exact h.2) (Nat.le_refl _)
    rwa [List.take_of_length_le (by omega)] at this
  · decide
theorem prt_next {α : Type} {g : W → α} {t : List W} {k : Nat} {x : W} (h : t[k]? = some x) : (t.take k).map g ++ [g x] = (t.take (k + 1)).map g := by rw [List.take_add_one, h, List.map_append]; rfl
theorem prt_P {p : W → Bool} {t : List W} {k : Nat} {x : W} (h : t[k]? = some x) (hP : ∀ w ∈ t.take k, p w = true) (hx : p x = true) : ∀ w ∈ t.take (k + 1), p w = true := fun w hw => by
  rw [List.take_add_one, h] at hw
  rcases List.mem_append.1 hw with hw | hw
  · exact hP w hw
  · rw [List.mem_singleton.1 hw]; exact hx
theorem parts_yes {α : Type} {rd : W → Option α} {z : α} : ∀ {t : List W}, (∀ w ∈ t, (rd w).isSome = true) → partsL rd t = some (t.map fun w => (rd w).getD z)
  | [], _ => rfl
  | w :: t, h => by
    have h1 := h w List.mem_cons_self
    unfold partsL
    cases hr : rd w with
    | none => rw [hr] at h1; cases h1
    | some a =>
      show (partsL rd t).map (a :: ·) = _
      rw [parts_yes (z := z) (fun v hv => h v (List.mem_cons_of_mem _ hv)), List.map_cons, hr]; rfl
theorem parts_no {α : Type} {rd : W → Option α} {x : W} : ∀ {t : List W}, x ∈ t → rd x = none → partsL rd t = none
  | [], h, _ => absurd h List.not_mem_nil
  | w :: t, h, hx => by
    unfold partsL
    cases hr : rd w with
    | none => rfl
    | some a =>
      rcases List.mem_cons.1 h with e | e
      · rw [← e, hx] at hr; cases hr
      · show (partsL rd t).map (a :: ·) = _
        rw [parts_no e hx]; rfl
def prtA {α : Type} (row : α → List AV) : Option (List α) → AV
  | some l => .tup [.sl 1 (l.map row) false, vB true]
  | none => .tup [.sl 0 [] true, vB false]
def prtB {α : Type} (row : α → List AV) : Option (List α) → AV
  | some l => .tup [.sl 1 (l.map row) l.isEmpty, vB true]
  | none => .tup [.sl 1 [] true, vB false]

theorem dPartsIE (t : List W) (ck : Bool) (ht : t.length ≤ 900000) (hT : t.length = 0) : DCall C0 41 [.sl 1 (t.map rowS) ck, .clo 42 [] []] (.tup [.sl 0 [] true, vB true]) := by
  refine DCall.intro c0Ok Tryd.func41 rfl rfl (by kernel_rfl) rfl <| cSeq <| cReg rfl <| oR 2 rfl <| rE 2 <| cSeq <| cReg rfl <| oR 1 rfl <| rE 3 <| cSeq <| cSeq <| cReg rfl <| oR 1 rfl <| rOk (x := vN t.length) rfl rfl (lenMap rowS t) <| oR 1 rfl <| rE 6 ?_
  refine cBlock <| cLoop (κ := Nat) (fun k => ⟨slotsF [(1, .clo 42 [] []), (11, .sl 1 (t.map rowS) ck), (12, vN t.length), (6, .sl 0 ([]) true), (13, vN k)], heapF [], 6⟩) (fun k => k ≤ t.length) (fun k => t.length - k) 0 (fun s => s) (Weak.of_lists (fun s => s) wT trivial rfl) (Nat.zero_le _) ?_
  intro k hk
  have hkn : k ≤ t.length := hk
  have hkB : k ≤ 900000 := by omega
  refine cSeq <| cReg rfl <| rOk (x := vB (decide (k < t.length))) rfl rfl (okB (ltN _ _)) <| rE 7 <| cSeq ?_
  refine cCond rfl (fun h1 => by exact absurd (of_decide_eq_true h1) (by omega)) (fun _ => ?_)
  refine cExit <| cSeq <| cReg rfl <| oR 3 rfl <| rE 10 <| cRet ?_
  exact finTA rfl trivial rfl rfl
theorem dPartsIO (t : List W) (ck : Bool) (ht : t.length ≤ 900000) (hw : ∀ x ∈ t, x.length ≤ 900000) (hT : ¬ t.length = 0) : DCall C0 41 [.sl 1 (t.map rowS) ck, .clo 42 [] []] (prtA rowI (partsL readD t)) := by
  refine DCall.intro c0Ok Tryd.func41 rfl rfl (by kernel_rfl) rfl <| cSeq <| cReg rfl <| oR 2 rfl <| rE 2 <| cSeq <| cReg rfl <| oR 1 rfl <| rE 3 <| cSeq <| cSeq <| cReg rfl <| oR 1 rfl <| rOk (x := vN t.length) rfl rfl (lenMap rowS t) <| oR 1 rfl <| rE 6 ?_
  refine cBlock <| cLoop (κ := Nat × Bool) (fun z_ => match z_ with | (k, false) => ⟨slotsF [(1, .clo 42 [] []), (11, .sl 1 (t.map rowS) ck), (12, vN t.length), (13, vN k), (6, .sl 0 ([]) true)], heapF [], 7⟩ | (k, true) => ⟨slotsF [(1, .clo 42 [] []), (11, .sl 1 (t.map rowS) ck), (12, vN t.length), (13, vN k), (6, .osl 6 0 (((t.take k).map (fun w => (readD w).getD 0)).length) false)], heapF [(6, .arr (((t.take k).map (fun w => (readD w).getD 0)).map rowI) 1)], 7⟩) (fun z_ => match z_ with | (k, false) => (k ≤ t.length ∧ (t.take k).map (fun w => (readD w).getD 0) = [] ∧ ∀ w ∈ t.take k, (readD w).isSome = true) | (k, true) => (k ≤ t.length ∧ ∀ w ∈ t.take k, (readD w).isSome = true)) (fun z_ => t.length - z_.1) (0, false) (fun s => s) (Weak.of_lists (fun s => s) wT trivial rfl) (⟨Nat.zero_le _, (show (t.take 0).map (fun w => (readD w).getD 0) = [] from rfl), (fun x h => absurd h List.not_mem_nil)⟩) ?_
  intro z_ hk
  obtain ⟨k, b_⟩ := z_; cases b_
  · have hk_ := hk
    have hnn : k ≤ t.length := hk_.1
    have hkB : k ≤ 1000000 := by omega
    have hNk : (t.take k).map (fun w => (readD w).getD 0) = [] := hk_.2.1
    have hPk : ∀ w ∈ t.take k, (readD w).isSome = true := hk_.2.2
    refine cSeq <| cReg rfl <| rOk (x := vB (decide (k < t.length))) rfl rfl (okB (ltN _ _)) <| rE 8 <| cSeq ?_
    refine cCond rfl (fun h1 => ?_) (fun h1 => ?_)
    · have h1p := of_decide_eq_true h1
      refine cSkip <| cSeq <| cBlock <| cSeq <| cReg rfl ?_
      obtain ⟨x, hx⟩ : ∃ y_, t[k]? = some y_ := ⟨_, List.getElem?_eq_getElem omT⟩
      have hxo := hw x (List.mem_of_getElem? hx)
      refine rIdx (rowS x) (x := .dp 1 0 (rowS x)) rfl rfl rfl (⟨Int.natCast_nonneg _, getM hx⟩) rfl <| oR 2 rfl <| rE 11 <| cSeq <| cReg rfl <| oR 2 rfl <| rCl rfl (.inl rfl) (dDecimal2 x hxo) <| oR 5 rfl <| rE 19 <| cSeq <| cSeq <| cReg rfl <| oR 2 rfl <| rE 21 ?_
      refine cCond rfl (fun h2 => ?_) (fun h2 => ?_)
      · refine cSeq <| cReg rfl <| oR 2 rfl <| rE 23 <| cRet <| finTA rfl (by repeat' (first | exact trivial | constructor)) rfl ?_
        rw [parts_no (x := x) (List.mem_of_getElem? hx) (by simpa using h2)]; rfl
      · refine cSkip <| cReg rfl <| oR 2 rfl <| rOk (x := .sl 1 ([[vI ((readD x).getD 0)]]) true) rfl rfl rfl <| rFx (x := .osl 24 0 1 false) (h' := upd _ 24 (some (.arr (([((readD x).getD 0 : Int)]).map rowI) 1))) rfl rfl (app_nil omT) (⟨rfl, by exact omT, by exact omT, trivial⟩) <| oR 1 rfl <| rE 26 <| cReg rfl ?_
        have b1 : k + 1 ≤ 1000001 := Nat.add_le_add hkB (Nat.le_refl 1)
        refine rOk (x := vN (k + 1)) rfl rfl (okI (wrapI64 b1 rfl)) <| oR 1 rfl <| rE 28 ?_
        refine ⟨(k + 1, true), fun i => match i with | 6 => 24 | i => i, Weak.of_lists (fun i => match i with | 6 => 24 | i => i) ⟨⟨rfl, rfl⟩, ⟨rfl, rfl⟩, ⟨rfl, rfl⟩, ⟨rfl, rfl⟩, ⟨(show AV.osl 24 0 (1) false = AV.osl 24 0 ((t.take (k + 1)).map (fun w => (readD w).getD 0)).length false from by rw [← (show [((readD x).getD 0 : Int)] = (t.take (k + 1)).map (fun w => (readD w).getD 0) from (by rw [← (prt_next hx), hNk]; rfl))]; first | done | rfl | (congr 1 <;> (first | exact omT | simp))), rfl⟩, trivial⟩ ⟨⟨rfl, (congrArg (fun z : List Int => some (Blk.arr (z.map rowI) 1)) (show [((readD x).getD 0 : Int)] = (t.take (k + 1)).map (fun w => (readD w).getD 0) from (by rw [← (prt_next hx), hNk]; rfl))), rfl⟩, trivial⟩ rfl, ⟨by omega, prt_P hx hPk (by simpa using h2)⟩, by show t.length - (k + 1) < t.length - k; omega⟩
    · have h1p := of_decide_eq_false h1
      refine cExit <| cSeq <| cReg rfl <| oR 3 rfl <| rE 11 <| cRet ?_
      exact absurd (by have q := congrArg List.length hNk; rw [List.length_map, List.length_take] at q; have q2 : min k t.length = 0 := q; omega : t.length = 0) hT
  · have hk_ := hk
    have hnn : k ≤ t.length := hk_.1
    have hkB : k ≤ 1000000 := by omega
    have hPk : ∀ w ∈ t.take k, (readD w).isSome = true := hk_.2
    have habk : ((t.take k).map (fun w => (readD w).getD 0)).length ≤ 900000 := (by rw [List.length_map, List.length_take]; omega)
    refine cSeq <| cReg rfl <| rOk (x := vB (decide (k < t.length))) rfl rfl (okB (ltN _ _)) <| rE 8 <| cSeq ?_
    refine cCond rfl (fun h3 => ?_) (fun h3 => ?_)
    · have h3p := of_decide_eq_true h3
      refine cSkip <| cSeq <| cBlock <| cSeq <| cReg rfl ?_
      obtain ⟨x, hx⟩ : ∃ y_, t[k]? = some y_ := ⟨_, List.getElem?_eq_getElem omT⟩
      have hxo := hw x (List.mem_of_getElem? hx)
      refine rIdx (rowS x) (x := .dp 1 0 (rowS x)) rfl rfl rfl (⟨Int.natCast_nonneg _, getM hx⟩) rfl <| oR 2 rfl <| rE 11 <| cSeq <| cReg rfl <| oR 2 rfl <| rCl rfl (.inl rfl) (dDecimal2 x hxo) <| oR 5 rfl <| rE 19 <| cSeq <| cSeq <| cReg rfl <| oR 2 rfl <| rE 21 ?_
      refine cCond rfl (fun h4 => ?_) (fun h4 => ?_)
      · refine cSeq <| cReg rfl <| oR 2 rfl <| rE 23 <| cRet <| finTA rfl (by repeat' (first | exact trivial | constructor)) rfl ?_
        rw [parts_no (x := x) (List.mem_of_getElem? hx) (by simpa using h4)]; rfl
      · refine cSkip <| cReg rfl <| oR 2 rfl <| rOk (x := .sl 1 ([[vI ((readD x).getD 0)]]) true) rfl rfl rfl <| rFx (x := .osl 24 0 (((t.take k).map (fun w => (readD w).getD 0)).length + 1) false) (h' := upd (upd _ 6 none) 24 (some (.arr ((((t.take k).map (fun w => (readD w).getD 0)) ++ ([((readD x).getD 0 : Int)])).map rowI) 1))) rfl rfl (app_own rowI ((t.take k).map (fun w => (readD w).getD 0)) ([((readD x).getD 0 : Int)]) omT omT) (⟨by exact omT, by exact omT, trivial⟩) <| oR 1 rfl <| rE 26 <| cReg rfl ?_
        have b2 : k + 1 ≤ 1000001 := Nat.add_le_add hkB (Nat.le_refl 1)
        refine rOk (x := vN (k + 1)) rfl rfl (okI (wrapI64 b2 rfl)) <| oR 1 rfl <| rE 28 ?_
        refine ⟨(k + 1, true), fun i => match i with | 6 => 24 | i => i, Weak.of_lists (fun i => match i with | 6 => 24 | i => i) ⟨⟨rfl, rfl⟩, ⟨rfl, rfl⟩, ⟨rfl, rfl⟩, ⟨rfl, rfl⟩, ⟨(show AV.osl 24 0 (((t.take k).map (fun w => (readD w).getD 0)).length + 1) false = AV.osl 24 0 ((t.take (k + 1)).map (fun w => (readD w).getD 0)).length false from by rw [← (show ((t.take k).map (fun w => (readD w).getD 0)) ++ ([((readD x).getD 0 : Int)]) = (t.take (k + 1)).map (fun w => (readD w).getD 0) from prt_next hx)]; first | done | rfl | (congr 1 <;> (first | exact omT | simp))), rfl⟩, trivial⟩ ⟨⟨rfl, (congrArg (fun z : List Int => some (Blk.arr (z.map rowI) 1)) (show ((t.take k).map (fun w => (readD w).getD 0)) ++ ([((readD x).getD 0 : Int)]) = (t.take (k + 1)).map (fun w => (readD w).getD 0) from prt_next hx)), rfl⟩, trivial⟩ rfl, ⟨by omega, prt_P hx hPk (by simpa using h4)⟩, by show t.length - (k + 1) < t.length - k; omega⟩
    · have h3p := of_decide_eq_false h3
      refine cExit <| cSeq <| cReg rfl <| oR 3 rfl <| rE 11 <| cRet ?_
      have hT2 : t.take k = t := List.take_of_length_le (by omega)
      have hY := hPk
      rw [hT2] at hY
      refine finTA rfl ⟨(by show 0 + (((t.take k).map (fun w => (readD w).getD 0)).length) ≤ (((t.take k).map (fun w => (readD w).getD 0)).map rowI).length; exact omT), trivial, trivial⟩ rfl ?_
      show AV.tup [.sl 1 (List.take (((t.take k).map (fun w => (readD w).getD 0)).length) (List.drop 0 (((t.take k).map (fun w => (readD w).getD 0)).map rowI))) false, vB true] = _
      rw [List.drop_zero, List.take_of_length_le (by simp), hT2, parts_yes (z := 0) hY]; rfl
theorem dPartsI (t : List W) (ck : Bool) (ht : t.length ≤ 900000) (hw : ∀ x ∈ t, x.length ≤ 900000) : DCall C0 41 [.sl 1 (t.map rowS) ck, .clo 42 [] []] (prtB rowI (partsL readD t)) := by
  cases t with
  | nil => exact (dPartsIE [] ck ht rfl).rmono fun S w v h => rep_nil_tup (i := 0) (n := 1) h rfl
  | cons x t =>
    have h := dPartsIO (x :: t) ck ht hw (by simp)
    have hl : ∀ l, partsL readD (x :: t) = some l → l.isEmpty = false := fun l hl => by
      unfold partsL at hl
      split at hl
      · cases hl
      · obtain ⟨q, _, rfl⟩ := Option.map_eq_some_iff.1 hl; rfl
    cases hp : partsL readD (x :: t) with
    | none => rw [hp] at h; exact h.rmono fun S w v h => rep_nil_tup (i := 0) (n := 1) h rfl
    | some l => rw [hp] at h; show DCall C0 _ _ (.tup [.sl 1 (l.map _) l.isEmpty, vB true]); rw [hl l hp]; exact h
theorem dPartsUE (t : List W) (ck : Bool) (ht : t.length ≤ 900000) (hT : t.length = 0) : DCall C0 43 [.sl 1 (t.map rowS) ck, .clo 44 [] []] (.tup [.sl 0 [] true, vB true]) := by
  refine DCall.intro c0Ok Tryd.func43 rfl rfl (by kernel_rfl) rfl <| cSeq <| cReg rfl <| oR 2 rfl <| rE 2 <| cSeq <| cReg rfl <| oR 1 rfl <| rE 3 <| cSeq <| cSeq <| cReg rfl <| oR 1 rfl <| rOk (x := vN t.length) rfl rfl (lenMap rowS t) <| oR 1 rfl <| rE 6 ?_
  refine cBlock <| cLoop (κ := Nat) (fun k => ⟨slotsF [(1, .clo 44 [] []), (11, .sl 1 (t.map rowS) ck), (12, vN t.length), (6, .sl 0 ([]) true), (13, vN k)], heapF [], 6⟩) (fun k => k ≤ t.length) (fun k => t.length - k) 0 (fun s => s) (Weak.of_lists (fun s => s) wT trivial rfl) (Nat.zero_le _) ?_
  intro k hk
  have hkn : k ≤ t.length := hk
  have hkB : k ≤ 900000 := by omega
  refine cSeq <| cReg rfl <| rOk (x := vB (decide (k < t.length))) rfl rfl (okB (ltN _ _)) <| rE 7 <| cSeq ?_
  refine cCond rfl (fun h1 => by exact absurd (of_decide_eq_true h1) (by omega)) (fun _ => ?_)
  refine cExit <| cSeq <| cReg rfl <| oR 3 rfl <| rE 10 <| cRet ?_
  exact finTA rfl trivial rfl rfl
theorem dPartsUO (hB : HexIx) (t : List W) (ck : Bool) (ht : t.length ≤ 900000) (hw : ∀ x ∈ t, x.length ≤ 900000) (hT : ¬ t.length = 0) : DCall C0 43 [.sl 1 (t.map rowS) ck, .clo 44 [] []] (prtA rowU (partsL readC t)) := by
  refine DCall.intro c0Ok Tryd.func43 rfl rfl (by kernel_rfl) rfl <| cSeq <| cReg rfl <| oR 2 rfl <| rE 2 <| cSeq <| cReg rfl <| oR 1 rfl <| rE 3 <| cSeq <| cSeq <| cReg rfl <| oR 1 rfl <| rOk (x := vN t.length) rfl rfl (lenMap rowS t) <| oR 1 rfl <| rE 6 ?_
  refine cBlock <| cLoop (κ := Nat × Bool) (fun z_ => match z_ with | (k, false) => ⟨slotsF [(1, .clo 44 [] []), (11, .sl 1 (t.map rowS) ck), (12, vN t.length), (13, vN k), (6, .sl 0 ([]) true)], heapF [], 7⟩ | (k, true) => ⟨slotsF [(1, .clo 44 [] []), (11, .sl 1 (t.map rowS) ck), (12, vN t.length), (13, vN k), (6, .osl 6 0 (((t.take k).map (fun w => (readC w).getD 0)).length) false)], heapF [(6, .arr (((t.take k).map (fun w => (readC w).getD 0)).map rowU) 1)], 7⟩) (fun z_ => match z_ with | (k, false) => (k ≤ t.length ∧ (t.take k).map (fun w => (readC w).getD 0) = [] ∧ ∀ w ∈ t.take k, (readC w).isSome = true) | (k, true) => (k ≤ t.length ∧ ∀ w ∈ t.take k, (readC w).isSome = true)) (fun z_ => t.length - z_.1) (0, false) (fun s => s) (Weak.of_lists (fun s => s) wT trivial rfl) (⟨Nat.zero_le _, (show (t.take 0).map (fun w => (readC w).getD 0) = [] from rfl), (fun x h => absurd h List.not_mem_nil)⟩) ?_
  intro z_ hk
  obtain ⟨k, b_⟩ := z_; cases b_
  · have hk_ := hk
    have hnn : k ≤ t.length := hk_.1
    have hkB : k ≤ 1000000 := by omega
    have hNk : (t.take k).map (fun w => (readC w).getD 0) = [] := hk_.2.1
    have hPk : ∀ w ∈ t.take k, (readC w).isSome = true := hk_.2.2
    refine cSeq <| cReg rfl <| rOk (x := vB (decide (k < t.length))) rfl rfl (okB (ltN _ _)) <| rE 8 <| cSeq ?_
    refine cCond rfl (fun h1 => ?_) (fun h1 => ?_)
    · have h1p := of_decide_eq_true h1
      refine cSkip <| cSeq <| cBlock <| cSeq <| cReg rfl ?_
      obtain ⟨x, hx⟩ : ∃ y_, t[k]? = some y_ := ⟨_, List.getElem?_eq_getElem omT⟩
      have hxo := hw x (List.mem_of_getElem? hx)
      refine rIdx (rowS x) (x := .dp 1 0 (rowS x)) rfl rfl rfl (⟨Int.natCast_nonneg _, getM hx⟩) rfl <| oR 2 rfl <| rE 11 <| cSeq <| cReg rfl <| oR 2 rfl <| rCl rfl (.inl rfl) (dCode2 hB x hxo) <| oR 5 rfl <| rE 19 <| cSeq <| cSeq <| cReg rfl <| oR 2 rfl <| rE 21 ?_
      refine cCond rfl (fun h2 => ?_) (fun h2 => ?_)
      · refine cSeq <| cReg rfl <| oR 2 rfl <| rE 23 <| cRet <| finTA rfl (by repeat' (first | exact trivial | constructor)) rfl ?_
        rw [parts_no (x := x) (List.mem_of_getElem? hx) (by simpa using h2)]; rfl
      · refine cSkip <| cReg rfl <| oR 2 rfl <| rOk (x := .sl 1 ([[vU ((readC x).getD 0)]]) true) rfl rfl rfl <| rFx (x := .osl 24 0 1 false) (h' := upd _ 24 (some (.arr (([(readC x).getD 0]).map rowU) 1))) rfl rfl (app_nil omT) (⟨rfl, by exact omT, by exact omT, trivial⟩) <| oR 1 rfl <| rE 26 <| cReg rfl ?_
        have b1 : k + 1 ≤ 1000001 := Nat.add_le_add hkB (Nat.le_refl 1)
        refine rOk (x := vN (k + 1)) rfl rfl (okI (wrapI64 b1 rfl)) <| oR 1 rfl <| rE 28 ?_
        refine ⟨(k + 1, true), fun i => match i with | 6 => 24 | i => i, Weak.of_lists (fun i => match i with | 6 => 24 | i => i) ⟨⟨rfl, rfl⟩, ⟨rfl, rfl⟩, ⟨rfl, rfl⟩, ⟨rfl, rfl⟩, ⟨(show AV.osl 24 0 (1) false = AV.osl 24 0 ((t.take (k + 1)).map (fun w => (readC w).getD 0)).length false from by rw [← (show [(readC x).getD 0] = (t.take (k + 1)).map (fun w => (readC w).getD 0) from (by rw [← (prt_next hx), hNk]; rfl))]; first | done | rfl | (congr 1 <;> (first | exact omT | simp))), rfl⟩, trivial⟩ ⟨⟨rfl, (congrArg (fun z : List Nat => some (Blk.arr (z.map rowU) 1)) (show [(readC x).getD 0] = (t.take (k + 1)).map (fun w => (readC w).getD 0) from (by rw [← (prt_next hx), hNk]; rfl))), rfl⟩, trivial⟩ rfl, ⟨by omega, prt_P hx hPk (by simpa using h2)⟩, by show t.length - (k + 1) < t.length - k; omega⟩
    · have h1p := of_decide_eq_false h1
      refine cExit <| cSeq <| cReg rfl <| oR 3 rfl <| rE 11 <| cRet ?_
      exact absurd (by have q := congrArg List.length hNk; rw [List.length_map, List.length_take] at q; have q2 : min k t.length = 0 := q; omega : t.length = 0) hT
  · have hk_ := hk
    have hnn : k ≤ t.length := hk_.1
    have hkB : k ≤ 1000000 := by omega
    have hPk : ∀ w ∈ t.take k, (readC w).isSome = true := hk_.2
    have habk : ((t.take k).map (fun w => (readC w).getD 0)).length ≤ 900000 := (by rw [List.length_map, List.length_take]; omega)
    refine cSeq <| cReg rfl <| rOk (x := vB (decide (k < t.length))) rfl rfl (okB (ltN _ _)) <| rE 8 <| cSeq ?_
    refine cCond rfl (fun h3 => ?_) (fun h3 => ?_)
    · have h3p := of_decide_eq_true h3
      refine cSkip <| cSeq <| cBlock <| cSeq <| cReg rfl ?_
      obtain ⟨x, hx⟩ : ∃ y_, t[k]? = some y_ := ⟨_, List.getElem?_eq_getElem omT⟩
      have hxo := hw x (List.mem_of_getElem? hx)
      refine rIdx (rowS x) (x := .dp 1 0 (rowS x)) rfl rfl rfl (⟨Int.natCast_nonneg _, getM hx⟩) rfl <| oR 2 rfl <| rE 11 <| cSeq <| cReg rfl <| oR 2 rfl <| rCl rfl (.inl rfl) (dCode2 hB x hxo) <| oR 5 rfl <| rE 19 <| cSeq <| cSeq <| cReg rfl <| oR 2 rfl <| rE 21 ?_
      refine cCond rfl (fun h4 => ?_) (fun h4 => ?_)
      · refine cSeq <| cReg rfl <| oR 2 rfl <| rE 23 <| cRet <| finTA rfl (by repeat' (first | exact trivial | constructor)) rfl ?_
        rw [parts_no (x := x) (List.mem_of_getElem? hx) (by simpa using h4)]; rfl
      · refine cSkip <| cReg rfl <| oR 2 rfl <| rOk (x := .sl 1 ([[vU ((readC x).getD 0)]]) true) rfl rfl rfl <| rFx (x := .osl 24 0 (((t.take k).map (fun w => (readC w).getD 0)).length + 1) false) (h' := upd (upd _ 6 none) 24 (some (.arr ((((t.take k).map (fun w => (readC w).getD 0)) ++ ([(readC x).getD 0])).map rowU) 1))) rfl rfl (app_own rowU ((t.take k).map (fun w => (readC w).getD 0)) ([(readC x).getD 0]) omT omT) (⟨by exact omT, by exact omT, trivial⟩) <| oR 1 rfl <| rE 26 <| cReg rfl ?_
        have b2 : k + 1 ≤ 1000001 := Nat.add_le_add hkB (Nat.le_refl 1)
        refine rOk (x := vN (k + 1)) rfl rfl (okI (wrapI64 b2 rfl)) <| oR 1 rfl <| rE 28 ?_
        refine ⟨(k + 1, true), fun i => match i with | 6 => 24 | i => i, Weak.of_lists (fun i => match i with | 6 => 24 | i => i) ⟨⟨rfl, rfl⟩, ⟨rfl, rfl⟩, ⟨rfl, rfl⟩, ⟨rfl, rfl⟩, ⟨(show AV.osl 24 0 (((t.take k).map (fun w => (readC w).getD 0)).length + 1) false = AV.osl 24 0 ((t.take (k + 1)).map (fun w => (readC w).getD 0)).length false from by rw [← (show ((t.take k).map (fun w => (readC w).getD 0)) ++ ([(readC x).getD 0]) = (t.take (k + 1)).map (fun w => (readC w).getD 0) from prt_next hx)]; first | done | rfl | (congr 1 <;> (first | exact omT | simp))), rfl⟩, trivial⟩ ⟨⟨rfl, (congrArg (fun z : List Nat => some (Blk.arr (z.map rowU) 1)) (show ((t.take k).map (fun w => (readC w).getD 0)) ++ ([(readC x).getD 0]) = (t.take (k + 1)).map (fun w => (readC w).getD 0) from prt_next hx)), rfl⟩, trivial⟩ rfl, ⟨by omega, prt_P hx hPk (by simpa using h4)⟩, by show t.length - (k + 1) < t.length - k; omega⟩
    · have h3p := of_decide_eq_false h3
      refine cExit <| cSeq <| cReg rfl <| oR 3 rfl <| rE 11 <| cRet ?_
      have hT2 : t.take k = t := List.take_of_length_le (by omega)
      have hY := hPk
      rw [hT2] at hY
      refine finTA rfl ⟨(by show 0 + (((t.take k).map (fun w => (readC w).getD 0)).length) ≤ (((t.take k).map (fun w => (readC w).getD 0)).map rowU).length; exact omT), trivial, trivial⟩ rfl ?_
      show AV.tup [.sl 1 (List.take (((t.take k).map (fun w => (readC w).getD 0)).length) (List.drop 0 (((t.take k).map (fun w => (readC w).getD 0)).map rowU))) false, vB true] = _
      rw [List.drop_zero, List.take_of_length_le (by simp), hT2, parts_yes (z := 0) hY]; rfl
theorem dPartsU (hB : HexIx) (t : List W) (ck : Bool) (ht : t.length ≤ 900000) (hw : ∀ x ∈ t, x.length ≤ 900000) : DCall C0 43 [.sl 1 (t.map rowS) ck, .clo 44 [] []] (prtB rowU (partsL readC t)) := by
  cases t with
  | nil => exact (dPartsUE [] ck ht rfl).rmono fun S w v h => rep_nil_tup (i := 0) (n := 1) h rfl
  | cons x t =>
    have h := dPartsUO hB (x :: t) ck ht hw (by simp)
    have hl : ∀ l, partsL readC (x :: t) = some l → l.isEmpty = false := fun l hl => by
      unfold partsL at hl
      split at hl
      · cases hl
      · obtain ⟨q, _, rfl⟩ := Option.map_eq_some_iff.1 hl; rfl
    cases hp : partsL readC (x :: t) with
    | none => rw [hp] at h; exact h.rmono fun S w v h => rep_nil_tup (i := 0) (n := 1) h rfl
    | some l => rw [hp] at h; show DCall C0 _ _ (.tup [.sl 1 (l.map _) l.isEmpty, vB true]); rw [hl l hp]; exact h
end Go.Proofs.YtpefnjbmbfdmmaaDoor
