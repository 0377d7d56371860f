/- The reference's parsing of a text: a walk on the second machine. -/
import Derived.Test.YtpefnjbmbfdmmaaDoorRef25B
namespace Go.Proofs.YtpefnjbmbfdmmaaDoor
open Go.RowKit Go.Lib

theorem split_cons (c : UInt8) (s : W) : ∃ w0 t, splitL c s = w0 :: t := by
  cases h : splitL c s with
  | nil => exact absurd h (split_ne c s)
  | cons w t => exact ⟨w, t, rfl⟩
theorem split_len (c : UInt8) : ∀ (s : W), (splitL c s).length ≤ s.length + 1 ∧ ∀ w ∈ splitL c s, w.length ≤ s.length
  | [] => ⟨Nat.le_refl _, fun w h => by simp [splitL] at h; subst h; exact Nat.le_refl _⟩
  | x :: s => by
    obtain ⟨h1, h2⟩ := split_len c s
    unfold splitL
    split
    · refine ⟨by simp only [List.length_cons]; omega, fun w h => ?_⟩
      rcases List.mem_cons.1 h with h | h
      · rw [h]; exact Nat.zero_le _
      · have := h2 w h; rw [List.length_cons]; omega
    · obtain ⟨w0, t, e⟩ := split_cons c s
      rw [e] at h1 h2 ⊢
      refine ⟨by simp only [List.headD, List.tail, List.length_cons] at *; omega, fun w h => ?_⟩
      rcases List.mem_cons.1 h with h | h
      · rw [h]; have := h2 w0 List.mem_cons_self; simp only [List.headD, List.length_cons] at *; omega
      · have := h2 w (List.mem_cons_of_mem _ h); rw [List.length_cons]; omega
theorem cut_le (c : UInt8) : ∀ (s : W), (cutL c s).1.length ≤ s.length ∧ (cutL c s).2.1.length ≤ s.length
  | [] => ⟨Nat.le_refl _, Nat.le_refl _⟩
  | x :: s => by
    have ih := cut_le c s
    unfold cutL
    split
    · exact ⟨Nat.zero_le _, Nat.le_succ _⟩
    · exact ⟨Nat.succ_le_succ ih.1, Nat.le_succ_of_le ih.2⟩
theorem refB_len : ∀ w : W, (refB w).length ≤ w.length
  | [] => Nat.le_refl _
  | [_] => Nat.zero_le _
  | x :: y :: t => by have := refB_len t; show (refB t).length + 1 ≤ t.length + 1 + 1; omega
theorem read_ok {p : ScPlan} (hp : p.ok) {w0 : W} {t : List W} (ht : (w0 :: t).length ≤ 900000) (hw : ∀ x ∈ w0 :: t, x.length ≤ 900000) : ∀ k, (readR p t k).ok := by
  have hol := one_len hw
  have htl : t.length + 1 ≤ 900000 := ht
  intro k
  rcases k with _ | _ | _ | _ | _ | _ | _ | _ | _ | _ | _ | _ | _ | _ | k
  all_goals first
    | exact ⟨hp.lat, hp.tape, hp.tp, hp.prog, hp.pr, hp.mem⟩
    | exact ⟨by show (t.map _).length ≤ _; rw [List.length_map]; omega, hp.tape, hp.tp, hp.prog, hp.pr, hp.mem⟩
    | exact ⟨hp.lat, by show (t.map wordV).length ≤ _; rw [List.length_map]; omega, words_le t, hp.prog, hp.pr, hp.mem⟩
    | exact ⟨hp.lat, hp.tape, hp.tp, by show (t.map wordV).length ≤ _; rw [List.length_map]; omega, words_le t, hp.mem⟩
    | exact ⟨hp.lat, hp.tape, hp.tp, hp.prog, hp.pr, Nat.le_trans (refB_len _) hol⟩
/-- Is the slice of that line clipped, behind so many lines? -/
def fl {α : Type} (j k : Nat) (l : List α) : Bool := decide (j < k) && l.isEmpty
abbrev planF (p : ScPlan) (k : Nat) : List AV := planL p (fl 9 k p.lat) (fl 10 k p.tape) (fl 11 k p.prog)
abbrev planE (p : ScPlan) : List AV := planL p p.lat.isEmpty p.tape.isEmpty p.prog.isEmpty
theorem fl_lat (p : ScPlan) (t : List W) : ∀ k, k < 14 → (if k = 9 then t.isEmpty else fl 9 k p.lat) = fl 9 (k + 1) (readR p t k).lat := by
  intro k hk
  unfold fl
  rcases k with _ | _ | _ | _ | _ | _ | _ | _ | _ | _ | _ | _ | _ | _ | k
  all_goals first | (exfalso; omega) | rfl | (show t.isEmpty = (true && (t.map _).isEmpty); cases t <;> rfl)
theorem fl_tape (p : ScPlan) (t : List W) : ∀ k, k < 14 → (if k = 10 then t.isEmpty else fl 10 k p.tape) = fl 10 (k + 1) (readR p t k).tape := by
  intro k hk
  unfold fl
  rcases k with _ | _ | _ | _ | _ | _ | _ | _ | _ | _ | _ | _ | _ | _ | k
  all_goals first | (exfalso; omega) | rfl | (show t.isEmpty = (true && (t.map _).isEmpty); cases t <;> rfl)
theorem fl_prog (p : ScPlan) (t : List W) : ∀ k, k < 14 → (if k = 11 then t.isEmpty else fl 11 k p.prog) = fl 11 (k + 1) (readR p t k).prog := by
  intro k hk
  unfold fl
  rcases k with _ | _ | _ | _ | _ | _ | _ | _ | _ | _ | _ | _ | _ | _ | k
  all_goals first | (exfalso; omega) | rfl | (show t.isEmpty = (true && (t.map _).isEmpty); cases t <;> rfl)
theorem eReadF (p : ScPlan) (w0 : W) (t : List W) (k : Nat) (hk : k < 14) (hp : p.ok) (ht : (w0 :: t).length ≤ 900000) (hw : ∀ x ∈ w0 :: t, x.length ≤ 900000) :
    DCall C0 28 [.agg (planF p k), vN k, .sl 1 ((w0 :: t).map rowS) false] (.agg (planF (readR p t k) (k + 1))) := by
  have h := eRead p (fl 9 k p.lat) (fl 10 k p.tape) (fl 11 k p.prog) false w0 t k hk hp ht hw
  rw [fl_lat p t k hk, fl_tape p t k hk, fl_prog p t k hk] at h
  exact h
/-- A plan that is none, as it lies in memory. -/
abbrev plZc : List AV := [vI 0, vI 0, vI 0, vI 0, vI 0, vI 0, vI 0, vI 0, .sl 0 [] true, vB false, .sl 0 [] true, .sl 0 [] true, vS [], vI 0]
def resP0 : ScPlan × Int × Int → AV
  | (p, e, n) => if e = 0 then .tup [.agg (planE p), vI e, vI n] else .tup [.agg plZc, vI e, vI n]
def resP : ScPlan × Int × Int → AV
  | (p, e, n) => .tup [.agg (planE p), vI e, vI n]
theorem rep_zc {S : Nat → Prop} {w : World} {β : Bt} {v : Value} (h : Rep S w β (.agg plZc) v) : Rep S w β (.agg (planE plZ)) v :=
  rep_nil_agg (i := 11) (n := 1) (rep_nil_agg (i := 10) (n := 1) (rep_nil_agg (i := 8) (n := 1) h rfl) rfl) rfl
theorem rep_tup0 {S : Nat → Prop} {w : World} {β : Bt} {v : Value} {a b : AV} {cs : List AV} (h : Rep S w β (.tup (a :: cs)) v) (hr : ∀ v, Rep S w β a v → Rep S w β b v) : Rep S w β (.tup (b :: cs)) v := by
  cases h with
  | tup cs vs hl h =>
    refine .tup _ vs hl fun j x u ha hu => ?_
    cases j with
    | zero =>
      have e : b = x := Option.some.inj ha
      rw [← e]; exact hr u (h 0 a u rfl hu)
    | succ j => exact h (j + 1) x u ha hu
theorem parse_zero {step : ScPlan → Nat → W → Option ScPlan} {p0 : ScPlan} {s : W} {p : ScPlan} {e n : Int} (h : parseG step p0 plZ s = (p, e, n)) (he : e ≠ 0) : p = plZ := by
  unfold parseG at h
  split at h
  · injection h with h1 h; exact h1.symm
  · split at h
    · injection h with _ h; injection h with h; exact absurd h.symm he
    · injection h with h1 h; exact h1.symm
theorem resP_of {f : FuncId} {args : List AV} {step : ScPlan → Nat → W → Option ScPlan} {p0 : ScPlan} {s : W} (h : DCall C0 f args (resP0 (parseG step p0 plZ s))) : DCall C0 f args (resP (parseG step p0 plZ s)) := by
  rcases hE : parseG step p0 plZ s with ⟨p, e, n⟩
  rw [hE] at h
  have h : DCall C0 f args (if e = 0 then .tup [.agg (planE p), vI e, vI n] else .tup [.agg plZc, vI e, vI n]) := h
  show DCall C0 f args (.tup [.agg (planE p), vI e, vI n])
  by_cases he : e = 0
  · rw [if_pos he] at h; exact h
  · rw [if_neg he] at h
    rw [parse_zero hE he]
    exact h.rmono fun S w v hv => rep_tup0 hv fun v => rep_zc
theorem parse_end {step : ScPlan → Nat → W → Option ScPlan} {p0 p : ScPlan} {s : W} (h : goG step p0 s 14 = .ok (p, [])) : parseG step p0 plZ s = (p, 0, 0) := by unfold parseG; rw [h]; rfl
theorem parse_rest {step : ScPlan → Nat → W → Option ScPlan} {p0 p : ScPlan} {s r : W} (h : goG step p0 s 14 = .ok (p, r)) (hr : ¬ r = []) : parseG step p0 plZ s = (plZ, 250, 15) := by unfold parseG; rw [h]; show (if r = [] then _ else _) = _; rw [if_neg hr]
theorem parse_err {step : ScPlan → Nat → W → Option ScPlan} {p0 : ScPlan} {s : W} {k e : Nat} (h : goG step p0 s k = .error e) (hk : k ≤ 14) : parseG step p0 plZ s = (plZ, 250, (e : Int)) := by
  have h2 := go_err h (14 - k)
  rw [show k + (14 - k) = 14 by omega] at h2
  unfold parseG; rw [h2]
theorem go_on {step : ScPlan → Nat → W → Option ScPlan} {p0 p p' : ScPlan} {s r : W} {k : Nat} (h : goG step p0 s k = .ok (p, r)) (hc : (cutL 10 r).2.2 = true) (hs : step p k (cutL 10 r).1 = some p') : goG step p0 s (k + 1) = .ok (p', (cutL 10 r).2.1) := by
  unfold goG; rw [h]
  show (if _ then _ else _) = _
  rw [if_pos hc, hs]
theorem go_bad {step : ScPlan → Nat → W → Option ScPlan} {p0 p : ScPlan} {s r : W} {k : Nat} (h : goG step p0 s k = .ok (p, r)) (hc : (cutL 10 r).2.2 = false ∨ step p k (cutL 10 r).1 = none) : goG step p0 s (k + 1) = .error (k + 1) := by
  unfold goG; rw [h]
  show (if _ then _ else _) = _
  rcases hc with hc | hc
  · rw [if_neg (by rw [hc]; decide)]
  · split
    · rw [hc]
    · rfl
theorem resP0_err {n : Int} : resP0 (plZ, 250, n) = .tup [.agg plZc, vI 250, vI n] := rfl

theorem plO_ok : plO.ok := ⟨by decide, by decide, fun x h => absurd h List.not_mem_nil, by decide, fun x h => absurd h List.not_mem_nil, by decide⟩
theorem repL_one {S : Nat → Prop} {w : World} {β : Bt} {a b : AV} {vs : List Value} (h : RepL S w β [a] vs) (hr : ∀ v, Rep S w β a v → Rep S w β b v) : RepL S w β [b] vs :=
  ⟨h.1, fun i x u hx hu => by
    cases i with
    | zero => have e : b = x := Option.some.inj hx
              rw [← e]; exact hr u (h.2 0 a u rfl hu)
    | succ i => simp at hx⟩
theorem DCall.amono1 {C : Ctx} {f : FuncId} {a b r : AV} (h : DCall C f [b] r) (hr : ∀ S w v, Rep S w noB a v → Rep S w noB b v) : DCall C f [a] r :=
  ⟨h.1, fun S w vs h1 h2 h3 => h.2 S w vs h1 h2 (repL_one h3 (hr S w))⟩
theorem rCleanZ : DCall C0 25 [.agg [vI 0, vI 0, vI 0, vI 0, vI 0, vI 0, vI 0, vI 0, .sl 0 [] true, vB false, .sl 0 [] true]] (.agg [vI 0, vI 1, vI 2, vI 1, vI 1, vI 2, vI 1, vI 1, .sl 1 [] false, vB false, .sl 1 [] false]) :=
  (rClean08 cfZ true true ⟨by decide, by decide, fun x h => absurd h List.not_mem_nil⟩).amono1 fun S w v h => rep_nil_agg (i := 10) (n := 1) (rep_nil_agg (i := 8) (n := 1) h rfl) rfl

set_option maxRecDepth 100000 in
set_option maxHeartbeats 4000000 in
theorem rParse (s : List UInt8) (hs : s.length ≤ 100000) (hI : ∀ n : Int, 0 ≤ n → n ≤ 600 → DCall C0 54 [vI n] (vS (itoa n))) : DCall C0 8 [vS s] (resP0 (parseG (stepR okM) plO plZ s)) := by
  refine dc1 (DCall.intro c1Ok Tryd.func8 rfl rfl (by kernel_rfl) rfl ?_)
  refine cSeq ?_
  refine cReg rfl ?_
  refine rFx (d := 2) (x := .ptr 0 0) (h' := upd _ 0 (some (.box [vI 0, vI 0, vI 0, vI 0, vI 0, vI 0, vI 0, vI 0, .sl 0 ([]) true, vB false, .sl 0 ([]) true, .sl 0 ([]) true, .v (.string (⟨#[]⟩ : ByteArray)), vI 0]))) rfl rfl (rfl) (trivial) ?_
  refine rOk (d := 3) (x := vI 0) rfl rfl rfl ?_
  refine rOk (d := 4) (x := vI 0) rfl rfl rfl ?_
  refine rEnd (n' := 3) rfl ?_
  refine cSeqG ?_
  refine cReg rfl ?_
  refine rOk (d := 10) (x := .agg [vI 0, vI 0, vI 0, vI 0, vI 0, vI 0, vI 0, vI 0, .sl 0 ([]) true, vB false, .sl 0 ([]) true]) rfl rfl rfl ?_
  refine rCall (args := [.agg [vI 0, vI 0, vI 0, vI 0, vI 0, vI 0, vI 0, vI 0, .sl 0 ([]) true, vB false, .sl 0 ([]) true]]) (d := 11) (x := .agg [vI 0, vI 1, vI 2, vI 1, vI 1, vI 2, vI 1, vI 1, .sl 1 (([] : List Int).map rowI) false, vB false, .sl 1 (([] : List Nat).map rowU) false]) rfl rfl rfl rfl (.inl rfl) rfl (rCleanZ) ?_
  refine rCall (args := [.v (.string (⟨#[]⟩ : ByteArray))]) (d := 12) (x := vS (List.replicate 16 0)) rfl rfl rfl rfl (.inl rfl) rfl (cleanM_nil ▸ rClean05 [] (by decide)) ?_
  refine rOk (d := 13) (x := .agg [vI 0, vI 1, vI 2, vI 1, vI 1, vI 2, vI 1, vI 1, .sl 1 (([] : List Int).map rowI) false, vB false, .sl 1 (([] : List Nat).map rowU) false, .sl 0 ([]) true, vS (List.replicate 16 0), vI 0]) rfl rfl rfl ?_
  refine rFx (d := 5) (x := .ptr 7 0) (h' := upd _ 7 (some (.box [vI 0, vI 0, vI 0, vI 0, vI 0, vI 0, vI 0, vI 0, .sl 0 ([]) true, vB false, .sl 0 ([]) true, .sl 0 ([]) true, .v (.string (⟨#[]⟩ : ByteArray)), vI 0]))) rfl rfl (rfl) (trivial) ?_
  refine rFx0 (h' := upd _ 7 (some (.box [vI 0, vI 1, vI 2, vI 1, vI 1, vI 2, vI 1, vI 1, .sl 1 (([] : List Int).map rowI) false, vB false, .sl 1 (([] : List Nat).map rowU) false, .sl 0 ([]) true, vS (List.replicate 16 0), vI 0]))) rfl rfl (rfl) (trivial) ?_
  refine rEnd (n' := 9) rfl ?_
  refine .mk _ (.step none (Ghost.of_lists (l := [(0, vS s), (2, .ptr 0 0), (3, vI 0), (4, vI 0), (5, .ptr 7 0)]) (hp := [(0, .box [vI 0, vI 0, vI 0, vI 0, vI 0, vI 0, vI 0, vI 0, .sl 0 ([]) true, vB false, .sl 0 ([]) true, .sl 0 ([]) true, .v (.string (⟨#[]⟩ : ByteArray)), vI 0]), (7, .box [vI 0, vI 1, vI 2, vI 1, vI 1, vI 2, vI 1, vI 1, .sl 1 (([] : List Int).map rowI) false, vB false, .sl 1 (([] : List Nat).map rowU) false, .sl 1 (([] : List Nat).map rowU) false, vS (List.replicate 16 0), vI 0])]) trivial ⟨.refl _, .refl _, .refl _, .refl _, .refl _, trivial⟩ ⟨⟨trivial, _, rfl, .refl _⟩, ⟨trivial, _, rfl, LeB.boxL ⟨.refl _, .refl _, .refl _, .refl _, .refl _, .refl _, .refl _, .refl _, .refl _, .refl _, .refl _, .nil 1 false, .refl _, .refl _, trivial⟩⟩, trivial⟩) (.refl _)) ?_
  refine cSeq ?_
  refine cSeq ?_
  refine cReg rfl ?_
  refine rOk (d := 6) (x := vI 0) rfl rfl rfl ?_
  refine rEnd (n' := 10) rfl ?_
  refine cBlock ?_
  refine cLoop (κ := Nat × ScPlan × W) (fun z => ⟨slotsF [(0, vS z.2.2), (2, .ptr 0 0), (3, vI 0), (4, vI 0), (5, .ptr 7 0), (6, vN z.1)], heapF [(0, .box [vI 0, vI 0, vI 0, vI 0, vI 0, vI 0, vI 0, vI 0, .sl 0 ([]) true, vB false, .sl 0 ([]) true, .sl 0 ([]) true, .v (.string (⟨#[]⟩ : ByteArray)), vI 0]), (7, .box [vI z.2.1.mode, vI z.2.1.width, vI z.2.1.rob, vI z.2.1.queue, vI z.2.1.stores, vI z.2.1.slots, vI z.2.1.sets, vI z.2.1.ways, .sl 1 (z.2.1.lat.map rowI) (fl 9 z.1 z.2.1.lat), vB z.2.1.tables, .sl 1 (z.2.1.tape.map rowU) (fl 10 z.1 z.2.1.tape), .sl 1 (z.2.1.prog.map rowU) (fl 11 z.1 z.2.1.prog), vS z.2.1.mem, vI z.2.1.cycles])], 10⟩) (fun z => z.1 ≤ 14 ∧ goG (stepR okM) plO s z.1 = .ok (z.2.1, z.2.2) ∧ z.2.1.ok ∧ z.2.2.length ≤ s.length) (fun z => 14 - z.1) (0, plO, s) (fun s => s) (Weak.of_lists (fun s => s) ⟨⟨rfl, rfl⟩, ⟨rfl, rfl⟩, ⟨rfl, rfl⟩, ⟨rfl, rfl⟩, ⟨rfl, rfl⟩, ⟨rfl, rfl⟩, trivial⟩ ⟨⟨rfl, rfl, rfl⟩, ⟨rfl, rfl, rfl⟩, trivial⟩ rfl) (⟨by show 0 ≤ 14; omega, rfl, plO_ok, Nat.le_refl _⟩) ?_
  intro z hz
  have hkk : z.1 ≤ 14 := hz.1
  have hgo := hz.2.1
  have hp := hz.2.2.1
  have hrl := hz.2.2.2
  refine cSeq ?_
  refine cSeq ?_
  refine cReg rfl ?_
  refine rOk (d := 14) (x := vN z.1) rfl rfl rfl ?_
  refine rOk (d := 15) (x := vB (decide (z.1 < 14))) rfl rfl (okB (ltN _ _)) ?_
  refine rEnd (n' := 12) rfl ?_
  refine cCond (v := decide (z.1 < 14)) rfl (fun h1 => ?_) (fun h1 => ?_)
  · skip
    have h1p := of_decide_eq_true h1
    refine cSkip ?_
    refine cSeq ?_
    refine cBlock ?_
    refine cSeq ?_
    refine cReg rfl ?_
    refine rOk (d := 19) (x := vS z.2.2) rfl rfl rfl ?_
    refine rCall (args := [vS z.2.2, .v (.int .u8 10)]) (d := 20) (x := .tup [vS ((cutL 10 z.2.2).1), vS ((cutL 10 z.2.2).2.1), vB ((cutL 10 z.2.2).2.2)]) rfl rfl rfl rfl (.inl rfl) rfl (eCut z.2.2 10 (by omega)) ?_
    refine rOk (d := 18) (x := .tup [vS ((cutL 10 z.2.2).1), vS ((cutL 10 z.2.2).2.1), vB ((cutL 10 z.2.2).2.2)]) rfl rfl rfl ?_
    refine rOk (d := 21) (x := vS ((cutL 10 z.2.2).1)) rfl rfl rfl ?_
    refine rOk (d := 22) (x := vS ((cutL 10 z.2.2).2.1)) rfl rfl rfl ?_
    refine rOk (d := 23) (x := vB ((cutL 10 z.2.2).2.2)) rfl rfl rfl ?_
    refine rOk (d := 7) (x := vS ((cutL 10 z.2.2).1)) rfl rfl rfl ?_
    refine rOk (d := 8) (x := vS ((cutL 10 z.2.2).2.1)) rfl rfl rfl ?_
    refine rOk (d := 9) (x := vB ((cutL 10 z.2.2).2.2)) rfl rfl rfl ?_
    refine rEnd (n' := 21) rfl ?_
    refine cSeq ?_
    refine cReg rfl ?_
    refine rOk (d := 24) (x := .agg [vI z.2.1.mode, vI z.2.1.width, vI z.2.1.rob, vI z.2.1.queue, vI z.2.1.stores, vI z.2.1.slots, vI z.2.1.sets, vI z.2.1.ways, .sl 1 (z.2.1.lat.map rowI) (fl 9 z.1 z.2.1.lat), vB z.2.1.tables, .sl 1 (z.2.1.tape.map rowU) (fl 10 z.1 z.2.1.tape), .sl 1 (z.2.1.prog.map rowU) (fl 11 z.1 z.2.1.prog), vS z.2.1.mem, vI z.2.1.cycles]) rfl rfl rfl ?_
    refine rOk (d := 25) (x := vN z.1) rfl rfl rfl ?_
    refine rOk (d := 26) (x := vS ((cutL 10 z.2.2).1)) rfl rfl rfl ?_
    obtain ⟨w0, t, hwt⟩ := split_cons 32 (cutL 10 z.2.2).1
    have hcl := cut_le 10 z.2.2
    have hsl := split_len 32 (cutL 10 z.2.2).1
    rw [hwt] at hsl
    have ht : (w0 :: t).length ≤ 900000 := by omega
    have hw : ∀ x ∈ w0 :: t, x.length ≤ 900000 := fun x hx => by have := hsl.2 x hx; omega
    have hp2 := read_ok hp ht hw z.1
    refine rCall (args := [vS ((cutL 10 z.2.2).1)]) (d := 27) (x := .sl 1 ((w0 :: t).map rowS) false) rfl rfl rfl rfl (.inl rfl) rfl (hwt ▸ eSplit (cutL 10 z.2.2).1 (by omega)) ?_
    refine rCall (args := [.agg [vI z.2.1.mode, vI z.2.1.width, vI z.2.1.rob, vI z.2.1.queue, vI z.2.1.stores, vI z.2.1.slots, vI z.2.1.sets, vI z.2.1.ways, .sl 1 (z.2.1.lat.map rowI) (fl 9 z.1 z.2.1.lat), vB z.2.1.tables, .sl 1 (z.2.1.tape.map rowU) (fl 10 z.1 z.2.1.tape), .sl 1 (z.2.1.prog.map rowU) (fl 11 z.1 z.2.1.prog), vS z.2.1.mem, vI z.2.1.cycles], vN z.1, .sl 1 ((w0 :: t).map rowS) false]) (d := 28) (x := .agg (planF (readR z.2.1 t z.1) (z.1 + 1))) rfl rfl rfl rfl (.inl rfl) rfl (eReadF z.2.1 w0 t z.1 (by omega) hp ht hw) ?_
    refine rFx0 (h' := upd _ 7 (some (.box [vI ((readR z.2.1 t z.1).mode), vI ((readR z.2.1 t z.1).width), vI ((readR z.2.1 t z.1).rob), vI ((readR z.2.1 t z.1).queue), vI ((readR z.2.1 t z.1).stores), vI ((readR z.2.1 t z.1).slots), vI ((readR z.2.1 t z.1).sets), vI ((readR z.2.1 t z.1).ways), .sl 1 (((readR z.2.1 t z.1).lat).map rowI) (fl 9 (z.1 + 1) (readR z.2.1 t z.1).lat), vB ((readR z.2.1 t z.1).tables), .sl 1 (((readR z.2.1 t z.1).tape).map rowU) (fl 10 (z.1 + 1) (readR z.2.1 t z.1).tape), .sl 1 (((readR z.2.1 t z.1).prog).map rowU) (fl 11 (z.1 + 1) (readR z.2.1 t z.1).prog), vS ((readR z.2.1 t z.1).mem), vI ((readR z.2.1 t z.1).cycles)]))) rfl rfl (rfl) (trivial) ?_
    refine rEnd (n' := 27) rfl ?_
    refine cSeq ?_
    refine cSeq ?_
    refine cReg rfl ?_
    refine rOk (d := 29) (x := vB ((cutL 10 z.2.2).2.2)) rfl rfl rfl ?_
    refine rOk (d := 30) (x := vB (!((cutL 10 z.2.2).2.2))) rfl rfl rfl ?_
    refine rOk (d := 31) (x := vB (!((cutL 10 z.2.2).2.2))) rfl rfl rfl ?_
    refine gOk (d := 32) (x := .agg [vI ((readR z.2.1 t z.1).mode), vI ((readR z.2.1 t z.1).width), vI ((readR z.2.1 t z.1).rob), vI ((readR z.2.1 t z.1).queue), vI ((readR z.2.1 t z.1).stores), vI ((readR z.2.1 t z.1).slots), vI ((readR z.2.1 t z.1).sets), vI ((readR z.2.1 t z.1).ways), .sl 1 (((readR z.2.1 t z.1).lat).map rowI) (fl 9 (z.1 + 1) (readR z.2.1 t z.1).lat), vB ((readR z.2.1 t z.1).tables), .sl 1 (((readR z.2.1 t z.1).tape).map rowU) (fl 10 (z.1 + 1) (readR z.2.1 t z.1).tape), .sl 1 (((readR z.2.1 t z.1).prog).map rowU) (fl 11 (z.1 + 1) (readR z.2.1 t z.1).prog), vS ((readR z.2.1 t z.1).mem), vI ((readR z.2.1 t z.1).cycles)]) (g := !(!((cutL 10 z.2.2).2.2))) rfl rfl rfl rfl rfl rfl ?_
    refine gCallS (args := [.agg [vI ((readR z.2.1 t z.1).mode), vI ((readR z.2.1 t z.1).width), vI ((readR z.2.1 t z.1).rob), vI ((readR z.2.1 t z.1).queue), vI ((readR z.2.1 t z.1).stores), vI ((readR z.2.1 t z.1).slots), vI ((readR z.2.1 t z.1).sets), vI ((readR z.2.1 t z.1).ways), .sl 1 (((readR z.2.1 t z.1).lat).map rowI) (fl 9 (z.1 + 1) (readR z.2.1 t z.1).lat), vB ((readR z.2.1 t z.1).tables), .sl 1 (((readR z.2.1 t z.1).tape).map rowU) (fl 10 (z.1 + 1) (readR z.2.1 t z.1).tape), .sl 1 (((readR z.2.1 t z.1).prog).map rowU) (fl 11 (z.1 + 1) (readR z.2.1 t z.1).prog), vS ((readR z.2.1 t z.1).mem), vI ((readR z.2.1 t z.1).cycles)]]) (d := 33) (x := vB (rightP (readR z.2.1 t z.1))) (g := !(!((cutL 10 z.2.2).2.2))) rfl rfl rfl rfl (fun h => h) rfl rfl rfl (.inl rfl) rfl (fun hg => rRight (readR z.2.1 t z.1) _ _ _ hp2) ?_
    refine gOkS (d := 34) (x := vB (!(rightP (readR z.2.1 t z.1)))) (g := !(!((cutL 10 z.2.2).2.2))) rfl rfl rfl rfl (fun h => h) rfl rfl ?_
    refine rNeed (d := 35) (x := vB (cond2 (!((cutL 10 z.2.2).2.2)) true (!(rightP (readR z.2.1 t z.1))))) rfl rfl rfl (by simp) ?_
    refine rOk (d := 36) (x := vB (cond2 (!((cutL 10 z.2.2).2.2)) true (!(rightP (readR z.2.1 t z.1))))) rfl rfl rfl ?_
    refine gOk (d := 37) (x := .agg [vI ((readR z.2.1 t z.1).mode), vI ((readR z.2.1 t z.1).width), vI ((readR z.2.1 t z.1).rob), vI ((readR z.2.1 t z.1).queue), vI ((readR z.2.1 t z.1).stores), vI ((readR z.2.1 t z.1).slots), vI ((readR z.2.1 t z.1).sets), vI ((readR z.2.1 t z.1).ways), .sl 1 (((readR z.2.1 t z.1).lat).map rowI) (fl 9 (z.1 + 1) (readR z.2.1 t z.1).lat), vB ((readR z.2.1 t z.1).tables), .sl 1 (((readR z.2.1 t z.1).tape).map rowU) (fl 10 (z.1 + 1) (readR z.2.1 t z.1).tape), .sl 1 (((readR z.2.1 t z.1).prog).map rowU) (fl 11 (z.1 + 1) (readR z.2.1 t z.1).prog), vS ((readR z.2.1 t z.1).mem), vI ((readR z.2.1 t z.1).cycles)]) (g := !(cond2 (!((cutL 10 z.2.2).2.2)) true (!(rightP (readR z.2.1 t z.1))))) rfl rfl rfl rfl rfl rfl ?_
    refine gOk (d := 38) (x := vN z.1) (g := !(cond2 (!((cutL 10 z.2.2).2.2)) true (!(rightP (readR z.2.1 t z.1))))) rfl rfl rfl rfl rfl rfl ?_
    refine gCallS (args := [.agg [vI ((readR z.2.1 t z.1).mode), vI ((readR z.2.1 t z.1).width), vI ((readR z.2.1 t z.1).rob), vI ((readR z.2.1 t z.1).queue), vI ((readR z.2.1 t z.1).stores), vI ((readR z.2.1 t z.1).slots), vI ((readR z.2.1 t z.1).sets), vI ((readR z.2.1 t z.1).ways), .sl 1 (((readR z.2.1 t z.1).lat).map rowI) (fl 9 (z.1 + 1) (readR z.2.1 t z.1).lat), vB ((readR z.2.1 t z.1).tables), .sl 1 (((readR z.2.1 t z.1).tape).map rowU) (fl 10 (z.1 + 1) (readR z.2.1 t z.1).tape), .sl 1 (((readR z.2.1 t z.1).prog).map rowU) (fl 11 (z.1 + 1) (readR z.2.1 t z.1).prog), vS ((readR z.2.1 t z.1).mem), vI ((readR z.2.1 t z.1).cycles)], vN z.1]) (d := 39) (x := vS (LineL (readR z.2.1 t z.1) z.1)) (g := !(cond2 (!((cutL 10 z.2.2).2.2)) true (!(rightP (readR z.2.1 t z.1))))) rfl rfl rfl rfl (fun h => by first | (simp_all; done) | exact (Bool.and_eq_true_iff.1 h).1 | exact Bool.and_eq_true_iff.2 ⟨h, h⟩) rfl rfl rfl (.inl rfl) rfl (fun hg => eLine (readR z.2.1 t z.1) _ _ _ z.1 (by omega) hp2 ((rightP_iff hp2).1 (by simp [cOr] at hg; exact hg.2)) hI) ?_
    refine gOk (d := 40) (x := vS ((cutL 10 z.2.2).1)) (g := !(cond2 (!((cutL 10 z.2.2).2.2)) true (!(rightP (readR z.2.1 t z.1))))) rfl rfl rfl rfl rfl rfl ?_
    refine gOkS (d := 41) (x := vB (!decide (LineL (readR z.2.1 t z.1) z.1 = (cutL 10 z.2.2).1))) (g := !(cond2 (!((cutL 10 z.2.2).2.2)) true (!(rightP (readR z.2.1 t z.1))))) rfl rfl rfl rfl (fun h => by first | (simp_all; done) | exact (Bool.and_eq_true_iff.1 h).1 | exact Bool.and_eq_true_iff.2 ⟨h, h⟩) rfl (okBo (congrArg (!·) (eq_tL (LineL (readR z.2.1 t z.1) z.1) ((cutL 10 z.2.2).1)))) ?_
    refine rNeed (d := 42) (x := vB (cond2 (cond2 (!((cutL 10 z.2.2).2.2)) true (!(rightP (readR z.2.1 t z.1)))) true (!decide (LineL (readR z.2.1 t z.1) z.1 = (cutL 10 z.2.2).1)))) rfl rfl rfl (by simp) ?_
    refine rEnd (n' := 41) rfl ?_
    refine cCond (v := cond2 (cond2 (!((cutL 10 z.2.2).2.2)) true (!(rightP (readR z.2.1 t z.1)))) true (!decide (LineL (readR z.2.1 t z.1) z.1 = (cutL 10 z.2.2).1))) rfl (fun h2 => ?_) (fun h2 => ?_)
    · skip
      have hS : goG (stepR okM) plO s (z.1 + 1) = .error (z.1 + 1) := go_bad hgo (by
        rcases hc : (cutL 10 z.2.2).2.2 with _ | _
        · exact .inl rfl
        · refine .inr ?_; cases hs : stepR okM z.2.1 z.1 (cutL 10 z.2.2).1 with
          | none => rfl
          | some q => exfalso; obtain ⟨a, b, c⟩ := stepR_iff.1 hs; rw [hwt] at a; have a2 : q = readR z.2.1 t z.1 := a; subst a2; have hr := (rightP_iff hp2).2 b; simp [cOr, hc, hr, c] at h2)
      refine cSeq ?_
      refine cReg rfl ?_
      refine rOk (d := 43) (x := .agg [vI 0, vI 0, vI 0, vI 0, vI 0, vI 0, vI 0, vI 0, .sl 0 ([]) true, vB false, .sl 0 ([]) true, .sl 0 ([]) true, .v (.string (⟨#[]⟩ : ByteArray)), vI 0]) rfl rfl rfl ?_
      refine rOk (d := 44) (x := vN z.1) rfl rfl rfl ?_
      have b1 : z.1 + 1 ≤ 15 := Nat.add_le_add hkk (Nat.le_refl 1)
      refine rOk (d := 45) (x := vN (z.1 + 1)) rfl rfl (okI (wrapI64 b1 rfl)) ?_
      refine rFx0 (h' := upd _ 0 (some (.box [vI 0, vI 0, vI 0, vI 0, vI 0, vI 0, vI 0, vI 0, .sl 0 ([]) true, vB false, .sl 0 ([]) true, .sl 0 ([]) true, .v (.string (⟨#[]⟩ : ByteArray)), vI 0]))) rfl rfl (rfl) (trivial) ?_
      refine rOk (d := 3) (x := vI 250) rfl rfl rfl ?_
      refine rOk (d := 4) (x := vN (z.1 + 1)) rfl rfl rfl ?_
      refine rEnd (n' := 47) rfl ?_
      refine cRet ?_
      refine finTA rfl (by repeat' (first | exact trivial | constructor)) rfl ?_
      rw [parse_err hS (by omega), resP0_err]; rfl
    · skip
      have hS : (cutL 10 z.2.2).2.2 = true ∧ rightP (readR z.2.1 t z.1) = true ∧ LineL (readR z.2.1 t z.1) z.1 = (cutL 10 z.2.2).1 := by simp [cOr, and_assoc] at h2; exact h2
      refine cSkip ?_
      refine cReg rfl ?_
      refine rOk (d := 46) (x := vS ((cutL 10 z.2.2).2.1)) rfl rfl rfl ?_
      refine rOk (d := 0) (x := vS ((cutL 10 z.2.2).2.1)) rfl rfl rfl ?_
      refine rEnd (n' := 43) rfl ?_
      refine cReg rfl ?_
      refine rOk (d := 16) (x := vN z.1) rfl rfl rfl ?_
      have b2 : z.1 + 1 ≤ 15 := Nat.add_le_add hkk (Nat.le_refl 1)
      refine rOk (d := 17) (x := vN (z.1 + 1)) rfl rfl (okI (wrapI64 b2 rfl)) ?_
      refine rOk (d := 6) (x := vN (z.1 + 1)) rfl rfl rfl ?_
      refine rEnd (n' := 46) rfl ?_
      refine ⟨(z.1 + 1, (readR z.2.1 t z.1), (cutL 10 z.2.2).2.1), fun s => s, Weak.of_lists (fun s => s) ⟨⟨rfl, rfl⟩, ⟨rfl, rfl⟩, ⟨rfl, rfl⟩, ⟨rfl, rfl⟩, ⟨rfl, rfl⟩, ⟨rfl, rfl⟩, trivial⟩ ⟨⟨rfl, rfl, rfl⟩, ⟨rfl, rfl, rfl⟩, trivial⟩ rfl, ⟨by show z.1 + 1 ≤ 14; omega, go_on hgo hS.1 (stepR_iff.2 ⟨by rw [hwt]; rfl, (rightP_iff hp2).1 hS.2.1, hS.2.2⟩), hp2, by show (cutL 10 z.2.2).2.1.length ≤ s.length; omega⟩, by show 14 - (z.1 + 1) < 14 - z.1; omega⟩
  · skip
    have h1p := of_decide_eq_false h1
    refine cExit ?_
    refine cSeq ?_
    refine cSeq ?_
    refine cReg rfl ?_
    refine rOk (d := 47) (x := vS z.2.2) rfl rfl rfl ?_
    refine rOk (d := 48) (x := vB (!decide (z.2.2 = []))) rfl rfl (okBo (congrArg (!·) (eq_tL z.2.2 ([])))) ?_
    refine rEnd (n' := 14) rfl ?_
    refine cCond (v := !decide (z.2.2 = [])) rfl (fun h3 => ?_) (fun h3 => ?_)
    · skip
      refine cSeq ?_
      refine cReg rfl ?_
      refine rOk (d := 49) (x := .agg [vI 0, vI 0, vI 0, vI 0, vI 0, vI 0, vI 0, vI 0, .sl 0 ([]) true, vB false, .sl 0 ([]) true, .sl 0 ([]) true, .v (.string (⟨#[]⟩ : ByteArray)), vI 0]) rfl rfl rfl ?_
      refine rFx0 (h' := upd _ 0 (some (.box [vI 0, vI 0, vI 0, vI 0, vI 0, vI 0, vI 0, vI 0, .sl 0 ([]) true, vB false, .sl 0 ([]) true, .sl 0 ([]) true, .v (.string (⟨#[]⟩ : ByteArray)), vI 0]))) rfl rfl (rfl) (trivial) ?_
      refine rOk (d := 3) (x := vI 250) rfl rfl rfl ?_
      refine rOk (d := 4) (x := vI 15) rfl rfl rfl ?_
      refine rEnd (n' := 18) rfl ?_
      refine cRet ?_
      have hk14 : z.1 = 14 := by have := of_decide_eq_false h1; omega
      rw [hk14] at hgo
      refine finTA rfl (by repeat' (first | exact trivial | constructor)) rfl ?_
      rw [parse_rest hgo (by simpa using h3)]; rfl
    · skip
      refine cSkip ?_
      refine cSeq ?_
      refine cReg rfl ?_
      refine rOk (d := 50) (x := .agg [vI z.2.1.mode, vI z.2.1.width, vI z.2.1.rob, vI z.2.1.queue, vI z.2.1.stores, vI z.2.1.slots, vI z.2.1.sets, vI z.2.1.ways, .sl 1 (z.2.1.lat.map rowI) (fl 9 z.1 z.2.1.lat), vB z.2.1.tables, .sl 1 (z.2.1.tape.map rowU) (fl 10 z.1 z.2.1.tape), .sl 1 (z.2.1.prog.map rowU) (fl 11 z.1 z.2.1.prog), vS z.2.1.mem, vI z.2.1.cycles]) rfl rfl rfl ?_
      refine rFx0 (h' := upd _ 0 (some (.box [vI z.2.1.mode, vI z.2.1.width, vI z.2.1.rob, vI z.2.1.queue, vI z.2.1.stores, vI z.2.1.slots, vI z.2.1.sets, vI z.2.1.ways, .sl 1 (z.2.1.lat.map rowI) (fl 9 z.1 z.2.1.lat), vB z.2.1.tables, .sl 1 (z.2.1.tape.map rowU) (fl 10 z.1 z.2.1.tape), .sl 1 (z.2.1.prog.map rowU) (fl 11 z.1 z.2.1.prog), vS z.2.1.mem, vI z.2.1.cycles]))) rfl rfl (rfl) (trivial) ?_
      refine rOk (d := 3) (x := vI 0) rfl rfl rfl ?_
      refine rOk (d := 4) (x := vI 0) rfl rfl rfl ?_
      refine rEnd (n' := 18) rfl ?_
      refine cRet ?_
      have hk14 : z.1 = 14 := by have := of_decide_eq_false h1; omega
      rw [hk14] at hgo
      have hr : z.2.2 = [] := by simpa using h3
      rw [hr] at hgo
      refine finTA rfl (by repeat' (first | exact trivial | constructor)) rfl ?_
      rw [parse_end hgo]; show AV.tup [.agg (planL z.2.1 (fl 9 z.1 _) (fl 10 z.1 _) (fl 11 z.1 _)), vI 0, vI 0] = _; rw [hk14]; rfl
end Go.Proofs.YtpefnjbmbfdmmaaDoor
