/- Joined texts. -/
import Derived.Test.YtpefnjbmbfdmmaaDoorS10
namespace Go.Proofs.YtpefnjbmbfdmmaaDoor
open Go.RowKit Go.Lib
theorem hRead (hB : HexIx) (p : ScPlan) (t : List W) (ck : Bool) (k : Nat) (hk : k < 14) (ht : t.length ≤ 900000) (hw : ∀ x ∈ t, x.length ≤ 900000) :
    HSem C0.P C0.G 24 [.ptr 0 0, vN k, .sl 1 (t.map rowS) ck] (heapF [(0, .box (planF p k))]) 1 (ReadP p t k) := by
  rcases k with _ | _ | _ | _ | _ | _ | _ | _ | _ | _ | _ | _ | _ | _ | k
  · exact hRead_0 hB p t ck ht hw
  · exact hRead_1 hB p t ck ht hw
  · exact hRead_2 hB p t ck ht hw
  · exact hRead_3 hB p t ck ht hw
  · exact hRead_4 hB p t ck ht hw
  · exact hRead_5 hB p t ck ht hw
  · exact hRead_6 hB p t ck ht hw
  · exact hRead_7 hB p t ck ht hw
  · exact hRead_8 hB p t ck ht hw
  · exact hRead_9 hB p t ck ht hw
  · exact hRead_10 hB p t ck ht hw
  · exact hRead_11 hB p t ck ht hw
  · exact hRead_12 hB p t ck ht hw
  · exact hRead_13 hB p t ck ht hw
  exact absurd hk (by omega)
def ReadK (p : ScPlan) (t : List W) (k n : Nat) (K : AH) (x : AV) (h' : AH) : Prop :=
  (∃ q, readM p t k = some q ∧ x = vB true ∧ h' = upd K n (some (.box (planF q (k + 1))))) ∨ (readM p t k = none ∧ x = vB false ∧ ∃ q a b c, h' = upd K n (some (.box (planL q a b c))))
theorem readAt (hB : HexIx) {p : ScPlan} {t : List W} {ck : Bool} {k n : Nat} {K : AH} {s2 : Nat} (hk : k < 14) (ht : t.length ≤ 900000) (hw : ∀ x ∈ t, x.length ≤ 900000) (hb : Nat.blt n s2 = true) (hK : K n = some (.box (planF p k))) :
    HSem C0.P C0.G 24 [.ptr n 0, vN k, .sl 1 (t.map rowS) ck] K s2 (ReadK p t k n K) := by
  refine (hRead hB p t ck k hk ht hw).frame (fun _ => n) K s2 rfl (fun x hx => ?_) (fun x blk0 hx => ?_) (fun x y hx hy _ => by omega) rfl _ fun r' h' hP => ?_
  · cases x with
    | zero => omega
    | succ x => exact absurd rfl hx
  · cases x with
    | zero => injection hx with hx; subst hx; exact ⟨Nat.le_of_ble_eq_true hb, rfl, hK⟩
    | succ x => cases hx
  · have key : ∀ q a b c, h' = heapF [(0, .box (planL q a b c))] → ∀ y blk, upd K n (some (.box (planL q a b c))) y = some blk → (∃ x blk0, h' x = some blk0 ∧ y = newN (fun _ => n) 1 s2 x ∧ blk = mapB (newN (fun _ => n) 1 s2) blk0) ∨ (K y = some blk ∧ ∀ x, x < 1 → (fun _ => n) x ≠ y) := by
      intro q a b c hh y blk0 hy
      by_cases he : y = n
      · subst he
        rw [upd_same] at hy; injection hy with hy
        exact .inl ⟨0, .box (planL q a b c), by rw [hh]; rfl, rfl, by rw [← hy]; rfl⟩
      · rw [upd_other _ _ he] at hy
        exact .inr ⟨hy, fun x _ q => he q.symm⟩
    rcases hP with ⟨q, h1, rfl, h2⟩ | ⟨h1, rfl, q, a, b, c, h2⟩
    · exact ⟨_, .inl ⟨q, h1, rfl, rfl⟩, key _ _ _ _ h2⟩
    · exact ⟨_, .inr ⟨h1, rfl, q, a, b, c, rfl⟩, key _ _ _ _ h2⟩
theorem parts_len {α : Type} {rd : W → Option α} : ∀ {t : List W} {l : List α}, partsL rd t = some l → l.length = t.length
  | [], l, h => by injection h with h; subst h; rfl
  | w :: t, l, h => by
    unfold partsL at h
    split at h
    · cases h
    · obtain ⟨m, hm, rfl⟩ := Option.map_eq_some_iff.1 h
      rw [List.length_cons, List.length_cons, parts_len hm]
theorem parts_mem {α : Type} {rd : W → Option α} : ∀ {t : List W} {l : List α}, partsL rd t = some l → ∀ a ∈ l, ∃ w, rd w = some a
  | [], l, h, a, ha => by injection h with h; subst h; exact absurd ha List.not_mem_nil
  | w :: t, l, h, a, ha => by
    unfold partsL at h
    split at h
    · cases h
    · rename_i x hx
      obtain ⟨m, hm, rfl⟩ := Option.map_eq_some_iff.1 h
      rcases List.mem_cons.1 ha with e | e
      · exact ⟨w, e ▸ hx⟩
      · exact parts_mem hm a e
theorem readC_lt {w : W} {a : Nat} (h : readC w = some a) : a ≤ 4294967295 := by have := readC_le w; rw [h] at this; exact this
theorem pair_len {w b : W} (h : pairL w = some b) : b.length ≤ w.length := by
  have e := congrArg List.length (pair_of w b h)
  have : (hexL b).length = 2 * b.length := by
    unfold hexL
    clear e h
    induction b with
    | nil => rfl
    | cons x b ih => rw [List.flatMap_cons, List.length_append, ih]; show 2 + _ = 2 * (b.length + 1); omega
  omega
theorem oneL_some {α : Type} {rd : W → Option α} {t : List W} {a : α} (h : oneL rd t = some a) : ∃ w ∈ t, rd w = some a := by
  match t, h with
  | [w], h => exact ⟨w, List.mem_cons_self, h⟩
theorem readM_ok {p q : ScPlan} (hp : p.ok) {t : List W} (ht : t.length ≤ 900000) (hw : ∀ x ∈ t, x.length ≤ 900000) {k : Nat} (h : readM p t k = some q) : q.ok := by
  rcases k with _ | _ | _ | _ | _ | _ | _ | _ | _ | _ | _ | _ | _ | _ | k
  all_goals first
    | (obtain ⟨v, hv, rfl⟩ := Option.map_eq_some_iff.1 h; exact ⟨hp.lat, hp.tape, hp.tp, hp.prog, hp.pr, hp.mem⟩)
    | (obtain ⟨v, hv, rfl⟩ := Option.map_eq_some_iff.1 h; exact ⟨by show v.length ≤ _; rw [parts_len hv]; exact ht, hp.tape, hp.tp, hp.prog, hp.pr, hp.mem⟩)
    | (obtain ⟨v, hv, rfl⟩ := Option.map_eq_some_iff.1 h; exact ⟨hp.lat, by show v.length ≤ _; rw [parts_len hv]; exact ht, fun a ha => (parts_mem hv a ha).elim fun _ q => readC_lt q, hp.prog, hp.pr, hp.mem⟩)
    | (obtain ⟨v, hv, rfl⟩ := Option.map_eq_some_iff.1 h; exact ⟨hp.lat, hp.tape, hp.tp, by show v.length ≤ _; rw [parts_len hv]; exact ht, fun a ha => (parts_mem hv a ha).elim fun _ q => readC_lt q, hp.mem⟩)
    | (obtain ⟨v, hv, rfl⟩ := Option.map_eq_some_iff.1 h; obtain ⟨w, h1, h2⟩ := oneL_some hv; exact ⟨hp.lat, hp.tape, hp.tp, hp.prog, hp.pr, Nat.le_trans (pair_len h2) (hw w h1)⟩)
    | cases h
def LineP (p : ScPlan) (r : W) (k : Nat) (x : AV) (h' : AH) : Prop :=
  (∃ q, ((cutL 10 r).2.2 = true ∧ stepM okM p k (cutL 10 r).1 = some q ∧ q.ok) ∧ x = vB true ∧ h' = heapF [(0, .box (planF q (k + 1))), (1, .box [vS (cutL 10 r).2.1])]) ∨
  (((cutL 10 r).2.2 = false ∨ stepM okM p k (cutL 10 r).1 = none) ∧ x = vB false ∧ ∃ q a b c, h' = heapF [(0, .box (planL q a b c)), (1, .box [vS (cutL 10 r).2.1])])
theorem stepM_name {p : ScPlan} {k : Nat} {line : W} (h : ¬ (splitL 32 line).headD [] = nameL k) : stepM okM p k line = none := by unfold stepM; rw [if_neg h]
theorem stepM_read {p : ScPlan} {k : Nat} {line w0 : W} {t : List W} (hs : splitL 32 line = w0 :: t) (h : readM p t k = none) : stepM okM p k line = none := by
  unfold stepM; rw [hs]
  show (if w0 = nameL k then (readM p t k).bind _ else none) = none
  rw [h]; split <;> rfl
theorem stepM_right {p q : ScPlan} {k : Nat} {line w0 : W} {t : List W} (hs : splitL 32 line = w0 :: t) (hn : w0 = nameL k) (h : readM p t k = some q) (hq : q.ok) : stepM okM p k line = if rightP q = true then some q else none := by
  by_cases hr : rightP q = true
  · rw [if_pos hr]; exact stepM_iff.2 ⟨by rw [hs]; exact hn, by rw [hs]; exact h, (rightP_iff hq).1 hr⟩
  · rw [if_neg hr]
    cases hz : stepM okM p k line with
    | none => rfl
    | some z =>
      exfalso
      obtain ⟨_, b, c⟩ := stepM_iff.1 hz
      rw [hs] at b
      have e : readM p t k = some z := b
      rw [h] at e; injection e with e; subst e
      exact hr ((rightP_iff hq).2 c)
structure LibS : Prop where
  ix : HexIx
  cut : ∀ s : W, s.length ≤ 900000 → DCall C0 21 [vS s, .v (.string ⟨#[10]⟩)] (tupS (cutL 10 s))
  split : ∀ s : W, s.length ≤ 900000 → DCall C0 22 [vS s, .v (.string ⟨#[32]⟩)] (.sl 1 ((splitL 32 s).map rowS) false)
  itoa : ∀ n : Int, 0 ≤ n → n ≤ 600 → DCall C0 54 [vI n] (vS (itoa n))
set_option maxRecDepth 100000 in
set_option maxHeartbeats 4000000 in
theorem hLine_0 (L : LibS) (p : ScPlan) (r : W) (k : Nat) (hk : k < 14) (hp : p.ok) (hr : r.length ≤ 100000) (hE : (cutL 10 r).2.2 = false)  : HSem C0.P C0.G 20 [vN k, .ptr 1 0, .ptr 0 0] (heapF [(0, .box (planF p k)), (1, .box [vS r])]) 2 (LineP p r k) := by
  refine HCall.intro (C := C0) (s := 2) c0Ok.at Tryd.func20 rfl rfl (by kernel_rfl) rfl rfl ?_
  refine cSeq ?_
  refine cReg rfl ?_
  refine rOk (d := 4) (x := vB false) rfl rfl rfl ?_
  refine rEnd (n' := 3) rfl ?_
  refine cSeq ?_
  refine cReg rfl ?_
  refine rOk (d := 10) (x := vS r) rfl rfl rfl ?_
  refine rCall (args := [vS r, .v (.string (⟨#[10]⟩ : ByteArray))]) (d := 11) (x := .tup [vS ((cutL 10 r).1), vS ((cutL 10 r).2.1), vB false]) rfl rfl rfl rfl (.inl rfl) rfl ((show AV.tup [vS (cutL 10 r).1, vS (cutL 10 r).2.1, vB (cutL 10 r).2.2] = .tup [vS (cutL 10 r).1, vS (cutL 10 r).2.1, vB false] from by rw [hE]) ▸ L.cut r (by omega)) ?_
  refine rOk (d := 9) (x := .tup [vS ((cutL 10 r).1), vS ((cutL 10 r).2.1), vB false]) rfl rfl rfl ?_
  refine rOk (d := 12) (x := vS ((cutL 10 r).1)) rfl rfl rfl ?_
  refine rOk (d := 13) (x := vS ((cutL 10 r).2.1)) rfl rfl rfl ?_
  refine rOk (d := 14) (x := vB false) rfl rfl rfl ?_
  refine rOk (d := 5) (x := vS ((cutL 10 r).1)) rfl rfl rfl ?_
  refine rOk (d := 6) (x := vS ((cutL 10 r).2.1)) rfl rfl rfl ?_
  refine rOk (d := 7) (x := vB false) rfl rfl rfl ?_
  refine rEnd (n' := 12) rfl ?_
  refine cSeq ?_
  refine cReg rfl ?_
  refine rOk (d := 15) (x := vS ((cutL 10 r).2.1)) rfl rfl rfl ?_
  refine rFx0 (h' := upd _ 1 (some (.box [vS ((cutL 10 r).2.1)]))) rfl rfl (rfl) (trivial) ?_
  refine rEnd (n' := 14) rfl ?_
  refine cSeq ?_
  refine cReg rfl ?_
  refine rOk (d := 16) (x := vS ((cutL 10 r).1)) rfl rfl rfl ?_
  obtain ⟨w0, t, hwt⟩ := split_cons 32 (cutL 10 r).1
  have hcl := cut_le 10 r
  have hsl := split_len 32 (cutL 10 r).1
  have hws := hwt
  rw [hwt] at hsl
  have ht0 : (w0 :: t).length ≤ 900000 := by omega
  have hw0 : ∀ x ∈ w0 :: t, x.length ≤ 900000 := fun x hx => by have := hsl.2 x hx; omega
  have ht : t.length ≤ 900000 := Nat.le_trans (Nat.le_succ _) ht0
  have hw : ∀ x ∈ t, x.length ≤ 900000 := fun x hx => hw0 x (List.mem_cons_of_mem _ hx)
  refine rCall (args := [vS ((cutL 10 r).1), .v (.string (⟨#[32]⟩ : ByteArray))]) (d := 17) (x := .sl 1 ((w0 :: t).map rowS) false) rfl rfl rfl rfl (.inl rfl) rfl (hwt ▸ L.split (cutL 10 r).1 (by omega)) ?_
  refine rOk (d := 8) (x := .sl 1 ((w0 :: t).map rowS) false) rfl rfl rfl ?_
  refine rEnd (n' := 17) rfl ?_
  refine cSeq ?_
  refine cReg rfl ?_
  refine rOk (d := 18) (x := vB false) rfl rfl rfl ?_
  refine rOk (d := 19) (x := vB false) rfl rfl rfl ?_
  refine gOk (d := 20) (x := .sl 1 ((w0 :: t).map rowS) false) (g := false) rfl rfl rfl rfl rfl rfl ?_
  refine gIdxS (rowS w0) (d := 21) (x := .dp 1 0 (rowS w0)) (g := false) rfl rfl rfl rfl (fun h => h) rfl rfl (fun hg => ⟨by decide, getM (l := w0 :: t) (k := 0) rfl⟩) rfl ?_
  refine gOkS (d := 22) (x := vS w0) (g := false) rfl rfl rfl rfl (fun h => h) rfl rfl ?_
  refine gOk (d := 23) (x := vN k) (g := false) rfl rfl rfl rfl rfl rfl ?_
  refine gCallS (args := [vN k]) (d := 24) (x := vS (nameL k)) (g := false) rfl rfl rfl rfl (fun h => h) rfl rfl rfl (.inl rfl) rfl (fun hg => Bool.noConfusion hg) ?_
  refine gOkS (d := 25) (x := vB (decide (w0 = nameL k))) (g := false) rfl rfl rfl rfl (fun h => by first | (simp_all; done) | exact (Bool.and_eq_true_iff.1 h).1 | exact Bool.and_eq_true_iff.2 ⟨h, h⟩) rfl (okBo (eq_tL w0 (nameL k))) ?_
  refine rNeed (d := 26) (x := vB (cond2 false (decide (w0 = nameL k)) false)) rfl rfl rfl (fun h => h) ?_
  refine rOk (d := 27) (x := vB (cond2 false (decide (w0 = nameL k)) false)) rfl rfl rfl ?_
  refine gOk (d := 28) (x := vN k) (g := cond2 false (decide (w0 = nameL k)) false) rfl rfl rfl rfl rfl rfl ?_
  refine gOk (d := 29) (x := .sl 1 ((w0 :: t).map rowS) false) (g := cond2 false (decide (w0 = nameL k)) false) rfl rfl rfl rfl rfl rfl ?_
  refine gNeedS (d := 30) (x := .sl 1 (t.map rowS) (false && true)) (g := cond2 false (decide (w0 = nameL k)) false) rfl rfl rfl rfl (fun h => h) rfl (needS (sliceL rowS (w0 :: t) 1)) (fun hg => Bool.noConfusion hg) ?_
  refine gCallS (args := [.ptr 0 0, vN k, .sl 1 (t.map rowS) (false && true)]) (d := 31) (x := vB false) (g := cond2 false (decide (w0 = nameL k)) false) rfl rfl rfl rfl (fun h => by first | (simp_all; done) | exact (Bool.and_eq_true_iff.1 h).1 | exact Bool.and_eq_true_iff.2 ⟨h, h⟩) rfl rfl rfl (.inr ⟨rfl, (by repeat' (first | exact trivial | constructor))⟩) rfl (fun hg => Bool.noConfusion hg) ?_
  refine rNeed (d := 32) (x := vB (cond2 (cond2 false (decide (w0 = nameL k)) false) false false)) rfl rfl rfl (fun h => h) ?_
  refine rOk (d := 33) (x := vB (cond2 (cond2 false (decide (w0 = nameL k)) false) false false)) rfl rfl rfl ?_
  refine gOk (d := 34) (x := .agg [vI p.mode, vI p.width, vI p.rob, vI p.queue, vI p.stores, vI p.slots, vI p.sets, vI p.ways, .sl 1 (p.lat.map rowI) (fl 9 k p.lat), vB p.tables, .sl 1 (p.tape.map rowU) (fl 10 k p.tape), .sl 1 (p.prog.map rowU) (fl 11 k p.prog), vS p.mem, vI p.cycles]) (g := cond2 (cond2 false (decide (w0 = nameL k)) false) false false) rfl rfl rfl rfl rfl rfl ?_
  refine gCallS (args := [.agg [vI p.mode, vI p.width, vI p.rob, vI p.queue, vI p.stores, vI p.slots, vI p.sets, vI p.ways, .sl 1 (p.lat.map rowI) (fl 9 k p.lat), vB p.tables, .sl 1 (p.tape.map rowU) (fl 10 k p.tape), .sl 1 (p.prog.map rowU) (fl 11 k p.prog), vS p.mem, vI p.cycles]]) (d := 35) (x := vB false) (g := cond2 (cond2 false (decide (w0 = nameL k)) false) false false) rfl rfl rfl rfl (fun h => h) rfl rfl rfl (.inl rfl) rfl (fun hg => Bool.noConfusion hg) ?_
  refine rNeed (d := 36) (x := vB (cond2 (cond2 (cond2 false (decide (w0 = nameL k)) false) false false) false false)) rfl rfl rfl (fun h => h) ?_
  refine rOk (d := 4) (x := vB (cond2 (cond2 (cond2 false (decide (w0 = nameL k)) false) false false) false false)) rfl rfl rfl ?_
  refine rEnd (n' := 37) rfl ?_
  refine cRet ?_
  exact finH (rs := [vB false]) rfl (r := vB false) (h' := heapF [(0, .box (planL p (fl 9 k p.lat) (fl 10 k p.tape) (fl 11 k p.prog))), (1, .box [vS (cutL 10 r).2.1])]) (σ := fun z => z) (.inr ⟨.inl hE, rfl, _, _, _, _, rfl⟩) rfl (weak_ret (fun z => z) rfl rfl ⟨⟨rfl, rfl, rfl⟩, ⟨rfl, rfl, rfl⟩, trivial⟩ rfl)
set_option maxRecDepth 100000 in
set_option maxHeartbeats 4000000 in
theorem hLine_1 (L : LibS) (p : ScPlan) (r : W) (k : Nat) (hk : k < 14) (hp : p.ok) (hr : r.length ≤ 100000) (hE : (cutL 10 r).2.2 = true) (hN : ¬ (splitL 32 (cutL 10 r).1).headD [] = nameL k)  : HSem C0.P C0.G 20 [vN k, .ptr 1 0, .ptr 0 0] (heapF [(0, .box (planF p k)), (1, .box [vS r])]) 2 (LineP p r k) := by
  refine HCall.intro (C := C0) (s := 2) c0Ok.at Tryd.func20 rfl rfl (by kernel_rfl) rfl rfl ?_
  refine cSeq ?_
  refine cReg rfl ?_
  refine rOk (d := 4) (x := vB false) rfl rfl rfl ?_
  refine rEnd (n' := 3) rfl ?_
  refine cSeq ?_
  refine cReg rfl ?_
  refine rOk (d := 10) (x := vS r) rfl rfl rfl ?_
  refine rCall (args := [vS r, .v (.string (⟨#[10]⟩ : ByteArray))]) (d := 11) (x := .tup [vS ((cutL 10 r).1), vS ((cutL 10 r).2.1), vB true]) rfl rfl rfl rfl (.inl rfl) rfl ((show AV.tup [vS (cutL 10 r).1, vS (cutL 10 r).2.1, vB (cutL 10 r).2.2] = .tup [vS (cutL 10 r).1, vS (cutL 10 r).2.1, vB true] from by rw [hE]) ▸ L.cut r (by omega)) ?_
  refine rOk (d := 9) (x := .tup [vS ((cutL 10 r).1), vS ((cutL 10 r).2.1), vB true]) rfl rfl rfl ?_
  refine rOk (d := 12) (x := vS ((cutL 10 r).1)) rfl rfl rfl ?_
  refine rOk (d := 13) (x := vS ((cutL 10 r).2.1)) rfl rfl rfl ?_
  refine rOk (d := 14) (x := vB true) rfl rfl rfl ?_
  refine rOk (d := 5) (x := vS ((cutL 10 r).1)) rfl rfl rfl ?_
  refine rOk (d := 6) (x := vS ((cutL 10 r).2.1)) rfl rfl rfl ?_
  refine rOk (d := 7) (x := vB true) rfl rfl rfl ?_
  refine rEnd (n' := 12) rfl ?_
  refine cSeq ?_
  refine cReg rfl ?_
  refine rOk (d := 15) (x := vS ((cutL 10 r).2.1)) rfl rfl rfl ?_
  refine rFx0 (h' := upd _ 1 (some (.box [vS ((cutL 10 r).2.1)]))) rfl rfl (rfl) (trivial) ?_
  refine rEnd (n' := 14) rfl ?_
  refine cSeq ?_
  refine cReg rfl ?_
  refine rOk (d := 16) (x := vS ((cutL 10 r).1)) rfl rfl rfl ?_
  obtain ⟨w0, t, hwt⟩ := split_cons 32 (cutL 10 r).1
  have hcl := cut_le 10 r
  have hsl := split_len 32 (cutL 10 r).1
  have hws := hwt
  rw [hwt] at hsl
  have ht0 : (w0 :: t).length ≤ 900000 := by omega
  have hw0 : ∀ x ∈ w0 :: t, x.length ≤ 900000 := fun x hx => by have := hsl.2 x hx; omega
  have ht : t.length ≤ 900000 := Nat.le_trans (Nat.le_succ _) ht0
  have hw : ∀ x ∈ t, x.length ≤ 900000 := fun x hx => hw0 x (List.mem_cons_of_mem _ hx)
  have hN2 : ¬ w0 = nameL k := by rw [hwt] at hN; exact hN
  refine rCall (args := [vS ((cutL 10 r).1), .v (.string (⟨#[32]⟩ : ByteArray))]) (d := 17) (x := .sl 1 ((w0 :: t).map rowS) false) rfl rfl rfl rfl (.inl rfl) rfl (hwt ▸ L.split (cutL 10 r).1 (by omega)) ?_
  refine rOk (d := 8) (x := .sl 1 ((w0 :: t).map rowS) false) rfl rfl rfl ?_
  refine rEnd (n' := 17) rfl ?_
  refine cSeq ?_
  refine cReg rfl ?_
  refine rOk (d := 18) (x := vB true) rfl rfl rfl ?_
  refine rOk (d := 19) (x := vB true) rfl rfl rfl ?_
  refine gOk (d := 20) (x := .sl 1 ((w0 :: t).map rowS) false) (g := true) rfl rfl rfl rfl rfl rfl ?_
  refine gIdxS (rowS w0) (d := 21) (x := .dp 1 0 (rowS w0)) (g := true) rfl rfl rfl rfl (fun h => h) rfl rfl (fun hg => ⟨by decide, getM (l := w0 :: t) (k := 0) rfl⟩) rfl ?_
  refine gOkS (d := 22) (x := vS w0) (g := true) rfl rfl rfl rfl (fun h => h) rfl rfl ?_
  refine gOk (d := 23) (x := vN k) (g := true) rfl rfl rfl rfl rfl rfl ?_
  refine gCallS (args := [vN k]) (d := 24) (x := vS (nameL k)) (g := true) rfl rfl rfl rfl (fun h => h) rfl rfl rfl (.inl rfl) rfl (fun hg => dName k hk) ?_
  refine gOkS (d := 25) (x := vB false) (g := true) rfl rfl rfl rfl (fun h => by first | (simp_all; done) | exact (Bool.and_eq_true_iff.1 h).1 | exact Bool.and_eq_true_iff.2 ⟨h, h⟩) rfl (okBo ((eq_tL w0 (nameL k)).trans (decide_eq_false hN2))) ?_
  refine rNeed (d := 26) (x := vB (cond2 true false false)) rfl rfl rfl (fun h => h) ?_
  refine rOk (d := 27) (x := vB (cond2 true false false)) rfl rfl rfl ?_
  refine gOk (d := 28) (x := vN k) (g := cond2 true false false) rfl rfl rfl rfl rfl rfl ?_
  refine gOk (d := 29) (x := .sl 1 ((w0 :: t).map rowS) false) (g := cond2 true false false) rfl rfl rfl rfl rfl rfl ?_
  refine gNeedS (d := 30) (x := .sl 1 (t.map rowS) (false && true)) (g := cond2 true false false) rfl rfl rfl rfl (fun h => h) rfl (needS (sliceL rowS (w0 :: t) 1)) (fun hg => Bool.noConfusion hg) ?_
  refine gCallS (args := [.ptr 0 0, vN k, .sl 1 (t.map rowS) (false && true)]) (d := 31) (x := vB false) (g := cond2 true false false) rfl rfl rfl rfl (fun h => by first | (simp_all; done) | exact (Bool.and_eq_true_iff.1 h).1 | exact Bool.and_eq_true_iff.2 ⟨h, h⟩) rfl rfl rfl (.inr ⟨rfl, (by repeat' (first | exact trivial | constructor))⟩) rfl (fun hg => Bool.noConfusion hg) ?_
  refine rNeed (d := 32) (x := vB (cond2 (cond2 true false false) false false)) rfl rfl rfl (fun h => h) ?_
  refine rOk (d := 33) (x := vB (cond2 (cond2 true false false) false false)) rfl rfl rfl ?_
  refine gOk (d := 34) (x := .agg [vI p.mode, vI p.width, vI p.rob, vI p.queue, vI p.stores, vI p.slots, vI p.sets, vI p.ways, .sl 1 (p.lat.map rowI) (fl 9 k p.lat), vB p.tables, .sl 1 (p.tape.map rowU) (fl 10 k p.tape), .sl 1 (p.prog.map rowU) (fl 11 k p.prog), vS p.mem, vI p.cycles]) (g := cond2 (cond2 true false false) false false) rfl rfl rfl rfl rfl rfl ?_
  refine gCallS (args := [.agg [vI p.mode, vI p.width, vI p.rob, vI p.queue, vI p.stores, vI p.slots, vI p.sets, vI p.ways, .sl 1 (p.lat.map rowI) (fl 9 k p.lat), vB p.tables, .sl 1 (p.tape.map rowU) (fl 10 k p.tape), .sl 1 (p.prog.map rowU) (fl 11 k p.prog), vS p.mem, vI p.cycles]]) (d := 35) (x := vB false) (g := cond2 (cond2 true false false) false false) rfl rfl rfl rfl (fun h => h) rfl rfl rfl (.inl rfl) rfl (fun hg => Bool.noConfusion hg) ?_
  refine rNeed (d := 36) (x := vB (cond2 (cond2 (cond2 true false false) false false) false false)) rfl rfl rfl (fun h => h) ?_
  refine rOk (d := 4) (x := vB (cond2 (cond2 (cond2 true false false) false false) false false)) rfl rfl rfl ?_
  refine rEnd (n' := 37) rfl ?_
  refine cRet ?_
  exact finH (rs := [vB false]) rfl (r := vB false) (h' := heapF [(0, .box (planL p (fl 9 k p.lat) (fl 10 k p.tape) (fl 11 k p.prog))), (1, .box [vS (cutL 10 r).2.1])]) (σ := fun z => z) (.inr ⟨.inr (stepM_name hN), rfl, _, _, _, _, rfl⟩) rfl (weak_ret (fun z => z) rfl rfl ⟨⟨rfl, rfl, rfl⟩, ⟨rfl, rfl, rfl⟩, trivial⟩ rfl)
end Go.Proofs.YtpefnjbmbfdmmaaDoor
