/- The second machine and the model: memory that is given up, and calls that give memory of the call's own, at the top of a function's body. -/
import Derived.Test.YtahnhhbgkmlfcaaDoorAbsC
namespace Go.Proofs.YtahnhhbgkmlfcaaDoor
open Go.RowKit

/-- What a function comes to that returns a value and a slice of new memory. -/
def OCall (C : Ctx) (f : FuncId) (args : List AV) (c : AV) (rs : Nat) (rows : List (List AV)) : Prop :=
  (∃ fn, C.P.funcs[f]? = some fn ∧ fn.body.isSome = true ∧ (fn.name == "runtime.NumGoroutine") = false) ∧
  ∀ (S : Nat → Prop) (w : World) (vs : List Value), (∀ b, S b → b < w.heap.size) → GOk C S w → RepL S w noB args vs →
    Calls C.P f vs.toArray w fun e w' => ∃ v1 v2 S' l, e = .returned (.tuple #[v1, v2]) ∧ Below w.heap.size w w' ∧ Rep S' w' noB c v1 ∧ Rep S' w' (fun _ => some l) (.osl 0 0 rows.length false) v2 ∧
      SimH w.heap.size S' w' (fun _ => some l) (upd (fun _ => none) 0 (some (.arr rows rs))) ∧ (∀ b, S b → S' b) ∧ (∀ b, S' b → S b ∨ w.heap.size ≤ b)

/-- The memory of the call's own is given up: one slice of it stays, as known data. -/
inductive Frz (st : ASt) (K : ASt → Prop) : Prop
  | mk (i : Nat) (x : AV) (hx : datA st.h (st.t i) = x) (hl : lenOkA st.h (st.t i)) (k : K ⟨upd st.t i x, fun _ => none, st.n⟩)

/-- A call that gives new memory. -/
inductive OwnK (C : Ctx) (all : List Oper) (k : Nat) (K : ASt → Prop) (st : ASt) : Prop
  | mk (o : Oper) (d : Nat) (f : FuncId) (args : List AV) (c : AV) (rs : Nat) (rows : List (List AV)) (ho : all[k]? = some o) (hg : o.guard = none) (hd : o.dst = some d) (hop : opA C (evA C st.t) st.h st.n o.op = .call f args) (hcl : closedL args = true) (hno : noOwnL args = true)
      (hc : OCall C f args c rs rows)
      (hk : regA C (DCall C) all (all.drop (k + 1)) 0 ⟨upd st.t d (.tup [c, .osl st.n 0 rows.length false]), upd st.h st.n (some (.arr rows rs)), st.n + 1⟩ K)
def regN (C : Ctx) (all : List Oper) (k : Nat) (st : ASt) (K : ASt → Prop) : Prop := regA C (DCall C) all (all.take k) 0 st (OwnK C all k K)

inductive StepN (C : Ctx) (a : Code) (st : ASt) (Q : AEx → ASt → Prop) : Prop
  | plain (h : codeA C (DCall C) a st Q)
  | frz (h : codeA C (DCall C) a st (fun e st' => match e with | .normal => Frz st' (Q .normal) | e => Q e st'))
  | own (id : Nat) (ops : Array Oper) (k : Nat) (ha : a = .region id ops false) (hk : k < ops.size) (h : regN C ops.toList k st (Q .normal))
def codeN (C : Ctx) : Nat → Code → ASt → (AEx → ASt → Prop) → Prop
  | 0, c, st, Q => codeA C (DCall C) c st Q
  | k + 1, .seq a b, st, Q => StepN C a st (fun e st' => match e with | .normal => codeN C k b st' Q | e => Q e st')
  | _ + 1, _, _, _ => False

section
variable {C : Ctx} {N : Nat} {w0 : World} {S0 : Nat → Prop}

theorem frz_sound {st : ASt} {K : ASt → Prop} (hf : Frz st K) {a : Act} {w : World} {S : Nat → Prop} {β : Bt} (M : SimD C w0 S0 N (· < st.n) st.t st.h a w S β) : ∃ st' S', K st' ∧ SimD C w0 S0 N (· < st'.n) st'.t st'.h a w S' β := by
  obtain ⟨i, x, hx, hl, k⟩ := hf
  refine ⟨_, fun b => S b ∨ (w0.heap.size ≤ b ∧ b < w.heap.size), k, fun j => ?_, ⟨fun s blk h => (by cases h), fun s s' l l' h => absurd rfl h, fun b hb => hb.elim (M.H.lt b) (·.2), M.H.big⟩, M.B, M.dom, M.df, M.sz, fun g cells hg => (M.G g cells hg).mono (fun _ h => .inl h) (Evo.refl _ _) (BtLe.refl _), fun b hb => hb.elim (M.nw b) fun h => .inr h.1⟩
  by_cases hj : j = i
  · subst hj
    show Rep _ w β (upd st.t j x j) _
    rw [upd_same, ← hx]
    exact datA_rep M.H (M.T j) hl
  · show Rep _ w β (upd st.t i x j) _
    rw [upd_other _ _ hj]
    exact (M.T j).mono (fun _ h => .inl h) (Evo.refl _ _) (BtLe.refl _)

/-- A call that gives new memory, in the midst of a walk. -/
theorem own_sound (hC : CtxOk C) {o : Oper} {d : Nat} {f : FuncId} {args : List AV} {c : AV} {rs : Nat} {rows : List (List AV)} {t : Nat → AV} {h : AH} {n : Nat} {a : Act} {w : World} {S : Nat → Prop} {β : Bt} (M : SimD C w0 S0 N (· < n) t h a w S β) (hd : o.dst = some d) (hdN : d < N)
    (hop : opA C (evA C t) h n o.op = .call f args) (hcl : closedL args = true) (hR : OCall C f args c rs rows) {K : Act → World → Prop} {Q : Exit → Act → World → Prop}
    (hK : ∀ a' w' S' β', SimD C w0 S0 N (· < n + 1) (upd t d (.tup [c, .osl n 0 rows.length false])) (upd h n (some (.arr rows rs))) a' w' S' β' → K a' w') : o.wp C.P a w K Q := by
  have hs : β n = none := by
    cases hq : β n with
    | none => rfl
    | some l => exact absurd (M.dom _ _ hq) (Nat.lt_irrefl n)
  have h1 := op_sound (B := w0.heap.size) hC M.H hs (evA C t) a.eval o (fun x _ => ev_rep M x)
  rw [hop] at h1
  obtain ⟨vs, e1, e2⟩ := h1
  obtain ⟨⟨fn, g1, g2, g3⟩, hcall⟩ := hR
  unfold Oper.wp
  have g : (callFunc f vs.toArray).run C.P w = .ok (.enter f vs.toArray) w := by
    simp only [callFunc, Sem.run_bind, program, Sem.run, Result.andThen_ok, g1]
    have : fn.body.isNone = false := by cases hb : fn.body <;> simp_all
    simp [g3, this]
  rw [e2, g]
  show Calls C.P f vs.toArray w _
  refine (hcall S w vs M.H.lt M.G ⟨e1.1, fun i y u p q => closed_rep (e1.2 i y u p q) (closedL_get args hcl i y p) _⟩).mono ?_
  rintro e w' ⟨v1, v2, S', l, rfl, hB, r1, r2, H', s1, s2⟩
  have hE : Evo S w w' := Evo.of_kept (fun b hb => hB.block b hb) M.H.lt
  have hle : BtLe β (fun x => if x = n then some l else β x) := fun x l' hx => by
    show (if x = n then some l else β x) = some l'
    rw [if_neg (fun e => by rw [e, hs] at hx; cases hx)]; exact hx
  obtain ⟨l', cs, ee, fr, k1, k2, k3, k4, k5, k6⟩ := H'.own 0 (.arr rows rs) rfl
  obtain rfl : l = l' := Option.some.inj k1
  have hold : ∀ x blk l2, h x = some blk → β x = some l2 → l2.blk < w.heap.size := fun x blk l2 hx hb => by
    obtain ⟨l3, cs3, e3, fr3, q1, q2, _⟩ := M.H.own x blk hx
    rw [hb] at q1; cases q1
    exact lt_of_heap q2
  refine hK (a.put o.dst (.tuple #[v1, v2])) w' S' (fun x => if x = n then some l else β x) ⟨?_, ⟨fun x blk hx => ?_, fun x y lx ly hx hy bx by' he => ?_, H'.lt, Nat.le_trans M.H.big hB.size⟩, M.B.trans (hB.mono M.H.big), fun y ly hy => ?_, ?_, ?_, fun g cells hg => (M.G g cells hg).mono s1 hE (BtLe.refl _), fun b hb => (s2 b hb).elim (M.nw b) fun h => .inr (Nat.le_trans M.H.big h)⟩
  · have := put_get a (d := o.dst) (v := .tuple #[v1, v2]) (x := .tup [c, .osl n 0 rows.length false]) (S' := S') (w' := w') (β' := fun x => if x = n then some l else β x) (t := t) (fun i => (M.T i).mono s1 hE hle) ?_ (fun k hk => by rw [hd] at hk; injection hk with hk; subst hk; rw [M.sz]; exact hdN)
    · rw [hd] at this ⊢; exact this
    · refine .tup _ #[v1, v2] rfl fun i y u p q => ?_
      match i, p, q with
      | 0, p, q => injection p with p; injection q with q; subst p; subst q; exact r1.mono (fun _ h => h) (Evo.refl _ _) (fun s l x => by cases x)
      | 1, p, q =>
        injection p with p; injection q with q; subst p; subst q
        cases r2 with
        | osl _ _ _ _ l2 A c hl hc hm hcl hA cs e fr hb room =>
          exact .osl n 0 rows.length false l2 A c (by show (if n = n then some l else β n) = some l2; rw [if_pos rfl]; exact hl) hc hm hcl hA cs e fr hb room
      | i + 2, p, q => simp at p
  · by_cases hxn : x = n
    · subst hxn
      rw [upd_same] at hx
      injection hx with hx; subst hx
      exact ⟨l, cs, ee, fr, if_pos rfl, k2, k3, Nat.le_trans M.H.big k4, k5, k6⟩
    · rw [upd_other _ _ hxn] at hx
      obtain ⟨l2, cs2, e2, fr2, q1, q2, q3, q4, q5, q6⟩ := M.H.own x blk hx
      have hlt := lt_of_heap q2
      exact ⟨l2, cs2, e2, fr2, hle _ _ q1, (hB.block _ hlt).trans q2, q3, q4, fun hb => (s2 _ hb).elim q5 fun h => by omega, q6.mono s1 hE hle⟩
  · have old : ∀ x lx, upd h n (some (.arr rows rs)) x ≠ none → (if x = n then some l else β x) = some lx → (x = n ∧ lx = l) ∨ (x ≠ n ∧ h x ≠ none ∧ β x = some lx ∧ lx.blk < w.heap.size) := fun x lx hx bx => by
      by_cases hxn : x = n
      · rw [if_pos hxn] at bx; exact .inl ⟨hxn, (Option.some.inj bx).symm⟩
      · rw [if_neg hxn] at bx
        rw [upd_other _ _ hxn] at hx
        cases hq : h x with
        | none => exact absurd hq hx
        | some blk => exact .inr ⟨hxn, by simp, bx, hold x blk lx hq bx⟩
    rcases old x lx hx bx with ⟨hx1, hx2⟩ | ⟨hx1, hx2, hx3, hx4⟩ <;> rcases old y ly hy by' with ⟨hy1, hy2⟩ | ⟨hy1, hy2, hy3, hy4⟩
    · rw [hx1, hy1]
    · rw [hx2] at he; omega
    · rw [hy2] at he; omega
    · exact M.H.inj x y lx ly hx2 hy2 hx3 hy3 he
  · show y < n + 1
    have hy' : (if y = n then some l else β y) = some ly := hy
    by_cases hyn : y = n
    · omega
    · rw [if_neg hyn] at hy'; have : y < n := M.dom y ly hy'; omega
  · rw [hd]; exact M.df
  · rw [hd]; simp only [Act.put, Array.size_setIfInBounds]; exact M.sz

theorem partN_sound (hC : CtxOk C) {all : List Oper} {ops : Array Oper} (hall : ops.toList = all) (hb : slotsOk N all = true) {K : ASt → Prop} {Q : Exit → Act → World → Prop} {n : Nat} (post : List Oper) : ∀ (rest : List Oper) (m j : Nat) (t : Nat → AV) (h : AH) (a : Act) (w : World) (S : Nat → Prop) (β : Bt), all.drop m = rest ++ post → regA C (DCall C) all rest j ⟨t, h, n⟩ K → SimD C w0 S0 N (· < n + j) t h a w S β →
    (∀ st a' w' S' β', K st → SimD C w0 S0 N (· < st.n) st.t st.h a' w' S' β' → wpOps C.P ops Q (List.range' (m + rest.length) post.length) a' w') → wpOps C.P ops Q (List.range' m (rest.length + post.length)) a w
  | [], m, j, t, h, a, w, S, β, _, hr, M, hQ => by
    have := hQ ⟨t, h, n + j⟩ a w S β hr M
    simpa using this
  | o :: rest, m, j, t, h, a, w, S, β, hdrop, hr, M, hQ => by
    obtain ⟨x, h', h1, h2⟩ := step_inv hr
    have hj : all[m]? = some o := by
      have : (all.drop m)[0]? = some o := by rw [hdrop]; rfl
      simpa using this
    have hoj : ops[m]? = some o := by rw [← hj, ← hall, Array.getElem?_toList]
    have hmem : o ∈ all := List.mem_of_getElem? hj
    have hs : β (n + j) = none := by
      cases hq : β (n + j) with
      | none => rfl
      | some l => have := M.dom _ _ hq; omega
    rw [show (o :: rest).length + post.length = (rest.length + post.length) + 1 by simp; omega, List.range'_succ]
    simp only [wpOps, hoj]
    refine step_sound hC M hs hall h1 (slots_lt hb hmem) (fun i pol d _ hd => guard_lt hb i d hd) fun a' w' S' β' M' => ?_
    refine partN_sound hC hall hb post rest (m + 1) (j + 1) _ h' a' w' S' β' ?_ h2 ?_ (fun st a2 w2 S2 β2 k M2 => by
      have := hQ st a2 w2 S2 β2 k M2
      rwa [show m + (o :: rest).length = m + 1 + rest.length by simp; omega] at this)
    · rw [← List.drop_drop, hdrop]; rfl
    · exact ⟨M'.T, M'.H, M'.B, fun y l hy => (M'.dom y l hy).elim (fun (h : y < n + j) => show y < n + (j + 1) by omega) (fun (h : y = n + j) => show y < n + (j + 1) by omega), M'.df, M'.sz, M'.G, M'.nw⟩

theorem regN_sound (hC : CtxOk C) {ops : Array Oper} (hb : slotsOk N ops.toList = true) {k : Nat} (hk : k < ops.size) {st : ASt} {K : ASt → Prop} {Q : Exit → Act → World → Prop} (hr : regN C ops.toList k st K) {a : Act} {w : World} {S : Nat → Prop} {β : Bt} (M : SimD C w0 S0 N (· < st.n) st.t st.h a w S β)
    (hQ : ∀ st a' w' S' β', K st → SimD C w0 S0 N (· < st.n) st.t st.h a' w' S' β' → Q .normal a' w') : wpOps C.P ops Q (List.range ops.size) a w := by
  obtain ⟨t, h, n⟩ := st
  have hlen : (ops.toList.take k).length = k := by rw [List.length_take, Array.length_toList]; omega
  have hpl : (ops.toList.drop k).length = ops.size - k := by rw [List.length_drop, Array.length_toList]
  have h1 := partN_sound (Q := Q) hC rfl hb (ops.toList.drop k) (ops.toList.take k) 0 0 t h a w S β (by simp) hr M (fun st1 a1 w1 S1 β1 hk1 M1 => ?_)
  · rw [hlen, hpl, show k + (ops.size - k) = ops.size by omega, ← List.range_eq_range'] at h1
    exact h1
  · obtain ⟨o, d, f, args, c, rs, rows, ho, hg, hd, hop, hcl, hno, hc, hk2⟩ := hk1
    obtain ⟨t1, h1, n1⟩ := st1
    rw [hlen, hpl, show ops.size - k = (ops.size - (k + 1)) + 1 by omega, List.range'_succ, Nat.zero_add]
    have hoj : ops[k]? = some o := by rw [← Array.getElem?_toList]; exact ho
    simp only [wpOps, hoj]
    have hwant : Region.wanted o (yielded ops a1.tmps) = true := by simp [Region.wanted, hg]
    rw [if_pos hwant]
    refine .inl (own_sound hC M1 hd (slots_lt hb (List.mem_of_getElem? ho) d hd) hop hcl hc fun a2 w2 S2 β2 M2 => ?_)
    have h3 := partN_sound (Q := Q) hC rfl hb [] (ops.toList.drop (k + 1)) (k + 1) 0 _ _ a2 w2 S2 β2 (by simp) hk2 M2 (fun st a' w' S' β' hk' M' => hQ st a' w' S' β' hk' M')
    rw [List.length_drop, Array.length_toList] at h3
    exact h3

theorem stepN_sound (hC : CtxOk C) {c : Code} (hc : codeOk N c = true) {st : ASt} {Q : AEx → ASt → Prop} (hq : StepN C c st Q) {a : Act} {w : World} {S : Nat → Prop} {β : Bt} (M : SimD C w0 S0 N (· < st.n) st.t st.h a w S β) : c.wp C.P (Aft C w0 S0 N Q) a w := by
  cases hq with
  | plain h => exact code_sound hC c hc st Q h a w S β M
  | frz h =>
    refine wp_mono (code_sound hC c hc st _ h a w S β M) ?_
    rintro e a' w' ⟨e', st', S', β', rfl, h1, h2⟩
    cases e' with
    | normal =>
      obtain ⟨st2, S2, k1, k2⟩ := frz_sound h1 h2
      exact ⟨.normal, st2, S2, β', rfl, k1, k2⟩
    | exit i => exact ⟨.exit i, st', S', β', rfl, h1, h2⟩
    | ret => exact ⟨.ret, st', S', β', rfl, h1, h2⟩
  | own id ops k ha hk h =>
    subst ha
    simp only [codeOk, Bool.and_eq_true] at hc
    exact wp_region (regN_sound hC hc.1 hk h M fun st' a' w' S' β' hk' M' => ⟨.normal, st', S', β', rfl, hk', M'⟩)

theorem codeN_sound (hC : CtxOk C) : ∀ (k : Nat) (c : Code), codeOk N c = true → ∀ (st : ASt) (Q : AEx → ASt → Prop), codeN C k c st Q → ∀ (a : Act) (w : World) (S : Nat → Prop) (β : Bt), SimD C w0 S0 N (· < st.n) st.t st.h a w S β → c.wp C.P (Aft C w0 S0 N Q) a w
  | 0, c, hc, st, Q, hq, a, w, S, β, M => code_sound hC c hc st Q hq a w S β M
  | k + 1, c, hc, st, Q, hq, a, w, S, β, M => by
    cases c with
    | seq x y =>
      simp only [codeOk, Bool.and_eq_true] at hc
      refine wp_seq (wp_mono (stepN_sound hC hc.1 hq M) ?_)
      rintro e a' w' ⟨e', st', S', β', rfl, h1, h2⟩
      cases e' with
      | normal => exact codeN_sound hC k y hc.2 st' Q h1 a' w' S' β' h2
      | exit i => exact ⟨.exit i, st', S', β', rfl, h1, h2⟩
      | ret => exact ⟨.ret, st', S', β', rfl, h1, h2⟩
    | _ => exact hq.elim

theorem DCall.introN (k : Nat) (hC : CtxOk C) {f : FuncId} {fn : Func} {body : Code} {args : List AV} {r : AV} (hf : C.P.funcs[f]? = some fn) (hb : fn.body = some body) (hnm : (fn.name == "runtime.NumGoroutine") = false)
    (hN : codeOk fn.ntmps body = true) (hlen : Nat.ble args.length fn.ntmps = true) (hw : codeN C k body ⟨argsT args, fun _ => none, 0⟩ (Fin C fn r)) (hdf : C.df = [] := by rfl) : DCall C f args r := by
  refine ⟨⟨fn, hf, by rw [hb]; rfl, hnm⟩, fun S w vs hS hG hargs => ?_⟩
  have hlen := Nat.le_of_ble_eq_true hlen
  refine calls_of_wp hf hb ?_
  have M0 : SimD C w S fn.ntmps (· < (0 : Nat)) (argsT args) (fun _ => none) { tmps := vs.toArray ++ Array.replicate (fn.ntmps - vs.toArray.size) undef, defers := [] } w S noB := by
    have hl : vs.length = args.length := hargs.1.symm
    refine ⟨fun i => ?_, ⟨fun s blk h => (by cases h), fun s s' l l' h => absurd rfl h, hS, Nat.le_refl _⟩, Below.refl _ _, fun x l h => (by cases h), hdf.symm, by simp; omega, hG, fun _ h => .inl h⟩
    rw [argsT_get]
    cases ha : args[i]? with
    | none => exact .any _
    | some x =>
      have hi : i < vs.length := by rw [hl]; exact (List.getElem?_eq_some_iff.1 ha).1
      have hv : vs[i]? = some vs[i] := List.getElem?_eq_getElem hi
      have : (vs.toArray ++ Array.replicate (fn.ntmps - vs.toArray.size) undef).getD i undef = vs[i] := by
        rw [Array.getD_eq_getD_getElem?, Array.getElem?_append_left (by simpa using hi), List.getElem?_toArray, hv]; rfl
      rw [this]
      exact hargs.2 i x _ ha hv
  refine wp_mono (codeN_sound hC k body hN ⟨argsT args, fun _ => none, 0⟩ _ hw _ w S noB M0) ?_
  rintro e a' w' ⟨e', st, S', β', rfl, hfin, M⟩
  have fin : RetA C fn r st → a'.defers = [] ∧ ∃ v, (results fn a'.tmps).run C.P w' = .ok v w' ∧ ∃ v', Ending.returned v = .returned v' ∧ Below w.heap.size w w' ∧ Rep (fun b => S b ∨ (w.heap.size ≤ b ∧ b < w'.heap.size)) w' noB r v' := by
    rintro ⟨rs, h1, h2, h3, h4⟩
    obtain ⟨t, h, n⟩ := st
    obtain ⟨us, g1, g2⟩ := res_ok hC M _ rs h1
    refine ⟨M.df.trans hdf, _, run_results _ us g1 fn rfl, _, rfl, M.B, ?_⟩
    have hret : Rep S' w' β' (retA rs) (if h : us.toArray.size = 1 then us.toArray[0] else .tuple us.toArray) := by
      match rs, us, g2 with
      | [], us, g2 =>
        have : us = [] := List.eq_nil_of_length_eq_zero g2.1.symm
        subst this
        exact .tup [] #[] rfl fun i a u p => by simp at p
      | [x], us, g2 =>
        match us, g2 with
        | [u], g2 => simpa [retA] using g2.2 0 x u rfl rfl
        | [], g2 => exact absurd g2.1 (by simp)
        | _ :: _ :: _, g2 => exact absurd g2.1 (by simp)
      | x :: y :: zs, us, g2 =>
        have hne : ¬ us.toArray.size = 1 := by
          have := g2.1
          simp at this ⊢
          omega
        rw [dif_neg hne]
        exact .tup _ _ (by simpa using g2.1) fun i a u p q => g2.2 i a u p (by simpa using q)
    have hd := datA_rep M.H hret h2
    refine h4 _ _ _ ?_
    exact (closed_rep hd h3 noB).mono (fun b hb => hb.elim (fun hb => (M.nw b hb).imp id fun h => ⟨h, M.H.lt b hb⟩) .inr) (Evo.refl _ _) (BtLe.refl _)
  cases e' with
  | normal => exact fin hfin
  | ret => exact fin hfin
  | exit i => exact hfin.elim
theorem nSeq {k : Nat} {a b : Code} {st : ASt} {Q : AEx → ASt → Prop} (h : codeA C (DCall C) a st (fun e st' => match e with | .normal => codeN C k b st' Q | e => Q e st')) : codeN C (k + 1) (.seq a b) st Q := .plain h
theorem nFrz {k : Nat} {a b : Code} {st : ASt} {Q : AEx → ASt → Prop} (h : codeA C (DCall C) a st (fun e st' => match e with | .normal => Frz st' (fun st2 => codeN C k b st2 Q) | e => Q e st')) : codeN C (k + 1) (.seq a b) st Q := .frz (codeA_mono a st _ _ (fun e st' q => by cases e <;> exact q) h)
theorem nOwn {k m id : Nat} {ops : Array Oper} {b : Code} {st : ASt} {Q : AEx → ASt → Prop} (hm : Nat.blt m ops.size = true) (h : regN C ops.toList m st (fun st' => codeN C k b st' Q)) : codeN C (k + 1) (.seq (.region id ops false) b) st Q := .own id ops m rfl (Nat.le_of_ble_eq_true hm) h
theorem rOwn {all : List Oper} {k : Nat} {K : ASt → Prop} {o : Oper} {d : Nat} {f : FuncId} {args : List AV} {c : AV} {rs j n n1 : Nat} {rows : List (List AV)} {t : Nat → AV} {h : AH} (hn : n + j = n1) (ho : all[k]? = some o) (hg : o.guard = none) (hd : o.dst = some d) (hop : opA C (evA C t) h n1 o.op = .call f args) (hcl : closedL args = true) (hno : noOwnL args = true)
    (hc : OCall C f args c rs rows) (post : List Oper) (hpost : all.drop (k + 1) = post) (hk : regA C (DCall C) all post 0 ⟨upd t d (.tup [c, .osl n1 0 rows.length false]), upd h n1 (some (.arr rows rs)), n1 + 1⟩ K) : regA C (DCall C) all [] j ⟨t, h, n⟩ (OwnK C all k K) := by
  subst hn
  subst hpost
  exact .mk o d f args c rs rows ho hg hd hop hcl hno hc hk
end
end Go.Proofs.YtahnhhbgkmlfcaaDoor
