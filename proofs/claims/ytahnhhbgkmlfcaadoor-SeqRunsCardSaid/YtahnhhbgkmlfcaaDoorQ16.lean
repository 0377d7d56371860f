/- The second machine in the rounds of a loop over an iterator, and in iterators: a region in the text's order, code without loops, at any fence that lets all through. -/
import Derived.Test.YtahnhhbgkmlfcaaDoorQ9
import Derived.RangeFuncNested
import Derived.RangeFuncLeaves
import Derived.TacticsIn
import Derived.OrdersIn
namespace Go.Proofs.YtahnhhbgkmlfcaaDoor
open Go.RowKit

/-- A fence that lets all through. -/
structure FOk (F : Fence) (P : Program) : Prop where
  fn : ∀ f, F.fn f
  dep : F.depth = none
  calls : ∀ {f args w R} (m : Nat), Calls P f args w R → CallsIn F m P f args w R
theorem fok_wide (P : Program) : FOk Fence.wide P := ⟨fun _ => trivial, rfl, fun _ h => callsIn_wide.2 h⟩
theorem fok_round (P : Program) (l : Nat) : FOk (Fence.wide.inRound l) P := ⟨fun _ => trivial, rfl, fun _ h => CallsIn.inRound l (callsIn_wide.2 h)⟩

/-- A walk's state, and what stands as it stood. -/
structure SimX (C : Ctx) (w0 : World) (S0 : Nat → Prop) (N : Nat) (D : Nat → Prop) (S00 : Nat → Prop) (w00 : World) (kp : Nat → Bool) (a00 : Act) (t : Nat → AV) (h : AH) (a : Act) (w : World) (S : Nat → Prop) (β : Bt) : Prop where
  M : SimD C w0 S0 N D t h a w S β
  hS : ∀ b, S00 b → S b
  hw : ∀ b, S00 b → w.heap[b]? = w00.heap[b]?
  sz : w00.heap.size ≤ w.heap.size
  tm : ∀ i, kp i = true → a.tmps.getD i undef = a00.tmps.getD i undef

def AftX (C : Ctx) (w0 : World) (S0 : Nat → Prop) (N : Nat) (S00 : Nat → Prop) (w00 : World) (kp : Nat → Bool) (a00 : Act) (Q : AEx → ASt → Prop) (e : Exit) (a : Act) (w : World) : Prop := ∃ e' st S β, e = toExit e' ∧ Q e' st ∧ SimX C w0 S0 N (· < st.n) S00 w00 kp a00 st.t st.h a w S β

section
variable {F : Fence} {m : Nat}
variable {C : Ctx} {all : List Oper} {o : Oper} {s N : Nat} {t : Nat → AV} {h h' : AH} {a : Act} {w w0 w00 : World} {D : Nat → Prop} {S0 S00 : Nat → Prop} {S : Nat → Prop} {β : Bt} {kp : Nat → Bool} {a00 : Act}

/-- No operation writes a slot that is kept. -/
def keepsOk (kp : Nat → Bool) (l : List Oper) : Bool := l.all fun o => match o.dst with | some d => !kp d | none => true
theorem keeps_dst {l : List Oper} (hb : keepsOk kp l = true) {o : Oper} (ho : o ∈ l) : ∀ k, o.dst = some k → kp k = false := fun k hk => by
  have := List.all_eq_true.1 hb o ho
  simp only [hk] at this
  simpa using this
theorem put_keep (a : Act) (d : Option Nat) (v : Value) (hd : ∀ k, d = some k → kp k = false) (i : Nat) (hi : kp i = true) : (a.put d v).tmps.getD i undef = a.tmps.getD i undef := by
  cases d with
  | none => rfl
  | some k =>
    have hne : i ≠ k := fun e => by subst e; rw [hd i rfl] at hi; cases hi
    simp [Act.put, Array.getD_eq_getD_getElem?, Array.getElem?_setIfInBounds_ne (Ne.symm hne)]

theorem semAt_exec {ev : Operand → AV} (hb : opA C ev h s o.op ≠ .bad) (r : Option Nat) (ρ : Operand → Value) : o.semAt r ρ = execOp ρ o := by
  cases r with
  | none => exact Oper.semAt_none ..
  | some l =>
    refine Oper.semAt_some l ρ o fun c hc => hb ?_
    rw [hc]; rfl

theorem nodeR_soundIn (hF : FOk F C.P) (hC : CtxOk C) (M : SimD C w0 S0 N D t h a w S β) (hs : β s = none) (ev : Operand → AV) (hev : ∀ x ∈ o.op.operands, Rep S w β (ev x) (a.eval x)) {x : AV} (hn : NodeR C (DCall C) h (opA C ev h s o.op) x h') (hd : ∀ k, o.dst = some k → k < N)
    {K : Act → World → Prop} {Q : Exit → Act → World → Prop} (hK : ∀ v w' S' β', Rep S' w' β' x v → SimH w0.heap.size S' w' β' h' → StepK w0.heap.size S w β s S' w' β' → K (a.put o.dst v) w') : o.wpIn F m C.P a w K Q := by
  have hnb : opA C ev h s o.op ≠ .bad := fun hb => by rw [hb] at hn; exact hn.elim
  unfold Oper.wpIn
  refine ⟨fun f _ => hF.fn f, ?_⟩
  rw [semAt_exec hnb]
  have hop := op_sound (B := w0.heap.size) hC M.H hs ev a.eval o hev
  have fin : Post w0.heap.size S w β s ((execOp a.eval o).run C.P w) x h' → o.uponIn F m C.P a K Q ((execOp a.eval o).run C.P w) := by
    rintro ⟨v, w', S', β', h1, h2, h3, h4⟩
    rcases h1 with h1 | ⟨h1, hv⟩
    · rw [h1]; exact hK v w' S' β' h2 h3 h4
    · rw [h1]; subst hv; exact hK undef w' S' β' h2 h3 h4
  cases hr : opA C ev h s o.op with
  | bad => rw [hr] at hn; exact hn.elim
  | ok y => rw [hr] at hn hop; obtain ⟨rfl, rfl⟩ := hn; exact fin hop
  | need p y => rw [hr] at hn hop; obtain ⟨hp, rfl, rfl⟩ := hn; exact fin (hop hp)
  | idx rows i f => rw [hr] at hn hop; obtain ⟨row, h0, h1, h2, rfl⟩ := hn; exact fin (hop row x h0 h1 h2)
  | fx p y h2 => rw [hr] at hn hop; obtain ⟨hp, rfl, rfl⟩ := hn; exact fin (hop hp)
  | idxfx rows i f => rw [hr] at hn hop; obtain ⟨row, h0, h1, h2, rfl⟩ := hn; exact fin (hop row h' h0 h1 h2)
  | str p rows => rw [hr] at hn hop; obtain ⟨l, hp, h1, rfl, rfl⟩ := hn; exact fin (hop l hp h1)
  | call f args =>
    rw [hr] at hn hop
    obtain ⟨c1, c2, c3, c4, rfl⟩ := hn
    obtain ⟨vs, e1, e2⟩ := hop
    obtain ⟨g1, g2⟩ := call_sound (s := s) M e1 c1 c2 c3 c4
    rw [e2, g1]
    show (F.depth.isSome = true → 1 ≤ m) ∧ CallsIn F (m - 1) C.P f vs.toArray w _
    refine ⟨fun hd => (by rw [hF.dep] at hd; cases hd), hF.calls _ (g2.mono ?_)⟩
    rintro e w' ⟨v, S', he, k1, k2, k3⟩
    subst he
    exact hK v w' S' β k1 k2 k3

theorem step_soundIn (hF : FOk F C.P) (hC : CtxOk C) (X : SimX C w0 S0 N D S00 w00 kp a00 t h a w S β) (hs : β s = none) {ops : Array Oper} (hall : ops.toList = all) {x : AV} (hst : StepR C (DCall C) all o s t h x h') (hd : ∀ k, o.dst = some k → k < N) (hkp : ∀ k, o.dst = some k → kp k = false) (hgd : ∀ i pol d, o.guard = some (i, pol) → (all[i]?).bind (·.dst) = some d → d < N)
    {K : Act → World → Prop} {Q : Exit → Act → World → Prop} (hK : ∀ a' w' S' β', SimX C w0 S0 N (fun n => D n ∨ n = s) S00 w00 kp a00 (updO t o.dst x) h' a' w' S' β' → K a' w') :
    if Region.wanted o (yielded ops a.tmps) then o.wpIn F m C.P a w K Q else (∀ f, o.about C.P w a.eval = some f → F.fn f) ∧ K (a.put o.dst undef) w := by
  have M := X.M
  have next : ∀ {x : AV} {v : Value} {w' : World} {S' : Nat → Prop} {β' : Bt} {h' : AH}, Rep S' w' β' x v → SimH w0.heap.size S' w' β' h' → StepK w0.heap.size S w β s S' w' β' → SimX C w0 S0 N (fun n => D n ∨ n = s) S00 w00 kp a00 (updO t o.dst x) h' (a.put o.dst v) w' S' β' :=
    fun h1 h2 h3 => ⟨sim_next M h3 h2 h1 hd, fun b hb => h3.hS b (X.hS b hb), fun b hb => (h3.hE.stable b (X.hS b hb)).trans (X.hw b hb), Nat.le_trans X.sz h3.hB.size, fun i hi => (put_keep a o.dst _ hkp i hi).trans (X.tm i hi)⟩
  unfold StepR at hst
  cases hg : o.guard with
  | none =>
    simp only [hg] at hst
    have : Region.wanted o (yielded ops a.tmps) = true := by simp [Region.wanted, hg]
    rw [if_pos this]
    exact nodeR_soundIn hF hC M hs _ (fun x _ => ev_rep M x) hst hd fun v w' S' β' h1 h2 h3 => hK _ _ S' β' (next h1 h2 h3)
  | some q =>
    obtain ⟨i, pol⟩ := q
    simp only [hg] at hst
    obtain ⟨d, g, y, q1, q2, rfl, rfl, q3⟩ := hst
    rw [wanted_iff M hall hg q1 q2 (hgd i pol d hg q1)]
    cases g with
    | false =>
      rw [if_neg (by simp)]
      exact ⟨fun f _ => hF.fn f, hK _ _ S β (next (.optF false y rfl) M.H (StepK.refl _ _ _ _ _))⟩
    | true =>
      rw [if_pos rfl]
      rcases q3 with ⟨_, q5⟩ | ⟨c, q4, q5, q6⟩
      · exact nodeR_soundIn hF hC M hs _ (fun x _ => ev_rep M x) (q5 rfl).2 hd fun v w' S' β' h1 h2 h3 => hK _ _ S' β' (next (.optT true y v rfl h1) h2 h3)
      · exact nodeR_soundIn hF hC M hs _ (evS_rep M o.op q4 (q5 rfl)) (q6 rfl).2 hd fun v w' S' β' h1 h2 h3 => hK _ _ S' β' (next (.optT true y v rfl h1) h2 h3)

/-- A region's operations, a part of them. -/
theorem part_soundIn (hF : FOk F C.P) (hC : CtxOk C) {ops : Array Oper} (hall : ops.toList = all) (hb : slotsOk N all = true) (hkk : keepsOk kp all = true) {K : ASt → Prop} {Q : Exit → Act → World → Prop} {n : Nat} (post : List Oper) : ∀ (rest : List Oper) (j : Nat) (t : Nat → AV) (h : AH) (a : Act) (w : World) (S : Nat → Prop) (β : Bt), all.drop j = rest ++ post → regA C (DCall C) all rest j ⟨t, h, n⟩ K → SimX C w0 S0 N (· < n + j) S00 w00 kp a00 t h a w S β →
    (∀ st a' w' S' β', K st → SimX C w0 S0 N (· < st.n) S00 w00 kp a00 st.t st.h a' w' S' β' → wpOpsIn F m C.P ops Q (List.range' (j + rest.length) post.length) a' w') → wpOpsIn F m C.P ops Q (List.range' j (rest.length + post.length)) a w
  | [], j, t, h, a, w, S, β, _, hr, M, hQ => by
    have := hQ ⟨t, h, n + j⟩ a w S β hr M
    simpa using this
  | o :: rest, j, t, h, a, w, S, β, hdrop, hr, X, hQ => by
    obtain ⟨x, h', h1, h2⟩ := step_inv hr
    have hj : all[j]? = some o := by
      have : (all.drop j)[0]? = some o := by rw [hdrop]; rfl
      simpa using this
    have hoj : ops[j]? = some o := by rw [← hj, ← hall, Array.getElem?_toList]
    have hmem : o ∈ all := List.mem_of_getElem? hj
    have hs : β (n + j) = none := by
      cases hq : β (n + j) with
      | none => rfl
      | some l => have := X.M.dom _ _ hq; omega
    rw [List.length_cons, show rest.length + 1 + post.length = (rest.length + post.length) + 1 by omega, List.range'_succ]
    simp only [wpOpsIn, hoj]
    refine step_soundIn hF hC X hs hall h1 (slots_lt hb hmem) (keeps_dst hkk hmem) (fun i pol d _ hd => guard_lt hb i d hd) fun a' w' S' β' X' => ?_
    have M' := X'.M
    refine part_soundIn hF hC hall hb hkk post rest (j + 1) _ h' a' w' S' β' ?_ h2 ?_ ?_
    · rw [← List.drop_drop, hdrop]; rfl
    · exact ⟨⟨M'.T, M'.H, M'.B, fun y l hy => (M'.dom y l hy).elim (fun (h : y < n + j) => show y < n + (j + 1) by omega) (fun (h : y = n + j) => show y < n + (j + 1) by omega), M'.df, M'.sz, M'.G, M'.nw⟩, X'.hS, X'.hw, X'.sz, X'.tm⟩
    · intro st a' w' S' β' hk hx
      have := hQ st a' w' S' β' hk hx
      rwa [List.length_cons, show j + (rest.length + 1) = j + 1 + rest.length by omega] at this

theorem SimD.kept_drawn (X : SimX C w0 S0 N D S00 w00 kp a00 t h a w S β) (k : Nat) : SimX C w0 S0 N D S00 w00 kp a00 t h a { w with drawn := k } S β := ⟨X.M.drawn k, X.hS, X.hw, X.sz, X.tm⟩
/-- A region in whatever order. -/
theorem late_soundIn (hF : FOk F C.P) (hC : CtxOk C) {ops : Array Oper} (hb : slotsOk N ops.toList = true) (hkk : keepsOk kp ops.toList = true) {K : ASt → Prop} {Q : Exit → Act → World → Prop} {n : Nat} (hQ : ∀ st a' w' S' β', K st → SimX C w0 S0 N (· < st.n) S00 w00 kp a00 st.t st.h a' w' S' β' → Q .normal a' w') :
    ∀ (fuel : Nat) (listed : Array Bool) (t : Nat → AV) (h : AH) (a : Act) (w : World) (S : Nat → Prop) (β : Bt), listed.size = ops.size → anyA C (DCall C) ops K fuel listed ⟨t, h, n⟩ → SimX C w0 S0 N (fun s => s < n ∨ ∃ i, listed.getD i false = true ∧ s = n + i) S00 w00 kp a00 t h a w S β → wpAnyIn F m C.P .any ops Q fuel listed a w
  | 0, listed, t, h, a, w, S, β, hsz, hr, X => by
    have M := X.M
    refine ⟨hr.1, hQ _ a w S β hr.2 ⟨⟨M.T, M.H, M.B, fun y l hy => ?_, M.df, M.sz, M.G, M.nw⟩, X.hS, X.hw, X.sz, X.tm⟩⟩
    show y < n + ops.size
    rcases M.dom y l hy with h | ⟨i, hi, rfl⟩
    · omega
    · rcases Nat.lt_or_ge i listed.size with k | k
      · omega
      · rw [Array.getD_eq_getD_getElem?, Array.getElem?_eq_none k] at hi; cases hi
  | fuel + 1, listed, t, h, a, w, S, β, hsz, hr, X => by
    have M := X.M
    refine ⟨fun hn => absurd hn hr.1, fun i hi => ?_⟩
    have hall : ∀ (l : List Nat), forL (aOne C (DCall C) ops (anyA C (DCall C) ops K fuel) listed t h n) l → ∀ i ∈ l, aOne C (DCall C) ops (anyA C (DCall C) ops K fuel) listed t h n i := by
      intro l
      induction l with
      | nil => intro _ i hi; cases hi
      | cons x l ih =>
        intro hl i hi
        rcases List.mem_cons.1 hi with rfl | hi
        · exact hl.1
        · exact ih hl.2 i hi
    have h1 := hall _ hr.2 i hi
    obtain ⟨k1, o, ho, _⟩ := mem_ready.1 hi
    have hil : i < listed.size := by have := (Array.getElem?_eq_some_iff.1 ho).1; omega
    have hni : listed.getD i false = false := by
      rw [Array.getD_eq_getD_getElem?, Array.getElem?_eq_getElem hil] at k1 ⊢
      exact k1
    have hoi : ops.toList[i]? = some o := by rw [Array.getElem?_toList]; exact ho
    have hmem : o ∈ ops.toList := List.mem_of_getElem? hoi
    have hs : β (n + i) = none := by
      cases hq : β (n + i) with
      | none => rfl
      | some l =>
        rcases M.dom _ _ hq with h | ⟨j, hj, he⟩
        · omega
        · have : j = i := by omega
          subst this; rw [hni] at hj; cases hj
    simp only [aOne, ho] at h1
    obtain ⟨x, h', e1, e2⟩ := step_inv h1
    unfold wpOpIn
    simp only [ho]
    refine step_soundIn hF hC X hs rfl e1 (slots_lt hb hmem) (keeps_dst hkk hmem) (fun i pol d _ hd => guard_lt hb i d hd) fun a' w' S' β' X' => ?_
    have M' := X'.M
    refine late_soundIn hF hC hb hkk hQ fuel _ _ h' a' w' S' β' (by simp [hsz]) e2 ⟨⟨M'.T, M'.H, M'.B, fun y l hy => ?_, M'.df, M'.sz, M'.G, M'.nw⟩, X'.hS, X'.hw, X'.sz, X'.tm⟩
    have hset : ∀ j, (listed.setIfInBounds i true).getD j false = true ↔ listed.getD j false = true ∨ j = i := fun j => by
      by_cases hj : j = i
      · subst hj
        rw [Array.getD_eq_getD_getElem?, Array.getElem?_setIfInBounds_self_of_lt hil]; simp
      · rw [Array.getD_eq_getD_getElem?, Array.getElem?_setIfInBounds_ne (Ne.symm hj), ← Array.getD_eq_getD_getElem?]; simp [hj]
    rcases M'.dom y l hy with (h | ⟨j, hj, he⟩) | h
    · exact .inl h
    · exact .inr ⟨j, (hset j).2 (.inl hj), he⟩
    · exact .inr ⟨i, (hset i).2 (.inr rfl), h⟩

/-- What code may be walked so. -/
def codeOkIn (N : Nat) (kp : Nat → Bool) : Code → Bool
  | .region _ ops dr => slotsOk N ops.toList && (keepsOk kp ops.toList && (!dr || lateR ops.toList))
  | .seq a b => codeOkIn N kp a && codeOkIn N kp b
  | .cond _ a b => codeOkIn N kp a && codeOkIn N kp b
  | .block _ b => codeOkIn N kp b
  | .loop _ => false
  | _ => true

theorem code_soundIn (hF : FOk F C.P) (hC : CtxOk C) (hlt : C.lt = false) : ∀ (c : Code), codeOkIn N kp c = true → ∀ (st : ASt) (Q : AEx → ASt → Prop), codeA C (DCall C) c st Q → ∀ (a : Act) (w : World) (S : Nat → Prop) (β : Bt), SimX C w0 S0 N (· < st.n) S00 w00 kp a00 st.t st.h a w S β →
    c.wpIn F m C.P (AftX C w0 S0 N S00 w00 kp a00 Q) a w := by
  intro c
  induction c with
  | skip => intro _ st Q hq a w S β M; exact wpIn_skip ⟨.normal, st, S, β, rfl, hq, M⟩
  | label l => intro _ st Q hq a w S β M; exact wpIn_label ⟨.normal, st, S, β, rfl, hq, M⟩
  | exit id => intro _ st Q hq a w S β M; exact wpIn_exit ⟨.exit id, st, S, β, rfl, hq, M⟩
  | ret => intro _ st Q hq a w S β M; exact wpIn_ret ⟨.ret, st, S, β, rfl, hq, M⟩
  | region id ops dr =>
    intro hk st Q hq a w S β M
    simp only [codeOkIn, Bool.and_eq_true] at hk
    obtain ⟨t, h, n⟩ := st
    simp only [codeA] at hq
    cases dr with
    | false =>
      simp only [Bool.false_and] at hq
      refine wpIn_region ?_
      have := part_soundIn (m := m) (Q := AftX C w0 S0 N S00 w00 kp a00 Q) (K := Q .normal) hF hC (ops := ops) rfl hk.1 hk.2.1 [] ops.toList 0 t h a w S β (by simp) hq M (fun st' a' w' S' β' hk' M' => ⟨.normal, st', S', β', rfl, hk', M'⟩)
      rw [show List.range' 0 (ops.toList.length + ([] : List Oper).length) = List.range ops.size by rw [List.range_eq_range']; simp] at this
      exact this
    | true =>
      have hl : lateR ops.toList = true := by simpa using hk.2.2
      simp only [hl, Bool.and_self] at hq
      rcases hq with hq | ⟨hq, _⟩
      rotate_left
      · rw [hlt] at hq; cases hq
      have M' := SimD.kept_drawn M (w.drawn + 1)
      have M2 := M'.M
      refine wpIn_region_any hC.mixed (late_soundIn (m := m) hF hC hk.1 hk.2.1 (fun st' a' w' S' β' hk' M' => ⟨.normal, st', S', β', rfl, hk', M'⟩) ops.size _ t h a _ S β (by simp) hq ⟨⟨M2.T, M2.H, M2.B, fun y l hy => .inl (M2.dom y l hy), M2.df, M2.sz, M2.G, M2.nw⟩, M'.hS, M'.hw, M'.sz, M'.tm⟩)
  | seq x y ihx ihy =>
    intro hk st Q hq a w S β M
    simp only [codeOkIn, Bool.and_eq_true] at hk
    simp only [codeA] at hq
    refine wpIn_seq (wpIn_mono (ihx hk.1 st _ hq a w S β M) ?_)
    rintro e a' w' ⟨e', st', S', β', rfl, h1, h2⟩
    cases e' with
    | normal => exact ihy hk.2 st' Q h1 a' w' S' β' h2
    | exit i => exact ⟨.exit i, st', S', β', rfl, h1, h2⟩
    | ret => exact ⟨.ret, st', S', β', rfl, h1, h2⟩
  | cond c x y ihx ihy =>
    intro hk st Q hq a w S β M
    simp only [codeOkIn, Bool.and_eq_true] at hk
    simp only [codeA] at hq
    split at hq
    · rename_i b hb
      obtain ⟨h1, h2⟩ := hq
      have hv := ev_rep M.M c
      rw [hb] at hv
      refine wpIn_cond_split (rep_v hv) (fun ht => ihx hk.1 st Q (h1 ht) a w S β M) (fun hf => ihy hk.2 st Q (h2 hf) a w S β M)
    · exact hq.elim
  | block id b ih =>
    intro hk st Q hq a w S β M
    simp only [codeOkIn] at hk
    simp only [codeA] at hq
    refine wpIn_block (wpIn_mono (ih hk st _ hq a w S β M) ?_)
    rintro e a' w' ⟨e', st', S', β', rfl, h1, h2⟩
    cases e' with
    | normal => exact ⟨.normal, st', S', β', rfl, h1, h2⟩
    | ret => exact ⟨.ret, st', S', β', rfl, h1, h2⟩
    | exit i =>
      show Exit.inBlock id _ (.exit i) a' w'
      simp only at h1
      simp only [Exit.inBlock]
      by_cases hi : i = id
      · subst hi
        rw [if_pos rfl]
        rw [show Nat.beq i i = true from Nat.beq_refl i] at h1
        exact ⟨.normal, st', S', β', rfl, h1, h2⟩
      · rw [if_neg hi]
        have : Nat.beq i id = false := by rw [← Bool.not_eq_true]; exact fun e => hi (Nat.eq_of_beq_eq_true e)
        rw [this] at h1
        exact ⟨.exit i, st', S', β', rfl, h1, h2⟩
  | loop b ih => intro hk; simp [codeOkIn] at hk
  | _ => intro _ st Q hq; exact hq.elim

/-! ### two parties' memory -/
/-- From w to w' the blocks of K stand. -/
structure Same (K : Nat → Prop) (w w' : World) : Prop where
  os : w'.os = w.os
  tape : w'.tape = w.tape
  output : w'.output = w.output
  size : w.heap.size ≤ w'.heap.size
  block : ∀ b, b < w.heap.size → K b → w'.heap[b]? = w.heap[b]?
theorem Same.refl (K : Nat → Prop) (w : World) : Same K w w := ⟨rfl, rfl, rfl, Nat.le_refl _, fun _ _ _ => rfl⟩
theorem Same.trans {K : Nat → Prop} {a b c : World} (h : Same K a b) (k : Same K b c) : Same K a c :=
  ⟨k.os.trans h.os, k.tape.trans h.tape, k.output.trans h.output, Nat.le_trans h.size k.size, fun x hx hk => (k.block x (Nat.lt_of_lt_of_le hx h.size) hk).trans (h.block x hx hk)⟩
theorem Same.mono {K K' : Nat → Prop} {a b : World} (h : Same K a b) (hk : ∀ x, x < a.heap.size → K' x → K x) : Same K' a b := ⟨h.os, h.tape, h.output, h.size, fun x hx hx' => h.block x hx (hk x hx hx')⟩
theorem Same.of_below {K : Nat → Prop} {n : Nat} {a b : World} (h : Below n a b) (hk : ∀ x, K x → x < n) : Same K a b := ⟨h.os, h.tape, h.output, h.size, fun x _ hx => h.block x (hk x hx)⟩

theorem rep_transport {w' : World} (hS : ∀ b, S b → w'.heap[b]? = w.heap[b]?) {β' : Bt} {x : AV} {v : Value} (hr : Rep S w β' x v) : (∀ s l, β' s = some l → w'.heap[l.blk]? = w.heap[l.blk]?) → Rep S w' β' x v := by
  induction hr with
  | v x => intro _; exact .v x
  | agg cs vs hl h1 h ih => intro hb; exact .agg cs vs hl h1 fun i a u h1 h2 => ih i a u h1 h2 hb
  | tup cs vs hl h ih => intro hb; exact .tup cs vs hl fun i a u h1 h2 => ih i a u h1 h2 hb
  | sl rs rows clip A c b o u hc hm hcl hrs hA hw h1 hr ih =>
    intro _
    refine .sl rs rows clip A c b o u hc hm hcl hrs hA (fun i row j a h1 h2 => ?_) h1 fun i row j a h1 h2 => ih i row j a h1 h2 (fun s l e => by cases e)
    have h0 : 0 < rows.length := Nat.lt_of_le_of_lt (Nat.zero_le i) (List.getElem?_eq_some_iff.1 h1).1
    rw [cell_of_heap (hS b (hA h0).2)]
    exact hw i row j a h1 h2
  | dp rs col row b o u hrs hb hw h1 hr ih =>
    intro _
    exact .dp rs col row b o u hrs hb (fun j a h1 => by rw [cell_of_heap (hS b hb)]; exact hw j a h1) h1 fun j a h1 => ih j a h1 (fun s l e => by cases e)
  | ptr s col l hl => intro hb; exact .ptr s col l hl
  | ptr2 s row col l hl => intro hb; exact .ptr2 s row col l hl
  | osl s lo len clip l A c hl hc hm hcl hA cs e fr hb room =>
    intro hβ
    exact .osl s lo len clip l A c hl hc hm hcl hA cs e fr ((hβ _ _ hl).trans hb) room
  | clo f first caps vs us hl h hl' h' ih ih' => intro hb; exact .clo f first caps vs us hl (fun i a u h1 h2 => ih i a u h1 h2 hb) hl' fun i a u h1 h2 => ih' i a u h1 h2 hb
  | optT g a x hg h ih => intro hb; exact .optT g a x hg (ih hb)
  | optF g a hg => intro _; exact .optF g a hg
  | any x => intro _; exact .any x

theorem SimX.weak {st st' : ASt} {σ : Nat → Nat} (X : SimX C w0 S0 N (· < st.n) S00 w00 kp a00 st.t st.h a w S β) (W : Weak st st' σ) : SimX C w0 S0 N (· < st'.n) S00 w00 kp a00 st'.t st'.h a w S (fun s => if s < st'.n then β (σ s) else none) :=
  ⟨weak_sound W X.M, X.hS, X.hw, X.sz, X.tm⟩

def noHeap (w : World) : World := { w with heap := #[] }
theorem slotsF_rep {L : List (Nat × AV)} {v : Nat → Value} (hT : ∀ p ∈ L, Rep S w β p.2 (v p.1)) : ∀ i, Rep S w β (slotsF L i) (v i) := by
  induction L with
  | nil => intro i; exact .any _
  | cons p L ih =>
    obtain ⟨j, x⟩ := p
    intro i
    simp only [slotsF]
    cases hb : Nat.beq j i with
    | true => rw [← Nat.eq_of_beq_eq_true hb]; exact hT (j, x) (List.mem_cons_self)
    | false => exact ih (fun p hp => hT p (List.mem_cons_of_mem _ hp)) i
/-- A state from what is known. -/
theorem simx_mk {L : List (Nat × AV)} {hp : List (Nat × Blk)} {n : Nat} (hT : ∀ p ∈ L, Rep S w β p.2 (a.tmps.getD p.1 undef)) (H : SimH 0 S w β (heapF hp)) (hdom : ∀ x l, β x = some l → x < n) (hdf : a.defers = C.df) (hsz : a.tmps.size = N) (hG : GOk C S w) :
    SimX C ({ w with heap := #[] }) (fun _ => False) N (· < n) S w kp a (slotsF L) (heapF hp) a w S β :=
  ⟨⟨slotsF_rep (v := fun i => a.tmps.getD i undef) hT, H, ⟨rfl, rfl, rfl, Nat.zero_le _, fun b hb => absurd hb (Nat.not_lt_zero _)⟩, hdom, hdf, hsz, hG, fun _ _ => .inr (Nat.zero_le _)⟩, fun _ h => h, fun _ _ => rfl, Nat.le_refl _, fun _ _ => rfl⟩
def oneB (s : Nat) (l : Loc) : Bt := fun x => if x = s then some l else none
theorem simH_one {s : Nat} {lo : Loc} {blk : Blk} {cs : Array Value} {e : TypeId} {fr : Nat × Nat} (hb : w.heap[lo.blk]? = some (.cells cs e fr)) (hf : ∀ o, o < cs.size → (decide (fr.1 ≤ o) && decide (o < fr.2)) = false) (hS : ¬ S lo.blk) (hlt : ∀ b, S b → b < w.heap.size)
    (hin : InBlk S w (oneB s lo) lo cs blk) : SimH 0 S w (oneB s lo) (heapF [(s, blk)]) := by
  refine ⟨fun s' blk' hs => ?_, fun s1 s2 l1 l2 h1 h2 e1 e2 _ => ?_, hlt, Nat.zero_le _⟩
  · simp only [heapF] at hs
    split at hs
    · rename_i hq
      injection hs with hs; subst hs
      have := Nat.eq_of_beq_eq_true hq; subst this
      exact ⟨lo, cs, e, fr, by simp [oneB], hb, hf, Nat.zero_le _, hS, hin⟩
    · cases hs
  · unfold oneB at e1 e2
    split at e1
    · split at e2
      · rename_i a b; rw [a, b]
      · cases e2
    · cases e1
theorem inblk_flat {S' : Nat → Prop} {w' : World} {β' : Bt} {l : Loc} {cs : Array Value} {cells : List AV} (h : InBlk S w β l cs (.box cells)) (hf : flatL cells = true) : InBlk S' w' β' l cs (.box cells) := fun j x hj => by
  obtain ⟨u, h1, h2, h3⟩ := h j x hj
  have : ∀ (cs : List AV), flatL cs = true → ∀ (i : Nat) x, cs[i]? = some x → flatA x = true := by
    intro cs
    induction cs with
    | nil => intro _ i x hx; simp at hx
    | cons c cs ih =>
      intro hf i x hx
      simp only [flatL] at hf
      split at hf
      · rename_i hc
        cases i with
        | zero => simp at hx; subst hx; exact hc
        | succ i => exact ih hf i x (by simpa using hx)
      · cases hf
  exact ⟨u, h1, h2, flat_rep h3 (this cells hf j x hj)⟩
/-! ### what hangs on no block of others -/
def freeA : AV → Bool
  | .v _ | .osl _ _ _ _ | .ptr _ _ | .ptr2 _ _ _ | .sl _ [] _ => true
  | _ => false
theorem rep_free {S' : Nat → Prop} {w' : World} {a : AV} {v : Value} (hr : Rep S w β a v) (hf : freeA a = true) (hE : Evo (fun _ => False) w w') : Rep S' w' β a v := by
  cases hr with
  | v => exact .v _
  | ptr s c l hl => exact .ptr s c l hl
  | ptr2 s r c l hl => exact .ptr2 s r c l hl
  | osl s lo len clip l A c hl hc hm hcl hA cs e fr hb room =>
    obtain ⟨cs', h1, h2⟩ := hE.shape _ _ _ _ hb
    exact .osl s lo len clip l A c hl hc hm hcl hA cs' e fr h1 (by rw [h2]; exact room)
  | sl rs rows clip A c b o u hc hm hcl hrs hA hw h1 hr =>
    cases rows with
    | nil => exact .sl rs [] clip A c b o u hc hm hcl (fun row h => by cases h) (fun h => absurd h (Nat.lt_irrefl 0)) (fun i row j a h => by simp at h) h1 fun i row j a h => by simp at h
    | cons _ _ => simp [freeA] at hf
  | _ => simp [freeA] at hf
def freeB : Blk → Bool
  | .box cells => cells.all freeA
  | .arr rows _ => rows.all fun row => row.all fun x => match x with | .v _ => true | _ => false
/-- The same memory, said of fewer blocks of others; where others have gone on. -/
theorem simH_free {B : Nat} {S' : Nat → Prop} {w' : World} (H : SimH B S w β h) (hf : ∀ s blk, h s = some blk → freeB blk = true) (hS : ∀ s l, h s ≠ none → β s = some l → ¬ S' l.blk) (hlt : ∀ b, S' b → b < w'.heap.size) (hb : ∀ s l, β s = some l → w'.heap[l.blk]? = w.heap[l.blk]?) (hB : B ≤ w'.heap.size) : SimH B S' w' β h := by
  refine ⟨fun s blk hs => ?_, H.inj, hlt, hB⟩
  obtain ⟨l, cs, e, fr, k1, k2, k3, k4, k5, k6⟩ := H.own s blk hs
  refine ⟨l, cs, e, fr, k1, (hb _ _ k1).trans k2, k3, k4, hS s l (by rw [hs]; simp) k1, ?_⟩
  have tr : ∀ x v, freeA x = true → Rep S w β x v → Rep S' w' β x v := fun x v hx hr => by
    cases hr with
    | v => exact .v _
    | ptr s c l hl => exact .ptr s c l hl
    | ptr2 s r c l hl => exact .ptr2 s r c l hl
    | osl s lo len clip l A c hl hc hm hcl hA cs e fr hh room => exact .osl s lo len clip l A c hl hc hm hcl hA cs e fr ((hb _ _ hl).trans hh) room
    | sl rs rows clip A c b o u hc hm hcl hrs hA hw h1 hr =>
      cases rows with
      | nil => exact .sl rs [] clip A c b o u hc hm hcl (fun row h => by cases h) (fun h => absurd h (Nat.lt_irrefl 0)) (fun i row j a h => by simp at h) h1 fun i row j a h => by simp at h
      | cons _ _ => simp [freeA] at hx
    | _ => simp [freeA] at hx
  have hfb := hf s blk hs
  cases blk with
  | box cells =>
    intro j a hj
    obtain ⟨u, h1, h2, h3⟩ := k6 j a hj
    exact ⟨u, h1, h2, tr a u (List.all_eq_true.1 hfb a (List.mem_of_getElem? hj)) h3⟩
  | arr rows rs =>
    refine ⟨k6.1, k6.2.1, fun i row j a hi hj => ?_⟩
    obtain ⟨u, h1, h2, h3⟩ := k6.2.2 i row j a hi hj
    have := List.all_eq_true.1 (List.all_eq_true.1 hfb row (List.mem_of_getElem? hi)) a (List.mem_of_getElem? hj)
    cases a <;> simp at this
    cases h3
    exact ⟨_, h1, h2, .v _⟩

abbrev ptrV (lo : Loc) : Value := .pointer (some ⟨lo.blk, lo.base + 0, none⟩)
/-- What a box of the call's own holds. -/
theorem SimX.boxed {s i : Nat} {cells : List AV} (X : SimX C w0 S0 N D S00 w00 kp a00 t h a w S β) (ht : t i = .ptr s 0) (hh : h s = some (.box cells)) :
    ∃ (lo : Loc) (cs : Array Value) (e : TypeId) (fr : Nat × Nat), a.tmps.getD i undef = ptrV lo ∧ w.heap[lo.blk]? = some (.cells cs e fr) ∧ (∀ o, o < cs.size → (decide (fr.1 ≤ o) && decide (o < fr.2)) = false) ∧ InBlk S w β lo cs (.box cells) ∧ ¬ S lo.blk := by
  have hT := X.M.T i
  rw [ht] at hT
  generalize hp : a.tmps.getD i undef = p at hT
  cases hT with
  | ptr _ _ l hl =>
    obtain ⟨l', cs, e, fr, k1, k2, k3, k4, k5, k6⟩ := X.M.H.own s _ hh
    obtain rfl : l' = l := by rw [hl] at k1; exact (Option.some.inj k1).symm
    exact ⟨l', cs, e, fr, rfl, k2, k3, k6, k5⟩
theorem SimX.box {s i : Nat} {lo : Loc} {cells : List AV} (X : SimX C w0 S0 N D S00 w00 kp a00 t h a w S β) (ht : t i = .ptr s 0) (hv : a.tmps.getD i undef = ptrV lo) (hh : h s = some (.box cells)) :
    ∃ cs e fr, w.heap[lo.blk]? = some (.cells cs e fr) ∧ (∀ o, o < cs.size → (decide (fr.1 ≤ o) && decide (o < fr.2)) = false) ∧ InBlk S w β lo cs (.box cells) ∧ ¬ S lo.blk := by
  obtain ⟨l', cs, e, fr, h1, h2, h3, h4, h5⟩ := X.boxed ht hh
  rw [hv] at h1
  simp only [ptrV, Value.pointer.injEq, Option.some.injEq, Addr.mk.injEq] at h1
  obtain ⟨e1, e2, -⟩ := h1
  refine ⟨cs, e, fr, by rw [e1]; exact h2, h3, fun j x hj => ?_, by rw [e1]; exact h5⟩
  have := h4 j x hj
  rwa [show l'.base = lo.base by omega] at this
theorem SimX.same (X : SimX C w0 S0 N D S00 w00 kp a00 t h a w S β) (h1 : w0.os = w00.os) (h2 : w0.tape = w00.tape) (h3 : w0.output = w00.output) : Same S00 w00 w :=
  ⟨X.M.B.os.trans h1, X.M.B.tape.trans h2, X.M.B.output.trans h3, X.sz, fun b _ hb => X.hw b hb⟩
/-- What is known where a piece of code comes to its end. -/
def Qw (st' : ASt) : AEx → ASt → Prop := fun e st => e = .normal ∧ Weak st st' (fun s => s)
theorem seg {F : Fence} {m : Nat} (hF : FOk F C.P) (hC : CtxOk C) {c : Code} {st st' : ASt} {Q : Exit → Act → World → Prop} (hok : codeOkIn N kp c = true) (X : SimX C w0 S0 N (· < st.n) S00 w00 kp a00 st.t st.h a w S β) (hw : codeA C (DCall C) c st (Qw st'))
    (hk : ∀ a' w' S' β', SimX C w0 S0 N (· < st'.n) S00 w00 kp a00 st'.t st'.h a' w' S' β' → Q .normal a' w') (hlt : C.lt = false := by rfl) : c.wpIn F m C.P Q a w := by
  refine wpIn_mono (code_soundIn (m := m) hF hC hlt c hok st _ hw a w S β X) ?_
  rintro e a' w' ⟨e', st1, S', β', rfl, ⟨rfl, hW⟩, X'⟩
  exact hk a' w' S' _ (X'.weak hW)
theorem wpOpsIn_cons {F : Fence} {m : Nat} {P : Program} {ops : Array Oper} {Q : Exit → Act → World → Prop} {i : Nat} {rest : List Nat} {o : Oper} {a : Act} {w : World} (ho : ops[i]? = some o) (hg : o.guard = none) (h : o.wpIn F m P a w (wpOpsIn F m P ops Q rest) Q) : wpOpsIn F m P ops Q (i :: rest) a w := by
  have : Region.wanted o (yielded ops a.tmps) = true := by simp [Region.wanted, hg]
  simp only [wpOpsIn, ho, this, if_true]
  exact h
theorem wpIn_yield {F : Fence} {m l : Nat} {P : Program} (hF : FOk F P) {o : Oper} {f : Operand} {args : Array Operand} {ats : Array TypeId} {vs : Array Value} {a : Act} {w : World} {K : Act → World → Prop} {Q : Exit → Act → World → Prop} {R : World → Prop}
    (ho : o.op = .call { callee := .value f, args := args, argTypes := ats }) (hf : a.eval f = .func (.yield l) #[] #[]) (ha : args.map a.eval = vs) (hy : YieldAt F m P l vs w fun e w' => e = .returned (.bool true) ∧ R w')
    (hK : ∀ w', R w' → K (a.put o.dst (.bool true)) w') : o.wpIn F (m + 1) P a w K Q := by
  obtain ⟨fn, tmps, assign, body, hy, hR⟩ := hy
  unfold Oper.wpIn
  refine ⟨fun f _ => hF.fn f, ?_⟩
  have hs : ∀ r, o.semAt r a.eval = execOp a.eval o := fun r => by
    cases r with
    | none => exact Oper.semAt_none ..
    | some l => exact Oper.semAt_some l a.eval o fun c hc => by rw [ho] at hc; cases hc
  rw [hs]
  have he : (execOp a.eval o).run P w = .ok (.round l fn tmps assign body) w := by
    rw [← hy]
    simp only [execOp, ho, resolve, Deferred.ofValue, hf, ha]
    simp [invoke]
  rw [he, Oper.uponIn_round]
  refine ⟨fun hd => (by rw [hF.dep] at hd; cases hd), hR.mono ?_⟩
  rintro e w' ⟨rfl, hr⟩
  exact hK w' hr
end

/-! ### a loop over an iterator -/
/-- What an iterator promises: xs come, one behind the other; R is what it reads. C: the caller's own blocks. -/
def IterC {α : Type} (P : Program) (g : Nat) (lb : Array Value) (encs : α → Array Value) (xs : List α) (R : Nat → Prop) (w : World) : Prop :=
  ∀ (l : Nat) (J : (Nat → Prop) → List α → World → Prop) (C0 : Nat → Prop) (W : World),
    Same R w W → (∀ b, R b → ¬ C0 b) →
    (∀ C pre A B, J C pre A → Same (fun b => b < W.heap.size ∨ C b) A B → J C pre B) →
    (∀ C pre A, J C pre A → ∀ b, C b → b < A.heap.size) →
    (∀ C pre x A, J C pre A → pre ++ [x] <+: xs → YieldAt Fence.wide 1 P l (encs x) A fun e B =>
      e = .returned (.bool true) ∧ ∃ C', J C' (pre ++ [x]) B ∧ Same (fun b => ¬ C b) A B ∧ (∀ b, C' b → C b ∨ A.heap.size ≤ b)) →
    J C0 [] W →
    Calls P g (#[.func (.yield l) #[] #[]] ++ lb) W fun e W' => (∃ v, e = .returned v) ∧ ∃ C, J C xs W'

theorem wp_rangeFunc_rg {α : Type} {P : Program} {g : Operand} {ps : Array Tmp} {assign body : Code} {Q : Exit → Act → World → Prop} {a : Act} {w : World}
    {gf : Nat} {lb : Array Value} (hg : a.eval g = .func (.func gf) #[] lb) (eg : ∀ args w, (callFunc gf args).run P w = .ok (.enter gf args) w)
    {encs : α → Array Value} {xs : List α} {R : Nat → Prop} {w0 : World} (hseq : IterC P gf lb encs xs R w0) (hR : Same R w0 w) (hRlt : ∀ b, R b → b < w0.heap.size) (hps : ∀ x, (encs x).size = ps.size)
    (I : (Nat → Prop) → List α → World → Prop) (IA : (Nat → Prop) → List α → α → Act → World → Prop) (C0 : Nat → Prop) (hC0 : ∀ b, C0 b → b < w.heap.size) (hCR : ∀ b, R b → ¬ C0 b)
    (hI : ∀ C pre A B, I C pre A → Same (fun b => b < w.heap.size ∨ C b) A B → I C pre B)
    (hIA : ∀ C pre x a A B, IA C pre x a A → Same (fun b => b < w.heap.size ∨ C b) A B → IA C pre x a B)
    (hlt : ∀ C pre A, I C pre A → ∀ b, C b → b < A.heap.size)
    (h0 : I C0 [] w)
    (hassign : ∀ (l : Nat) (C : Nat → Prop) (pre : List α) (x : α) (A : World), I C pre A → pre ++ [x] <+: xs → w.heap.size ≤ A.heap.size →
      assign.wpIn (Fence.wide.inRound l) 1 P (Exit.then (fun a1 B => ∃ C', IA C' pre x a1 B ∧ Same (fun b => ¬ C b) A B ∧ (∀ b, C' b → C b ∨ A.heap.size ≤ b)) (fun _ _ _ => False))
        { tmps := (ps.zip (encs x)).foldl (fun t (p, v) => t.setIfInBounds p v) a.tmps, defers := [] } A)
    (hbody : ∀ (l : Nat) (C : Nat → Prop) (pre : List α) (x : α) (a1 : Act) (A : World), IA C pre x a1 A → pre ++ [x] <+: xs → w.heap.size ≤ A.heap.size →
      body.wpIn (Fence.wide.inRound l) 1 P (fun e _ B => e = .normal ∧ ∃ C', I C' (pre ++ [x]) B ∧ Same (fun b => ¬ C b) A B ∧ (∀ b, C' b → C b ∨ A.heap.size ≤ b)) a1 A)
    (hdone : ∀ (D : Nat) (C : Nat → Prop) (W : World), w.heap.size ≤ D → I C xs W → ¬ C D → W.heap[D]? = some (.deferred (some [])) → Q .normal { a with defers := { target := .collected D, args := #[] } :: a.defers } W) :
    (Code.rangeFunc g ps assign body).wp P Q a w := by
  refine (wpIn_wide (n := 3)).1 (wpIn_rangeFunc ?_)
  intro fn hfn
  show ∃ _, _
  obtain ⟨rec, hrec⟩ : ∃ rec : LoopState → Option Code → Loop, rec = fun st pe => { state := st, pending := pe, fn, tmps := a.tmps, params := ps, assign, body, defers := w.heap.size } := ⟨_, rfl⟩
  obtain ⟨W1, hW1⟩ : ∃ W1, (w.alloc (.deferred (some []))).alloc (.loop (rec .ready none)) = W1 := ⟨_, rfl⟩
  have hs1 : W1.heap.size = w.heap.size + 2 := by rw [← hW1]; simp
  have hL1 : W1.heap[w.heap.size + 1]? = some (.loop (rec .ready none)) := by
    rw [← hW1]; have := World.alloc_heap_new (w.alloc (.deferred (some []))) (.loop (rec .ready none)); rwa [World.size_alloc] at this
  have hK1 : W1.heap[w.heap.size]? = some (.deferred (some [])) := by
    rw [← hW1]; exact (Below.heap_alloc _ _ _ (by simp)).trans (World.alloc_heap_new w _)
  have hb1 : Below w.heap.size w W1 := by
    rw [← hW1]; exact ((Below.refl _ w).alloc (Nat.le_refl _) _).alloc (by simp) _
  have hput : ∀ (K : Nat → Prop) (A : World) (o : Obj), ¬ K (w.heap.size + 1) → Same K A (A.putObj (w.heap.size + 1) o) := fun K A o hk =>
    ⟨rfl, rfl, rfl, by simp, fun b _ hb => World.putObj_heap_other (fun e => hk (e ▸ hb))⟩
  refine ⟨w.heap.size + 1, [{ target := .collected w.heap.size, args := #[] }], W1, { target := .fn (.func gf) lb, args := #[.func (.yield (w.heap.size + 1)) #[] #[]] }, W1, gf,
    #[.func (.yield (w.heap.size + 1)) #[] #[]] ++ lb, W1, ?_, ?_, ?_, ?_, fun _ => by omega, ?_⟩
  · rw [← hW1, hrec]; exact run_enterLoop_outer _ _ _ _ _
  · simp only [resolve, hg]
    simp [go_sem]
  · intro f' _; trivial
  · simp [invoke, go_sem, eg]
  · refine callsIn_wide.2 ((hseq (w.heap.size + 1)
      (fun CC pre A => ∃ C, I C pre A ∧ (∀ b, CC b ↔ C b ∨ b = w.heap.size + 1) ∧ (∀ b, C b → b < w.heap.size ∨ w.heap.size + 1 < b) ∧ A.heap[w.heap.size + 1]? = some (.loop (rec .ready none)) ∧ A.heap[w.heap.size]? = some (.deferred (some [])))
      (fun b => C0 b ∨ b = w.heap.size + 1) W1 ?_ ?_ ?_ ?_ ?_ ?_).mono ?_)
    · exact hR.trans (Same.of_below hb1 fun x hx => Nat.lt_of_lt_of_le (hRlt x hx) hR.size)
    · rintro b hb (h | h)
      · exact hCR b hb h
      · have := hRlt b hb; have := hR.size; omega
    · rintro CC pre A B ⟨C, hi, hc, hcl, hl, hk⟩ hs
      have l1 := (Array.getElem?_eq_some_iff.1 hl).1
      have l2 := (Array.getElem?_eq_some_iff.1 hk).1
      refine ⟨C, hI C pre A B hi (hs.mono fun x _ hx => hx.elim (fun h => .inl (by omega)) (fun h => .inr ((hc x).2 (.inl h)))), hc, hcl, (hs.block _ l1 (.inl (by omega))).trans hl, (hs.block _ l2 (.inl (by omega))).trans hk⟩
    · rintro CC pre A ⟨C, hi, hc, hcl, hl, hk⟩ b hb
      rcases (hc b).1 hb with h | h
      · exact hlt C pre A hi b h
      · rw [h]; exact (Array.getElem?_eq_some_iff.1 hl).1
    · -- ONE ROUND
      rintro CC pre x A ⟨C, hi, hc, hcl, hl, hk⟩ hpre
      have l1 := (Array.getElem?_eq_some_iff.1 hl).1
      have hnr : ¬ C (w.heap.size + 1) := fun h => by have := hcl _ h; omega
      have hnd : ¬ C (w.heap.size) := fun h => by have := hcl _ h; omega
      have hy := run_yield (P := P) (args := encs x) hl (by rw [hrec]; exact hps x)
      rw [hrec] at hy
      refine ⟨fn, _, assign, body, hy, roundIn_of_wpIn trivial (wpIn_mono (hassign _ C pre x A hi hpre (by omega)) ?_)⟩
      intro e a1 B hB
      cases e <;> try exact hB.elim
      obtain ⟨C', hia, hsB, hgrow⟩ := hB
      have hlB : B.heap[w.heap.size + 1]? = some (.loop (rec .ready none)) := (hsB.block _ l1 hnr).trans hl
      have hkB : B.heap[w.heap.size]? = some (.deferred (some [])) := (hsB.block _ (by omega) hnd).trans hk
      have hnr' : ¬ C' (w.heap.size + 1) := fun h => (hgrow _ h).elim hnr (fun h => by omega)
      have hnd' : ¬ C' (w.heap.size) := fun h => (hgrow _ h).elim hnd (fun h => by omega)
      have lB := (Array.getElem?_eq_some_iff.1 hlB).1
      refine ⟨_, run_beginRound hlB (by rw [hrec]), ?_⟩
      have hl2 : (B.putObj (w.heap.size + 1) (.loop { rec .ready none with state := .busy })).heap[w.heap.size + 1]? = some (.loop { rec .ready none with state := .busy }) := World.putObj_heap_same lB
      have hk2 : (B.putObj (w.heap.size + 1) (.loop { rec .ready none with state := .busy })).heap[w.heap.size]? = some (.deferred (some [])) := (World.putObj_heap_other (by omega)).trans hkB
      have hia2 := hIA C' pre x a1 B _ hia (hput (fun b => b < w.heap.size ∨ C' b) B (.loop { rec .ready none with state := .busy }) (by rintro (h | h); omega; exact hnr' h))
      refine wpIn_mono (hbody _ C' pre x a1 _ hia2 hpre (by simp; omega)) ?_
      rintro e a3 W3 ⟨rfl, C3, hi3, hs3, hg3⟩
      have hl3 : W3.heap[w.heap.size + 1]? = some (.loop { rec .ready none with state := .busy }) := (hs3.block _ (by simp; omega) hnr').trans hl2
      have hk3 : W3.heap[w.heap.size]? = some (.deferred (some [])) := (hs3.block _ (by simp; omega) hnd').trans hk2
      have l3 := (Array.getElem?_eq_some_iff.1 hl3).1
      have hr := run_endRound (P := P) (none : Option Code) hl3
      have hnr3 : ¬ C3 (w.heap.size + 1) := fun h => (hg3 _ h).elim hnr' (fun h => by simp at h; omega)
      refine ⟨_, _, hr, rfl, fun b => C3 b ∨ b = w.heap.size + 1, ⟨C3, ?_, fun b => Iff.rfl, ?_, ?_, ?_⟩, ?_, ?_⟩
      · exact hI C3 _ W3 _ hi3 (hput _ W3 _ (by rintro (h | h); omega; exact hnr3 h))
      · intro b hb
        rcases hg3 b hb with h | h
        · rcases hgrow b h with h | h
          · exact hcl b h
          · right; omega
        · simp at h; right; omega
      · rw [World.putObj_heap_same l3, hrec]; rfl
      · exact (World.putObj_heap_other (by omega)).trans hk3
      · have q1 : Same (fun b => ¬ CC b) A B := hsB.mono fun b _ hb h => hb ((hc b).2 (.inl h))
        have q2 : Same (fun b => ¬ CC b) B (B.putObj (w.heap.size + 1) (.loop { rec .ready none with state := .busy })) := hput _ _ _ (fun h => h ((hc _).2 (.inr rfl)))
        have q4 : Same (fun b => ¬ CC b) W3 _ := hput (fun b => ¬ CC b) W3 (.loop { rec .ready none with state := .ready, pending := none }) (fun h => h ((hc _).2 (.inr rfl)))
        refine Same.trans ?_ q4
        have q3 : ∀ b, b < A.heap.size → ¬ CC b → W3.heap[b]? = A.heap[b]? := fun b hb hcc => by
          have nC : ¬ C b := fun h => hcc ((hc b).2 (.inl h))
          have nC' : ¬ C' b := fun h => (hgrow b h).elim nC (fun h => by omega)
          rw [hs3.block b (by simp; exact Nat.lt_of_lt_of_le hb hsB.size) nC', q2.block b (Nat.lt_of_lt_of_le hb hsB.size) hcc, q1.block b hb hcc]
        exact ⟨hs3.os.trans hsB.os, hs3.tape.trans hsB.tape, hs3.output.trans hsB.output, Nat.le_trans hsB.size (by have := hs3.size; simpa using this), q3⟩
      · rintro b (h | h)
        · rcases hg3 b h with h | h
          · exact (hgrow b h).imp (fun h => (hc b).2 (.inl h)) id
          · exact .inr (Nat.le_trans hsB.size (by simpa using h))
        · exact .inl ((hc b).2 (.inr h))
    · refine ⟨C0, hI C0 [] w W1 h0 (Same.of_below hb1 fun x hx => hx.elim id (hC0 x)), fun b => Iff.rfl, fun b hb => .inl (hC0 b hb), hL1, hK1⟩
    · -- BEHIND THE ITERATOR
      rintro e W2 ⟨⟨v, rfl⟩, CC, C, hi, hc, hcl, hl, hk⟩
      have hnr : ¬ C (w.heap.size + 1) := fun h => by have := hcl _ h; omega
      have hnd : ¬ C (w.heap.size) := fun h => by have := hcl _ h; omega
      refine ⟨none, _, by have := run_endLoop (P := P) hl (by rw [hrec]; simp); rw [hrec] at this; exact this, ?_⟩
      exact hdone w.heap.size C _ (Nat.le_refl _) (hI C xs W2 _ hi (hput _ W2 _ (by rintro (h | h); omega; exact hnr h))) hnd ((World.putObj_heap_other (by omega)).trans hk)
end Go.Proofs.YtahnhhbgkmlfcaaDoor
