/- The second machine and the model: a step of a region, a region in the text's order, code, functions. -/
import Derived.Test.YtckjihpdjefpgaaAbsT
namespace Go.Proofs.Ytckjihpdjefpgaa
open Go.RowKit
section
variable {C : Ctx} {all : List Oper} {o : Oper} {s N : Nat} {t : Nat → AV} {h h' : AH} {a : Act} {w w0 : World} {D : Nat → Prop} {S0 : Nat → Prop} {S : Nat → Prop} {β : Bt}

theorem put_get (a : Act) {d : Option Nat} {v : Value} {x : AV} {S' : Nat → Prop} {w' : World} {β' : Bt} (hT : ∀ i, Rep S' w' β' (t i) (a.tmps.getD i undef)) (hx : Rep S' w' β' x v) (hd : ∀ k, d = some k → k < a.tmps.size) :
    ∀ i, Rep S' w' β' (updO t d x i) ((a.put d v).tmps.getD i undef) := by
  intro i
  cases d with
  | none => exact hT i
  | some k =>
    have hk := hd k rfl
    by_cases hi : i = k
    · subst hi
      have : ((a.put (some i) v).tmps.getD i undef) = v := by simp [Act.put, Array.getD_eq_getD_getElem?, hk]
      rw [this]
      show Rep S' w' β' (upd t i x i) v
      rw [upd_same]; exact hx
    · have : ((a.put (some k) v).tmps.getD i undef) = a.tmps.getD i undef := by simp [Act.put, Array.getD_eq_getD_getElem?, Array.getElem?_setIfInBounds_ne (Ne.symm hi)]
      rw [this]
      show Rep S' w' β' (upd t k x i) _
      rw [upd_other _ _ hi]; exact hT i

/-- The state behind a step. -/
theorem sim_next (M : SimD C w0 S0 N D t h a w S β) {S' : Nat → Prop} {w' : World} {β' : Bt} {h' : AH} (K : StepK w0.heap.size S w β s S' w' β') (H : SimH w0.heap.size S' w' β' h') {x : AV} {v : Value} (hx : Rep S' w' β' x v) {d : Option Nat} (hd : ∀ k, d = some k → k < N) :
    SimD C w0 S0 N (fun n => D n ∨ n = s) (updO t d x) h' (a.put d v) w' S' β' := by
  refine ⟨put_get a (fun i => (M.T i).mono K.hS K.hE K.hle) hx (fun k hk => by rw [M.sz]; exact hd k hk), H, M.B.trans K.hB, fun y l hy => (K.hdom y l hy).imp (M.dom y l) id, ?_, ?_, fun g cells hg => (M.G g cells hg).mono K.hS K.hE (BtLe.refl _), fun b hb => (K.hN b hb).elim (M.nw b) .inr⟩
  · cases d <;> exact M.df
  · cases d with
    | none => exact M.sz
    | some k => simp only [Act.put, Array.size_setIfInBounds]; exact M.sz

/-- A step that comes to something is carried out so. -/
theorem nodeR_sound (hC : CtxOk C) (M : SimD C w0 S0 N D t h a w S β) (hs : β s = none) (ev : Operand → AV) (hev : ∀ x ∈ o.op.operands, Rep S w β (ev x) (a.eval x)) {x : AV} (hn : NodeR C (DCall C) h (opA C ev h s o.op) x h') (hd : ∀ k, o.dst = some k → k < N)
    {K : Act → World → Prop} {Q : Exit → Act → World → Prop} (hK : ∀ v w' S' β', Rep S' w' β' x v → SimH w0.heap.size S' w' β' h' → StepK w0.heap.size S w β s S' w' β' → K (a.put o.dst v) w') : o.wp C.P a w K Q := by
  have hop := op_sound (B := w0.heap.size) hC M.H hs ev a.eval o hev
  have fin : Post w0.heap.size S w β s ((execOp a.eval o).run C.P w) x h' → o.wp C.P a w K Q := by
    rintro ⟨v, w', S', β', h1, h2, h3, h4⟩
    unfold Oper.wp
    rcases h1 with h1 | ⟨h1, hv⟩
    · rw [h1]; exact hK v w' S' β' h2 h3 h4
    · rw [h1]; subst hv; exact hK undef w' S' β' h2 h3 h4
  cases hr : opA C ev h s o.op with
  | bad => rw [hr] at hn; exact hn.elim
  | ok y => rw [hr] at hn hop; obtain ⟨rfl, rfl⟩ := hn; exact fin hop
  | need p y => rw [hr] at hn hop; obtain ⟨hp, rfl, rfl⟩ := hn; exact fin (hop hp)
  | idx rows i f => rw [hr] at hn hop; obtain ⟨row, h0, h1, h2, rfl⟩ := hn; exact fin (hop row x h0 h1 h2)
  | fx p y h2 => rw [hr] at hn hop; obtain ⟨hp, rfl, rfl⟩ := hn; exact fin (hop hp)
  | idxfx rows i f => rw [hr] at hn hop; obtain ⟨row, h0, h1, h2, rfl⟩ := hn; exact fin (hop row h' h0 h1 h2)
  | str p rows => rw [hr] at hn hop; obtain ⟨l, hp, h1, rfl, rfl⟩ := hn; exact fin (hop l hp h1)
  | call f args =>
    rw [hr] at hn hop
    obtain ⟨c1, c2, c3, c4, rfl⟩ := hn
    obtain ⟨vs, e1, e2⟩ := hop
    obtain ⟨g1, g2⟩ := call_sound (s := s) M e1 c1 c2 c3 c4
    unfold Oper.wp
    rw [e2, g1]
    show Calls C.P f vs.toArray w _
    refine g2.mono ?_
    rintro e w' ⟨v, S', he, k1, k2, k3⟩
    subst he
    exact hK v w' S' β k1 k2 k3

/-- ONE STEP OF A REGION. -/
theorem step_sound (hC : CtxOk C) (M : SimD C w0 S0 N D t h a w S β) (hs : β s = none) {ops : Array Oper} (hall : ops.toList = all) {x : AV} (hst : StepR C (DCall C) all o s t h x h') (hd : ∀ k, o.dst = some k → k < N) (hgd : ∀ i pol d, o.guard = some (i, pol) → (all[i]?).bind (·.dst) = some d → d < N)
    {K : Act → World → Prop} {Q : Exit → Act → World → Prop} (hK : ∀ a' w' S' β', SimD C w0 S0 N (fun n => D n ∨ n = s) (updO t o.dst x) h' a' w' S' β' → K a' w') :
    if Region.wanted o (yielded ops a.tmps) then o.wp C.P a w K Q ∨ (o.asks C.P a w ∧ LetsOut Q) else K (a.put o.dst undef) w := by
  unfold StepR at hst
  cases hg : o.guard with
  | none =>
    simp only [hg] at hst
    have : Region.wanted o (yielded ops a.tmps) = true := by simp [Region.wanted, hg]
    rw [if_pos this]
    exact .inl (nodeR_sound hC M hs _ (fun x _ => ev_rep M x) hst hd fun v w' S' β' h1 h2 h3 => hK _ _ S' β' (sim_next M h3 h2 h1 hd))
  | some q =>
    obtain ⟨i, pol⟩ := q
    simp only [hg] at hst
    obtain ⟨d, g, y, q1, q2, rfl, rfl, q3⟩ := hst
    rw [wanted_iff M hall hg q1 q2 (hgd i pol d hg q1)]
    cases g with
    | false =>
      rw [if_neg (by simp)]
      exact hK _ _ S β (sim_next M (StepK.refl _ _ _ _ _) M.H (.optF false y rfl) hd)
    | true =>
      rw [if_pos rfl]
      refine .inl ?_
      rcases q3 with ⟨_, q5⟩ | ⟨c, q4, q5, q6⟩
      · exact nodeR_sound hC M hs _ (fun x _ => ev_rep M x) (q5 rfl).2 hd fun v w' S' β' h1 h2 h3 => hK _ _ S' β' (sim_next M h3 h2 (.optT true y v rfl h1) hd)
      · exact nodeR_sound hC M hs _ (evS_rep M o.op q4 (q5 rfl)) (q6 rfl).2 hd fun v w' S' β' h1 h2 h3 => hK _ _ S' β' (sim_next M h3 h2 (.optT true y v rfl h1) hd)

/-! ### a region in the text's order -/
/-- What a region's slots must be. -/
def slotsOk (N : Nat) (l : List Oper) : Bool := l.all fun o => match o.dst with | some d => Nat.blt d N | none => true

theorem slots_lt {l : List Oper} (hb : slotsOk N l = true) {o : Oper} (ho : o ∈ l) : ∀ k, o.dst = some k → k < N := fun k hk => by
  have := List.all_eq_true.1 hb o ho
  simp only [hk] at this
  exact Nat.le_of_ble_eq_true this
theorem guard_lt (hb : slotsOk N all = true) : ∀ (i d : Nat), (all[i]?).bind (fun (o : Oper) => o.dst) = some d → d < N := fun i d h => by
  obtain ⟨o, ho, hd⟩ := Option.bind_eq_some_iff.1 h
  exact slots_lt hb (List.mem_of_getElem? ho) d hd

theorem seq_sound (hC : CtxOk C) {ops : Array Oper} (hall : ops.toList = all) (hb : slotsOk N all = true) {K : ASt → Prop} {Q : Exit → Act → World → Prop} {n : Nat} : ∀ (rest : List Oper) (j : Nat) (t : Nat → AV) (h : AH) (a : Act) (w : World) (S : Nat → Prop) (β : Bt), all.drop j = rest → regA C (DCall C) all rest j ⟨t, h, n⟩ K → SimD C w0 S0 N (· < n + j) t h a w S β →
    (∀ st a' w' S' β', K st → SimD C w0 S0 N (· < st.n) st.t st.h a' w' S' β' → Q .normal a' w') → wpOps C.P ops Q (List.range' j rest.length) a w
  | [], j, t, h, a, w, S, β, _, hr, M, hQ => hQ ⟨t, h, n + j⟩ a w S β hr M
  | o :: rest, j, t, h, a, w, S, β, hdrop, hr, M, hQ => by
    obtain ⟨x, h', h1, h2⟩ := step_inv hr
    have hj : all[j]? = some o := by
      have : (all.drop j)[0]? = some o := by rw [hdrop]; rfl
      simpa using this
    have hoj : ops[j]? = some o := by rw [← hj, ← hall, Array.getElem?_toList]
    have hmem : o ∈ all := List.mem_of_getElem? hj
    have hs : β (n + j) = none := by
      cases hq : β (n + j) with
      | none => rfl
      | some l => have := M.dom _ _ hq; omega
    rw [List.length_cons, List.range'_succ]
    simp only [wpOps, hoj]
    refine step_sound hC M hs hall h1 (slots_lt hb hmem) (fun i pol d _ hd => guard_lt hb i d hd) fun a' w' S' β' M' => ?_
    refine seq_sound hC hall hb rest (j + 1) _ h' a' w' S' β' ?_ h2 ?_ hQ
    · rw [← List.drop_drop, hdrop]; rfl
    · exact ⟨M'.T, M'.H, M'.B, fun y l hy => (M'.dom y l hy).elim (fun (h : y < n + j) => show y < n + (j + 1) by omega) (fun (h : y = n + j) => show y < n + (j + 1) by omega), M'.df, M'.sz, M'.G, M'.nw⟩
end
end Go.Proofs.Ytckjihpdjefpgaa
