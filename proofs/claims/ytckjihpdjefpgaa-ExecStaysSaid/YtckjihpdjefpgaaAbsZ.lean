/- The second machine and the model: a region whose order is drawn comes to what it comes to in the text's order. -/
import Derived.Test.YtckjihpdjefpgaaAbsY
namespace Go.Proofs.Ytckjihpdjefpgaa
open Go.RowKit
section
variable {C : Ctx}

theorem opA_ev_congr {ev ev' : Operand → AV} {h : AH} {s : Nat} (op : Op) (he : ∀ x ∈ op.operands, ev x = ev' x) : opA C ev h s op = opA C ev' h s op := by
  cases op <;> simp only [Op.operands] at he <;> simp only [opA]
  case move x => rw [he x (by simp)]
  case assign x => rw [he x (by simp)]
  case pick c a b => rw [he c (by simp), he a (by simp), he b (by simp)]
  case box t x => rw [he x (by simp)]
  case build t ps =>
    rw [List.map_congr_left (f := fun p : Nat × Operand => (p.1, ev p.2)) (g := fun p : Nat × Operand => (p.1, ev' p.2)) fun p hp => by rw [he p.2 (by simp; exact ⟨p.1, by simpa using hp⟩)]]
  case buildSlice t n ps =>
    rw [List.map_congr_left (f := fun p : Nat × Operand => (p.1, ev p.2)) (g := fun p : Nat × Operand => (p.1, ev' p.2)) fun p hp => by rw [he p.2 (by simp; exact ⟨p.1, by simpa using hp⟩)]]
  case load t a => rw [he a (by simp)]
  case store t a x => rw [he a (by simp), he x (by simp)]
  case nilCheck x => rw [he x (by simp)]
  case binOp op t x y yt => rw [he x (by simp), he y (by simp)]
  case unOp op t x => rw [he x (by simp)]
  case convert src dst x => rw [he x (by simp)]
  case makeFunc fn first caps =>
    cases fn <;> try rfl
    simp only
    rw [List.map_congr_left (f := ev) (g := ev') (l := first.toList) fun x hx => he x (by simp; exact .inl (by simpa using hx)), List.map_congr_left (f := ev) (g := ev') (l := caps.toList) fun x hx => he x (by simp; exact .inr (by simpa using hx))]
  case makeSlice t l c => rw [he l (by simp), he c (by simp)]
  case slice t x lo hi mx =>
    have opt : ∀ (y : Option Operand), (∀ z, y = some z → ev z = ev' z) → y.map ev = y.map ev' := by
      intro y hy
      cases y with
      | none => rfl
      | some z => simp only [Option.map_some, hy z rfl]
    rw [he x (by simp), opt lo fun z hz => he z (by subst hz; simp), opt hi fun z hz => he z (by subst hz; simp), opt mx fun z hz => he z (by subst hz; simp)]
  case fieldAddr t x f => rw [he x (by simp)]
  case field t x f => rw [he x (by simp)]
  case indexAddr t x i => rw [he x (by simp), he i (by simp)]
  case index t x i => rw [he x (by simp), he i (by simp)]
  case extract x i => rw [he x (by simp)]
  case call c =>
    obtain ⟨callee, args, ats⟩ := c
    have ha : args.toList.map ev = args.toList.map ev' := List.map_congr_left fun x hx => he x (by simp [Call.operands]; exact .inr (by simpa using hx))
    cases callee with
    | builtin b => simp only; rw [ha]
    | invoke r m => rfl
    | value f => simp only; rw [he f (by simp [Call.operands]), ha]

theorem mem_tmpsO : ∀ (l : List Operand) (i : Nat), .tmp i ∈ l → i ∈ tmpsO l
  | [], _, h => by cases h
  | x :: l, i, h => by
    rcases List.mem_cons.1 h with rfl | h
    · simp [tmpsO]
    · have := mem_tmpsO l i h
      cases x <;> simp [tmpsO, this]

theorem condsA_congr {t t' : Nat → AV} : ∀ (l : List Operand), (∀ i, .tmp i ∈ l → t i = t' i) → condsA t l = condsA t' l
  | [], _ => rfl
  | x :: l, h => by
    have ih := condsA_congr l fun i hi => h i (List.mem_cons_of_mem _ hi)
    cases x with
    | tmp i => simp only [condsA, h i (List.mem_cons_self), ih]
    | _ => simp only [condsA, ih]

theorem condsO_congr {t t' : Nat → AV} (op : Op) (h : ∀ i, .tmp i ∈ op.operands.toList → t i = t' i) : condsO t op = condsO t' op := by
  cases op <;> first | exact condsA_congr _ h | skip
  case pick c x y => exact condsA_congr [c] fun i hi => h i (by simp at hi; subst hi; exact List.mem_cons_self)
theorem evS_congr {C : Ctx} {t t' : Nat → AV} (op : Op) (h : ∀ x ∈ op.operands, evA C t x = evA C t' x) (x : Operand) (hx : x ∈ op.operands) : evS C t op x = evS C t' op x := by
  have e := h x hx
  cases op <;> first | exact congrArg strip e | skip
  case pick c p q => show (match sameO c x with | true => strip (evA C t x) | false => evA C t x) = (match sameO c x with | true => strip (evA C t' x) | false => evA C t' x); rw [e]

variable {all : List Oper} {o : Oper} {s N : Nat} {t tX : Nat → AV} {h h' hX : AH} {a : Act} {w w0 : World} {D : Nat → Prop} {S0 : Nat → Prop} {S : Nat → Prop} {β : Bt} {R : FuncId → List AV → AV → Prop} {x : AV}

theorem stepR_tr (M : SimD C w0 S0 N D tX hX a w S β) (hst : StepR C R all o s t h x h') (hlook : ∀ i ∈ looksO all o, tX i = t i) (hag : readsO o.op = true → Agree β h hX) :
    ∃ h2, StepR C R all o s tX hX x h2 ∧ HRel h hX s (writesO o.op) β h' h2 := by
  have hops : ∀ i, .tmp i ∈ o.op.operands.toList → tX i = t i := fun i hi => hlook i (by simp only [looksO, List.mem_append]; exact .inl (.inr (mem_tmpsO _ i hi)))
  have hev : ∀ x ∈ o.op.operands, evA C tX x = evA C t x := fun x hx => by
    cases x with
    | tmp i => exact hops i (by simpa using hx)
    | _ => rfl
  unfold StepR at hst ⊢
  cases hg : o.guard with
  | none =>
    simp only [hg] at hst ⊢
    rw [opA_ev_congr (ev' := evA C tX) o.op fun x hx => (hev x hx).symm] at hst
    exact nodeR_tr o.op (fun x _ => ev_rep M x) hag hst
  | some q =>
    obtain ⟨i, pol⟩ := q
    simp only [hg] at hst ⊢
    obtain ⟨d, g, y, q1, q2, q3, rfl, q4⟩ := hst
    have hd : tX d = t d := hlook d (by simp only [looksO, hg, q1, List.mem_append]; exact .inr (by simp))
    have hcs : condsO tX o.op = condsO t o.op := condsO_congr _ hops
    refine ⟨hX, ⟨d, g, y, q1, by rw [hd]; exact q2, q3, rfl, ?_⟩, HRel.refl⟩
    rcases q4 with ⟨c1, c2⟩ | ⟨c, c1, c2, c3⟩
    · refine .inl ⟨by rw [hcs]; exact c1, fun hg' => ?_⟩
      obtain ⟨f1, f2⟩ := c2 hg'
      rw [opA_ev_congr (ev' := evA C tX) o.op fun x hx => (hev x hx).symm] at f1 f2
      obtain ⟨h2, e1, _⟩ := nodeR_tr o.op (fun x _ => ev_rep M x) hag f2
      have T := opA_tr (C := C) (s := s) o.op (fun x _ => ev_rep M x) hag
      have e2 : opA C (evA C tX) hX s o.op = opA C (evA C tX) h' s o.op := by
        cases hr : opA C (evA C tX) h' s o.op <;> rw [hr] at T f1 <;> first | exact T | (simp [isFx] at f1)
      rw [e2] at e1 ⊢
      refine ⟨f1, ?_⟩
      cases hr : opA C (evA C tX) h' s o.op <;> rw [hr] at e1 f1 <;> first | (simp [isFx] at f1; done) | skip
      · obtain ⟨rfl, rfl⟩ := e1; exact ⟨rfl, rfl⟩
      · obtain ⟨p, rfl, rfl⟩ := e1; exact ⟨p, rfl, rfl⟩
      · obtain ⟨row, p1, p2, p3, rfl⟩ := e1; exact ⟨row, p1, p2, p3, rfl⟩
      · obtain ⟨l, p1, p2, p3, rfl⟩ := e1; exact ⟨l, p1, p2, p3, rfl⟩
      · obtain ⟨p1, p2, p3, p4, rfl⟩ := e1; exact ⟨p1, p2, p3, p4, rfl⟩
    · refine .inr ⟨c, by rw [hcs]; exact c1, c2, fun hg' => ?_⟩
      obtain ⟨f1, f2⟩ := c3 hg'
      rw [opA_ev_congr (ev' := evS C tX o.op) o.op fun x hx => (evS_congr o.op hev x hx).symm] at f1 f2
      have hsr : ∀ x ∈ o.op.operands, Rep S w β (evS C tX o.op x) (a.eval x) := evS_rep M o.op (hcs.trans c1) (c2 hg')
      obtain ⟨h2, e1, _⟩ := nodeR_tr o.op hsr hag f2
      have T := opA_tr (C := C) (s := s) o.op hsr hag
      have e2 : opA C (evS C tX o.op) hX s o.op = opA C (evS C tX o.op) h' s o.op := by
        cases hr : opA C (evS C tX o.op) h' s o.op <;> rw [hr] at T f1 <;> first | exact T | (simp [isFx] at f1)
      rw [e2] at e1 ⊢
      refine ⟨f1, ?_⟩
      cases hr : opA C (evS C tX o.op) h' s o.op <;> rw [hr] at e1 f1 <;> first | (simp [isFx] at f1; done) | skip
      · obtain ⟨rfl, rfl⟩ := e1; exact ⟨rfl, rfl⟩
      · obtain ⟨p, rfl, rfl⟩ := e1; exact ⟨p, rfl, rfl⟩
      · obtain ⟨row, p1, p2, p3, rfl⟩ := e1; exact ⟨row, p1, p2, p3, rfl⟩
      · obtain ⟨l, p1, p2, p3, rfl⟩ := e1; exact ⟨l, p1, p2, p3, rfl⟩
      · obtain ⟨p1, p2, p3, p4, rfl⟩ := e1; exact ⟨p1, p2, p3, p4, rfl⟩
end
end Go.Proofs.Ytckjihpdjefpgaa
