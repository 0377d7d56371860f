/- The second machine and the model: a region whose order is drawn, where only what names one place of memory is told in order. -/
import Derived.Test.YtpefnjbmbfdmmaaDoorAbsZ2
namespace Go.Proofs.YtpefnjbmbfdmmaaDoor
open Go.RowKit

def cutB (l : List Nat) (β : Bt) : Bt := fun s => if s ∈ l then β s else none

theorem flatMap_eq {α : Type} {f g : Nat → List α} : ∀ (l : List Nat), (∀ i ∈ l, f i = g i) → l.flatMap f = l.flatMap g
  | [], _ => rfl
  | x :: l, h => by rw [List.flatMap_cons, List.flatMap_cons, h x List.mem_cons_self, flatMap_eq l fun i hi => h i (List.mem_cons_of_mem _ hi)]
theorem namesL_get : ∀ (cs : List AV) (i : Nat) (a : AV) (s : Nat), cs[i]? = some a → s ∈ namesA a → s ∈ namesL cs
  | [], i, a, s, h, _ => by simp at h
  | c :: cs, 0, a, s, h, hs => by simp at h; subst h; simp [namesL, hs]
  | c :: cs, i + 1, a, s, h, hs => by simp only [namesL, List.mem_append]; exact .inr (namesL_get cs i a s (by simpa using h) hs)

theorem rep_cut0 {S : Nat → Prop} {w : World} {β : Bt} {a : AV} {x : Value} (h : Rep S w β a x) : ∀ {β' : Bt}, (∀ s ∈ namesA a, ∀ l, β s = some l → β' s = some l) → Rep S w β' a x := by
  induction h with
  | v x => intro β' _; exact .v x
  | agg cs vs hl h1 h ih => intro β' hb; exact .agg cs vs hl h1 fun i a u h1 h2 => ih i a u h1 h2 fun s hs => hb s (namesL_get cs i a s h1 hs)
  | tup cs vs hl h ih => intro β' hb; exact .tup cs vs hl fun i a u h1 h2 => ih i a u h1 h2 fun s hs => hb s (namesL_get cs i a s h1 hs)
  | sl rs rows clip A c b o u hc hm hcl hrs hA hw h1 hr ih => intro β' _; exact .sl rs rows clip A c b o u hc hm hcl hrs hA hw h1 hr
  | dp rs col row b o u hrs hb hw h1 hr ih => intro β' _; exact .dp rs col row b o u hrs hb hw h1 hr
  | ptr s col l hl => intro β' hb; exact .ptr s col l (hb s (by simp [namesA]) _ hl)
  | ptr2 s row col l hl => intro β' hb; exact .ptr2 s row col l (hb s (by simp [namesA]) _ hl)
  | osl s lo len clip l A c hl hc hm hcl hA cs e fr hb room => intro β' hβ; exact .osl s lo len clip l A c (hβ s (by simp [namesA]) _ hl) hc hm hcl hA cs e fr hb room
  | clo f first caps vs us hl h hl' h' ih ih' => intro β' hb; exact .clo f first caps vs us hl (fun i a u h1 h2 => ih i a u h1 h2 fun s hs => hb s (by simp only [namesA, List.mem_append]; exact .inl (namesL_get _ i a s h1 hs))) hl' fun i a u h1 h2 => ih' i a u h1 h2 fun s hs => hb s (by simp only [namesA, List.mem_append]; exact .inr (namesL_get _ i a s h1 hs))
  | optT g a x hg h ih => intro β' hb; exact .optT g a x hg (ih fun s hs => hb s (by simpa [namesA] using hs))
  | optF g a hg => intro β' _; exact .optF g a hg
  | any x => intro β' _; exact .any x
theorem rep_cut {S : Nat → Prop} {w : World} {β : Bt} {l : List Nat} {a : AV} {x : Value} (h : Rep S w β a x) (hl : ∀ s ∈ namesA a, s ∈ l) : Rep S w (cutB l β) a x :=
  rep_cut0 h fun s hs loc hb => by show (if s ∈ l then β s else none) = some loc; rw [if_pos (hl s hs)]; exact hb

theorem namesL_absC : ∀ (l : List Value) (s : Nat), s ∉ namesL (l.map absC)
  | [], s => by simp [namesL]
  | v :: l, s => by
    simp only [List.map_cons, namesL, List.mem_append, not_or]
    refine ⟨?_, namesL_absC l s⟩
    unfold absC
    split <;> simp [namesA]
theorem names_absV (v : Value) (s : Nat) : s ∉ namesA (absV v) := by
  unfold absV
  split
  · simp [namesA]
  · split
    · simp only [namesA]; exact namesL_absC _ s
    · simp [namesA]
  · simp [namesA]
theorem mem_tmpsO' : ∀ (l : List Operand) (i : Nat), .tmp i ∈ l → i ∈ tmpsO l := mem_tmpsO
theorem names_evA {C : Ctx} {t : Nat → AV} {x : Operand} {s : Nat} (h : s ∈ namesA (evA C t x)) : ∃ i, x = .tmp i ∧ s ∈ namesA (t i) := by
  cases x with
  | tmp i => exact ⟨i, rfl, h⟩
  | const v => exact absurd h (names_absV v s)
  | global g =>
    have h : s ∈ namesA (match C.G g with | some cells => .dp cells.length 0 cells | none => .any) := h
    split at h <;> simp [namesA] at h
  | func f => simp [evA, namesA, namesL] at h
theorem names_ev {C : Ctx} {t : Nat → AV} {o : Oper} {x : Operand} {s : Nat} (hx : x ∈ o.op.operands) (h : s ∈ namesA (evA C t x)) : s ∈ sitesO t o := by
  obtain ⟨i, rfl, h⟩ := names_evA h
  exact List.mem_flatMap.2 ⟨i, mem_tmpsO _ i (by simpa using hx), h⟩
theorem names_strip {x : AV} {s : Nat} (h : s ∈ namesA (strip x)) : s ∈ namesA x := by
  cases x <;> first | exact h | simpa [namesA, strip] using h
theorem names_evS {C : Ctx} {t : Nat → AV} (op : Op) {x : Operand} {s : Nat} (h : s ∈ namesA (evS C t op x)) : s ∈ namesA (evA C t x) := by
  cases op <;> first | exact names_strip h | skip
  case pick c a b =>
    have h : s ∈ namesA (match sameO c x with | true => strip (evA C t x) | false => evA C t x) := h
    split at h
    · exact names_strip h
    · exact h

section
variable {C : Ctx} {V : Inv C.fr}

/-- What an operation turns in the memory, its operands name. -/
theorem opA_site {ev : Operand → AV} {h : AH} {s : Nat} (op : Op) : (∀ p x h', opA C ev h s op = .fx p x h' → ∀ b, b ≠ s → h' b ≠ h b → ∃ x ∈ op.operands, b ∈ namesA (ev x)) ∧
    (∀ rows i f, opA C ev h s op = .idxfx rows i f → ∀ row h', f row = some h' → ∀ b, b ≠ s → h' b ≠ h b → ∃ x ∈ op.operands, b ∈ namesA (ev x)) := by
  have new : ∀ (blk : Option Blk) b, b ≠ s → upd h s blk b ≠ h b → False := fun blk b hb hn => hn (upd_other _ _ hb)
  have set : ∀ (b0 : Nat) (blk : Option Blk) b, upd h b0 blk b ≠ h b → b = b0 := fun b0 blk b hn => Classical.byContradiction fun e => hn (upd_other _ _ e)
  have oB : ∀ (x : Option AV) p y h', okO x ≠ .fx p y h' := fun x p y h' hx => by cases x <;> simp [okO] at hx
  have oI : ∀ (x : Option AV) rows i f, okO x ≠ .idxfx rows i f := fun x rows i f hx => by cases x <;> simp [okO] at hx
  constructor
  · intro p x h' he b hb hn
    cases op <;> simp only [opA] at he
    case makeFunc fn a c => cases fn <;> cases he
    case store t a v =>
      (repeat' split at he) <;> first | (cases he; done) | skip
      rename_i hev _ _ _ _ _
      injection he with _ _ he; subst he
      exact ⟨a, by simp [Op.operands], by rw [hev, set _ _ _ hn]; simp [namesA]⟩
    case convert src dst x =>
      simp only [convO, convA] at he
      (repeat' split at he) <;> first | (cases he; done) | skip
      injection he with _ _ he; subst he
      exact (new _ b hb hn).elim
    case makeSlice t l c =>
      simp only [makeA] at he
      (repeat' split at he) <;> first | (cases he; done) | skip
      injection he with _ _ he; subst he
      exact (new _ b hb hn).elim
    case alloc t =>
      split at he
      · injection he with _ _ he; subst he
        exact (new _ b hb hn).elim
      · cases he
    case box t x =>
      split at he
      · injection he with _ _ he; subst he
        exact (new _ b hb hn).elim
      · cases he
    case call c =>
      obtain ⟨callee, args, ats⟩ := c
      cases callee with
      | value f => simp only at he; split at he <;> cases he
      | invoke r m => cases he
      | builtin bi =>
        simp only at he
        cases bi <;> try (simp only [builtinA] at he; cases he; done)
        case append =>
          match hA : args.toList.map ev with
          | [] => rw [hA] at he; simp only [builtinA] at he; cases he
          | [_] => rw [hA] at he; simp only [builtinA] at he; cases he
          | _ :: _ :: _ :: _ => rw [hA] at he; simp only [builtinA] at he; cases he
          | [x', y'] =>
            rw [hA] at he
            simp only [builtinA] at he
            have key : ∀ (rx ry : Option (Nat × List (List AV))) (blk : Option Blk) (px py : Prop), blk = blkOf h x' → appendV C s ats.toList x' rx ry blk px py h = .fx p x h' → b ∈ namesA x' := by
              intro rx ry blk px py hbk he
              unfold appendV at he
              (repeat' split at he) <;> first | (cases he; done) | skip
              · injection he with _ _ he; subst he; exact (new _ b hb hn).elim
              · injection he with _ _ he; subst he; exact (new _ b hb hn).elim
              · injection he with _ _ he; subst he; exact (new _ b hb hn).elim
              · injection he with _ _ he; subst he
                rw [upd_other _ _ hb] at hn
                rw [set _ _ _ hn]
                simp [namesA]
            obtain ⟨x1, q1, q2⟩ := List.mem_map.1 (show x' ∈ args.toList.map ev by rw [hA]; simp)
            exact ⟨x1, by simp [Op.operands, Call.operands]; simpa using q1, by rw [q2]; exact key _ _ _ _ _ rfl he⟩
        case copy =>
          match hA : args.toList.map ev with
          | [] => rw [hA] at he; simp only [builtinA] at he; cases he
          | [_] => rw [hA] at he; simp only [builtinA] at he; cases he
          | _ :: _ :: _ :: _ => rw [hA] at he; simp only [builtinA] at he; cases he
          | [x', y'] =>
            rw [hA] at he
            simp only [builtinA, copyA] at he
            (repeat' split at he) <;> first | (cases he; done) | skip
            injection he with _ _ he; subst he
            obtain ⟨x1, q1, q2⟩ := List.mem_map.1 (show AV.osl _ _ _ _ ∈ args.toList.map ev by rw [hA]; exact List.mem_cons_self)
            exact ⟨x1, by simp [Op.operands, Call.operands]; simpa using q1, by rw [q2, set _ _ _ hn]; simp [namesA]⟩
        case len =>
          match hA : args.toList.map ev with
          | [] => rw [hA] at he; simp only [builtinA] at he; cases he
          | _ :: _ :: _ => rw [hA] at he; simp only [builtinA] at he; cases he
          | [x'] =>
            rw [hA] at he
            match hT : ats.toList with
            | [] => rw [hT] at he; simp only [builtinA] at he; cases he
            | _ :: _ :: _ => rw [hT] at he; simp only [builtinA] at he; cases he
            | [t'] =>
              rw [hT] at he
              simp only [builtinA, lenB] at he
              (repeat' split at he) <;> cases he
        case min =>
          match hA : args.toList.map ev with
          | [] => rw [hA] at he; simp only [builtinA] at he; cases he
          | [_] => rw [hA] at he; simp only [builtinA] at he; cases he
          | _ :: _ :: _ :: _ => rw [hA] at he; simp only [builtinA] at he; cases he
          | [x', y'] =>
            rw [hA] at he
            simp only [builtinA, minA] at he
            (repeat' split at he) <;> cases he
        case max =>
          match hA : args.toList.map ev with
          | [] => rw [hA] at he; simp only [builtinA] at he; cases he
          | [_] => rw [hA] at he; simp only [builtinA] at he; cases he
          | _ :: _ :: _ :: _ => rw [hA] at he; simp only [builtinA] at he; cases he
          | [x', y'] =>
            rw [hA] at he
            simp only [builtinA, maxA] at he
            (repeat' split at he) <;> cases he
    all_goals first
      | (simp only [pickA, buildA, loadAtA, nilA, unA, nilEqA, binA, intOp, shOp, boolOp, strOp, sliceA, sliceV, fieldAddrA, fieldA, indexAddrA, indexAddrV, indexA, extractA] at he
         (repeat' split at he) <;> first | (cases he; done) | (exact absurd he (oB _ _ _ _)))
      | ((repeat' split at he) <;> first | (cases he; done) | (exact absurd he (oB _ _ _ _)))
      | (cases he; done)
  · intro rows i f he row h' hf b hb hn
    cases op <;> simp only [opA] at he
    case makeFunc fn a c => cases fn <;> cases he
    case store t a v =>
      (repeat' split at he) <;> first | (cases he; done) | skip
      all_goals
        injection he with _ _ he
        subst he
        dsimp only at hf
        (repeat' split at hf) <;> first
          | (cases hf; done)
          | (injection hf with hf
             subst hf
             refine ⟨a, by simp [Op.operands], ?_⟩
             rw [set _ _ _ hn]
             simp_all [namesA])
    case call c =>
      obtain ⟨callee, args, ats⟩ := c
      cases callee with
      | value f => simp only at he; split at he <;> cases he
      | invoke r m => cases he
      | builtin bi =>
        exfalso
        simp only at he
        unfold builtinA at he
        simp only [lenB, minA, maxA, copyA, appendV] at he
        (repeat' split at he) <;> cases he
    all_goals first
      | (simp only [pickA, buildA, loadAtA, nilA, unA, nilEqA, binA, intOp, shOp, boolOp, strOp, convO, convA, makeA, sliceA, sliceV, fieldAddrA, fieldA, indexAddrA, indexAddrV, indexA, extractA] at he
         (repeat' split at he) <;> first | (cases he; done) | (exact absurd he (oI _ _ _ _)))
      | ((repeat' split at he) <;> first | (cases he; done) | (exact absurd he (oI _ _ _ _)))
      | (cases he; done)
theorem stepR_site {R : FuncId → List AV → AV → Prop} {all : List Oper} {o : Oper} {s : Nat} {t : Nat → AV} {h h' : AH} {x : AV} (hs : StepR C R all o s t h x h') : ∀ b, b ≠ s → h' b ≠ h b → b ∈ sitesO t o := by
  intro b hb hn
  have fin : (∃ x ∈ o.op.operands, b ∈ namesA (evA C t x)) → b ∈ sitesO t o := fun ⟨x, h1, h2⟩ => names_ev h1 h2
  unfold StepR at hs
  have main : NodeR C R h (opA C (evA C t) h s o.op) x h' → b ∈ sitesO t o := fun hs => by
    obtain ⟨H1, H2⟩ := opA_site (C := C) (ev := evA C t) (h := h) (s := s) o.op
    cases hr : opA C (evA C t) h s o.op with
    | bad => rw [hr] at hs; exact hs.elim
    | ok y => rw [hr] at hs; obtain ⟨_, rfl⟩ := hs; exact absurd rfl hn
    | need p y => rw [hr] at hs; obtain ⟨_, _, rfl⟩ := hs; exact absurd rfl hn
    | idx rows i f => rw [hr] at hs; obtain ⟨_, _, _, _, rfl⟩ := hs; exact absurd rfl hn
    | str p rows => rw [hr] at hs; obtain ⟨_, _, _, _, rfl⟩ := hs; exact absurd rfl hn
    | call f args => rw [hr] at hs; obtain ⟨_, _, _, _, rfl⟩ := hs; exact absurd rfl hn
    | fx p y h2 => rw [hr] at hs; obtain ⟨_, _, rfl⟩ := hs; exact fin (H1 p y h' hr b hb hn)
    | idxfx rows i f => rw [hr] at hs; obtain ⟨row, _, _, hf, _⟩ := hs; exact fin (H2 rows i f hr row h' hf b hb hn)
  cases hg : o.guard with
  | some q =>
    obtain ⟨i, pol⟩ := q
    simp only [hg] at hs
    obtain ⟨d, g, y, _, _, ⟨_, rfl, _⟩ | ⟨_, hs⟩⟩ := hs
    · exact absurd rfl hn
    · exact main hs
  | none => simp only [hg] at hs; exact main hs

variable {all : List Oper} {o : Oper} {s N : Nat} {t tX : Nat → AV} {h h' hX : AH} {a : Act} {w w0 : World} {D : Nat → Prop} {S0 : Nat → Prop} {S : Nat → Prop} {β : Bt} {R : FuncId → List AV → AV → Prop} {x : AV}

theorem stepR_trC (M : SimD C V w0 S0 N D tX hX a w S β) (hst : StepR C R all o s t h x h') (hlook : ∀ i ∈ looksO all o, tX i = t i) (hag : readsO o.op = true → Agree (cutB (sitesO tX o) β) h hX) :
    ∃ h2, StepR C R all o s tX hX x h2 ∧ HRel h hX s (writesO o.op) (cutB (sitesO tX o) β) h' h2 := by
  have hops : ∀ i, .tmp i ∈ o.op.operands.toList → tX i = t i := fun i hi => hlook i (by simp only [looksO, List.mem_append]; exact .inl (.inr (mem_tmpsO _ i hi)))
  have hev : ∀ x ∈ o.op.operands, evA C tX x = evA C t x := fun x hx => by
    cases x with
    | tmp i => exact hops i (by simpa using hx)
    | _ => rfl
  have hrep : ∀ x ∈ o.op.operands, Rep S w (cutB (sitesO tX o) β) (evA C tX x) (a.eval x) := fun x hx => rep_cut (ev_rep M x) fun s hs => names_ev hx hs
  unfold StepR at hst ⊢
  cases hg : o.guard with
  | none =>
    simp only [hg] at hst ⊢
    rw [opA_ev_congr (ev' := evA C tX) o.op fun x hx => (hev x hx).symm] at hst
    exact nodeR_tr o.op hrep hag hst
  | some q =>
    obtain ⟨i, pol⟩ := q
    simp only [hg] at hst ⊢
    obtain ⟨d, g, y, q1, q2, ⟨q3, rfl, q4⟩ | ⟨q3, q4⟩⟩ := hst
    case inr =>
      have hd : tX d = t d := hlook d (by simp only [looksO, hg, q1, List.mem_append]; exact .inr (by simp))
      rw [opA_ev_congr (ev' := evA C tX) o.op fun x hx => (hev x hx).symm] at q4
      obtain ⟨h2, e1, e2⟩ := nodeR_tr o.op hrep hag q4
      exact ⟨h2, ⟨d, g, y, q1, by rw [hd]; exact q2, .inr ⟨q3, e1⟩⟩, e2⟩
    have hd : tX d = t d := hlook d (by simp only [looksO, hg, q1, List.mem_append]; exact .inr (by simp))
    have hcs : condsO tX o.op = condsO t o.op := condsO_congr _ hops
    refine ⟨hX, ⟨d, g, y, q1, by rw [hd]; exact q2, .inl ⟨q3, rfl, ?_⟩⟩, HRel.refl⟩
    rcases q4 with ⟨c1, c2⟩ | ⟨c, c1, c2, c3⟩
    · refine .inl ⟨by rw [hcs]; exact c1, fun hg' => ?_⟩
      obtain ⟨f1, f2⟩ := c2 hg'
      rw [opA_ev_congr (ev' := evA C tX) o.op fun x hx => (hev x hx).symm] at f1 f2
      obtain ⟨h2, e1, _⟩ := nodeR_tr o.op hrep hag f2
      have T := opA_tr (C := C) (s := s) o.op hrep hag
      have e2 : opA C (evA C tX) hX s o.op = opA C (evA C tX) h' s o.op := by
        cases hr : opA C (evA C tX) h' s o.op <;> rw [hr] at T f1 <;> first | exact T | (simp [isFx] at f1)
      rw [e2] at e1 ⊢
      refine ⟨f1, ?_⟩
      cases hr : opA C (evA C tX) h' s o.op <;> rw [hr] at e1 f1 <;> first | (simp [isFx] at f1; done) | skip
      · obtain ⟨rfl, rfl⟩ := e1; exact ⟨rfl, rfl⟩
      · obtain ⟨p, rfl, rfl⟩ := e1; exact ⟨p, rfl, rfl⟩
      · obtain ⟨row, p1, p2, p3, rfl⟩ := e1; exact ⟨row, p1, p2, p3, rfl⟩
      · obtain ⟨l, p1, p2, p3, rfl⟩ := e1; exact ⟨l, p1, p2, p3, rfl⟩
      · obtain ⟨p1, p2, p3, p4, rfl⟩ := e1; exact ⟨p1, p2, p3, p4, rfl⟩
    · refine .inr ⟨c, by rw [hcs]; exact c1, c2, fun hg' => ?_⟩
      obtain ⟨f1, f2⟩ := c3 hg'
      rw [opA_ev_congr (ev' := evS C tX o.op) o.op fun x hx => (evS_congr o.op hev x hx).symm] at f1 f2
      have hsr : ∀ x ∈ o.op.operands, Rep S w (cutB (sitesO tX o) β) (evS C tX o.op x) (a.eval x) := fun x hx => rep_cut (evS_rep M o.op (hcs.trans c1) (c2 hg') x hx) fun s hs => names_ev hx (names_evS o.op hs)
      obtain ⟨h2, e1, _⟩ := nodeR_tr o.op hsr hag f2
      have T := opA_tr (C := C) (s := s) o.op hsr hag
      have e2 : opA C (evS C tX o.op) hX s o.op = opA C (evS C tX o.op) h' s o.op := by
        cases hr : opA C (evS C tX o.op) h' s o.op <;> rw [hr] at T f1 <;> first | exact T | (simp [isFx] at f1)
      rw [e2] at e1 ⊢
      refine ⟨f1, ?_⟩
      cases hr : opA C (evS C tX o.op) h' s o.op <;> rw [hr] at e1 f1 <;> first | (simp [isFx] at f1; done) | skip
      · obtain ⟨rfl, rfl⟩ := e1; exact ⟨rfl, rfl⟩
      · obtain ⟨p, rfl, rfl⟩ := e1; exact ⟨p, rfl, rfl⟩
      · obtain ⟨row, p1, p2, p3, rfl⟩ := e1; exact ⟨row, p1, p2, p3, rfl⟩
      · obtain ⟨l, p1, p2, p3, rfl⟩ := e1; exact ⟨l, p1, p2, p3, rfl⟩
      · obtain ⟨p1, p2, p3, p4, rfl⟩ := e1; exact ⟨p1, p2, p3, p4, rfl⟩
end

structure DrawOk2 (l : List Oper) (tE : Nat → AV) : Prop where
  back : ∀ j oj, l[j]? = some oj → ∀ e ∈ oj.after.toList, Region.binds .any e = true → e.on < j
  late : ∀ (j : Nat) (oj : Oper) (k : Nat) (ok : Oper) (d : Nat), l[j]? = some oj → l[k]? = some ok → readsO oj.op = true → j ≤ k → ok.dst = some d → d ∉ tmpsO oj.op.operands.toList
  slot : ∀ i j oi oj d, l[i]? = some oi → l[j]? = some oj → i ≠ j → oi.dst = some d → d ∈ looksO l oj → ordd (masks l []) i j = true
  mem : ∀ i j oi oj b, l[i]? = some oi → l[j]? = some oj → i ≠ j → writesO oi.op = true → readsO oj.op = true → b ∈ sitesO tE oi → b ∈ sitesO tE oj → ordd (masks l []) i j = true

theorem meets_of {a b : List Nat} {x : Nat} (ha : x ∈ a) (hb : x ∈ b) : meets a b = true :=
  List.any_eq_true.2 ⟨x, ha, List.any_eq_true.2 ⟨x, hb, by simp⟩⟩

theorem drawOk2_spec {l : List Oper} {tE : Nat → AV} (h : drawOk2 l tE = true) : DrawOk2 l tE := by
  have main : ∀ j oj, l[j]? = some oj → ((oj.after.toList.all fun e => !Region.binds .any e || Nat.blt e.on j) = true ∧ (!readsO oj.op || (l.drop j).all fun o => match o.dst with | none => true | some d => !(tmpsO oj.op.operands.toList).contains d) = true) ∧ ∀ i oi, l[i]? = some oi → (i == j ||
          ((match oi.dst with | none => true | some d => !(looksO l oj).contains d || ordd (masks l []) i j) &&
           (!(writesO oi.op && readsO oj.op && meets (sitesO tE oi) (sitesO tE oj)) || ordd (masks l []) i j))) = true := by
    intro j oj hj
    have hjl : j < l.length := (List.getElem?_eq_some_iff.1 hj).1
    have h1 := List.all_eq_true.1 h j (by simpa using hjl)
    simp only [hj, Bool.and_eq_true] at h1
    refine ⟨h1.1, fun i oi hi => ?_⟩
    have hil : i < l.length := (List.getElem?_eq_some_iff.1 hi).1
    have h2 := List.all_eq_true.1 h1.2 i (by simpa using hil)
    simp only [hi] at h2
    exact h2
  refine ⟨fun j oj hj e he hb => ?_, fun j oj k ok d hj hk hro hjk hd hm => ?_, fun i j oi oj d hi hj hne hd hl => ?_, fun i j oi oj b hi hj hne hw hr hbi hbj => ?_⟩
  · have := List.all_eq_true.1 (main j oj hj).1.1 e he
    simp only [hb, Bool.not_true, Bool.false_or] at this
    exact Nat.le_of_ble_eq_true this
  · have hmem : ok ∈ l.drop j := List.mem_of_getElem? (i := k - j) (by rw [List.getElem?_drop, show j + (k - j) = k by omega]; exact hk)
    have h0 := (main j oj hj).1.2
    simp only [hro, Bool.not_true, Bool.false_or] at h0
    have := List.all_eq_true.1 h0 ok hmem
    simp only [hd] at this
    rw [show (tmpsO oj.op.operands.toList).contains d = true by simpa using hm] at this
    cases this
  · have := (main j oj hj).2 i oi hi
    have hb : (i == j) = false := by simpa using hne
    simp only [hb, Bool.false_or, Bool.and_eq_true, hd] at this
    have h1 := this.1
    rw [show (looksO l oj).contains d = true by simpa using hl] at h1
    simpa using h1
  · have := (main j oj hj).2 i oi hi
    have hb : (i == j) = false := by simpa using hne
    simp only [hb, Bool.false_or, Bool.and_eq_true] at this
    have h1 := this.2
    rw [hw, hr, meets_of hbi hbj] at h1
    simpa using h1

section
variable {C : Ctx} {V : Inv C.fr} {R : FuncId → List AV → AV → Prop}
theorem bit_lt2 {l : List Oper} {tE : Nat → AV} (D : DrawOk2 l tE) {i j : Nat} {oj : Oper} (hj : l[j]? = some oj) (hi : ((masks l []).getD j 0).testBit i = true) : i < j :=
  masks_ok (X := (· < j)) (fun k ok hk hok e he hb => Nat.lt_trans (D.back k ok hok e he hb) hk) hj (fun e he hb => D.back j oj hj e he hb) hi
theorem ord_iff2 {l : List Oper} {tE : Nat → AV} (D : DrawOk2 l tE) {X : Nat → Prop} (hX : Down l X) {i j : Nat} {oi oj : Oper} (hi : l[i]? = some oi) (hj : l[j]? = some oj) (hp : ∀ e ∈ oj.after.toList, Region.binds .any e = true → X e.on) (hnj : ¬ X j) (ho : ordd (masks l []) i j = true) : X i ↔ i < j := by
  simp only [ordd, Bool.or_eq_true] at ho
  rcases ho with ho | ho
  · exact ⟨fun _ => bit_lt2 D hj ho, fun _ => masks_ok hX hj hp ho⟩
  · have hlt := bit_lt2 D hi ho
    refine ⟨fun hXi => absurd (masks_ok hX hi (fun e he hb => hX i oi hXi hi e he hb) ho) hnj, fun h => by omega⟩

/-- A region's chain of steps; tb: which step turns which place. -/
structure Chn2 (C : Ctx) (l : List Oper) (n : Nat) (h : AH) (t : Nat → AV) (xs : Nat → AV) (hh : Nat → AH) (tt : Nat → Nat → AV) (tb : Nat → Nat → Bool) : Prop where
  D : DrawOk2 l (tt l.length)
  step : ∀ k o, l[k]? = some o → StepR C (DCall C) l o (n + k) (tt k) (hh k) (xs k) (hh (k + 1))
  next : ∀ k o, l[k]? = some o → tt (k + 1) = updO (tt k) o.dst (xs k)
  t0 : tt 0 = t
  h0 : hh 0 = h
  new : ∀ s, n ≤ s → h s = none
  tb : ∀ b i, tb b i = true ↔ hh (i + 1) b ≠ hh i b
  nH : NoH C

variable {l : List Oper} {n : Nat} {h : AH} {t xs : Nat → AV} {hh : Nat → AH} {tt : Nat → Nat → AV} {tb : Nat → Nat → Bool}

theorem Chn2.live (Z : Chn2 C l n h t xs hh tt tb) {i : Nat} (hi : i < l.length) {b : Nat} (hb : b ≠ n + i) (hn : hh i b = none) : hh (i + 1) b = none := by
  have ho : l[i]? = some l[i] := List.getElem?_eq_getElem hi
  by_cases he : hh (i + 1) b = hh i b
  · rw [he, hn]
  · exact absurd hn (stepR_heap (Z.step i _ ho) b hb he).2
theorem Chn2.fresh (Z : Chn2 C l n h t xs hh tt tb) {b : Nat} (hb : n ≤ b) : ∀ k, k ≤ l.length → n + k ≤ b → hh k b = none
  | 0, _, _ => by rw [Z.h0]; exact Z.new b hb
  | k + 1, hk, hkb => Z.live (by omega) (by omega) (Z.fresh hb k (by omega) (by omega))
theorem Chn2.still (Z : Chn2 C l n h t xs hh tt tb) {b j k : Nat} (hjk : j ≤ k) (hq : ∀ i, j ≤ i → i < k → tb b i = false) : hh k b = hh j b :=
  same_to k hjk fun i h1 h2 => Classical.byContradiction fun hn => by
    have := hq i h1 h2
    rw [(Z.tb b i).2 hn] at this; cases this
theorem Chn2.at (Z : Chn2 C l n h t xs hh tt tb) {j : Nat} {o : Oper} (hj : l[j]? = some o) (hro : readsO o.op = true) : sitesO (tt l.length) o = sitesO (tt j) o := by
  have hjl : j < l.length := (List.getElem?_eq_some_iff.1 hj).1
  have key : ∀ i ∈ tmpsO o.op.operands.toList, ∀ k, j ≤ k → k ≤ l.length → tt k i = tt j i := by
    intro i hi k
    induction k with
    | zero => intro h1 _; rw [show j = 0 by omega]
    | succ k ih =>
      intro h1 h2
      by_cases he : j = k + 1
      · rw [he]
      · have hk : l[k]? = some l[k] := List.getElem?_eq_getElem (by omega)
        rw [Z.next k _ hk, updO_other (fun hd => Z.D.late j o k _ i hj hk hro (by omega) hd hi)]
        exact ih (by omega) (by omega)
  unfold sitesO
  exact flatMap_eq _ fun i hi => by rw [key i hi l.length (by omega) (Nat.le_refl _)]

/-- What holds where some have come up. -/
structure DInv2 (C : Ctx) (V : Inv C.fr) (l : List Oper) (n : Nat) (h : AH) (t xs : Nat → AV) (hh : Nat → AH) (tb : Nat → Nat → Bool) (w0 : World) (S0 : Nat → Prop) (N : Nat) (X : Nat → Bool) (a : Act) (w : World) : Prop where
  down : Down l (X · = true)
  bnd : ∀ i, X i = true → i < l.length
  H3 : ∀ k i, X k = true → tb (n + i) k = true → k = i ∨ X i = true
  sim : ∃ S β hX, SimD C V w0 S0 N (fun s => s < n ∨ ∃ i, X i = true ∧ s = n + i) (valX X l xs t l.length) hX a w S β ∧ ∀ b, hX b = hh (lastW (fun i => X i && tb b i) l.length) b

theorem dinv2_step (hC : CtxOk C) (Z : Chn2 C l n h t xs hh tt tb) {ops : Array Oper} (hall : ops.toList = l) {w0 : World} {S0 : Nat → Prop} {N : Nat} (hb : slotsOk N l = true) {X Y : Nat → Bool} {a : Act} {w : World} (I : DInv2 C V l n h t xs hh tb w0 S0 N X a w) {j : Nat} {o : Oper} (hj : l[j]? = some o)
    (hp : ∀ e ∈ o.after.toList, Region.binds .any e = true → X e.on = true) (hnj : X j = false) (hYj : Y j = true) (hY : ∀ i, i ≠ j → Y i = X i) {K : Act → World → Prop} {Q : Exit → Act → World → Prop} (hK : ∀ a' w', DInv2 C V l n h t xs hh tb w0 S0 N Y a' w' → K a' w') :
    if Region.wanted o (yielded ops a.tmps) then o.wp C.P a w K Q ∨ (o.asks C.P a w ∧ LetsOut Q) else K (a.put o.dst undef) w := by
  obtain ⟨S, β, hX, M, H1⟩ := I.sim
  have hjl : j < l.length := (List.getElem?_eq_some_iff.1 hj).1
  have hnj' : ¬ (X j = true) := by rw [hnj]; simp
  have hs : β (n + j) = none := by
    cases hq : β (n + j) with
    | none => rfl
    | some loc =>
      rcases M.dom _ _ hq with h | ⟨i, hi, he⟩
      · omega
      · have : i = j := by omega
        subst this; rw [hnj] at hi; cases hi
  have slot : ∀ tmp ∈ looksO l o, valX X l xs t l.length tmp = tt j tmp := by
    intro tmp htmp
    rw [val_all Z.t0 (fun k o hk => Z.next k o hk) j (by omega), ← val_lt tmp (by omega)]
    refine val_congr _ fun i oi hi hoi hd => ?_
    by_cases he : i = j
    · subst he; rw [hnj]; simp
    · have := ord_iff2 Z.D I.down hoi hj hp hnj' (Z.D.slot i j oi o tmp hoi hj he hd htmp)
      by_cases hlt : i < j
      · rw [this.2 hlt]; simp [hlt]
      · have hx : ¬ (X i = true) := fun h => hlt (this.1 h)
        simp only [hlt, decide_false]
        simpa using hx
  have sites : sitesO (valX X l xs t l.length) o = sitesO (tt j) o := by
    unfold sitesO
    exact flatMap_eq _ fun i hi => by rw [slot i (by simp only [looksO, List.mem_append]; exact .inl (.inr hi))]
  -- of a place that this one names: what turns it ahead of this one has come up, and nothing else
  have ag : readsO o.op = true → ∀ b loc, β b = some loc → b ∈ sitesO (tt j) o → hh j b ≠ none → hX b = hh j b ∧ ∀ k, X k = true → tb b k = true → k < j := by
    intro hr b loc hbl hbs hbn
    have wiff : ∀ k, k < l.length → k ≠ j → tb b k = true → (X k = true ↔ k < j) := by
      intro k hk hne htk
      have hok : l[k]? = some l[k] := List.getElem?_eq_getElem hk
      by_cases hbk : b = n + k
      · have hkj : k < j := Nat.lt_of_not_le fun hle => hbn (Z.fresh (by omega) j (by omega) (by omega))
        refine ⟨fun _ => hkj, fun _ => ?_⟩
        rcases M.dom _ _ hbl with h | ⟨i, hi, he⟩
        · omega
        · have : i = k := by omega
          subst this; exact hi
      · have hn := (Z.tb b k).1 htk
        have hwk := (stepR_heap (Z.step k _ hok) b hbk hn).1
        have hsk := stepR_site (Z.step k _ hok) b hbk hn
        exact ord_iff2 Z.D I.down hok hj hp hnj' (Z.D.mem k j _ o b hok hj hne hwk hr (by rw [Z.at hok (writes_reads _ hwk)]; exact hsk) (by rw [Z.at hj hr]; exact hbs))
    have lt : ∀ k, X k = true → tb b k = true → k < j := fun k hk htk => (wiff k (I.bnd k hk) (fun e => by subst e; exact hnj' hk) htk).1 hk
    refine ⟨?_, lt⟩
    rw [H1 b]
    have hple : lastW (fun i => X i && tb b i) l.length ≤ j := lastW_none _ _ fun i hi hw => by
      simp only [Bool.and_eq_true] at hw
      exact lt i hw.1 hw.2
    refine (Z.still hple fun i h1 h2 => ?_).symm
    cases hti : tb b i with
    | false => rfl
    | true =>
      have hXi := (wiff i (by omega) (by omega) hti).2 h2
      have := lastW_ge (W := fun i => X i && tb b i) l.length i (by omega) (by simp [hXi, hti])
      omega
  have hag : readsO o.op = true → Agree (cutB (sitesO (valX X l xs t l.length) o) β) (hh j) hX := by
    intro hr b loc hbl hne
    have hbl : (if b ∈ sitesO (valX X l xs t l.length) o then β b else none) = some loc := hbl
    split at hbl
    · rename_i hm
      rw [sites] at hm
      exact (ag hr b loc hbl hm hne).1
    · cases hbl
  obtain ⟨h2, st, hrel⟩ := stepR_trC M (Z.step j o hj) slot hag
  have turn : ∀ b, b ≠ n + j → (hh (j + 1) b ≠ hh j b ∨ h2 b ≠ hX b) → (∃ loc, β b = some loc) ∧ hX b = hh j b ∧ ∀ k, X k = true → tb b k = true → k < j := by
    intro b hbj hc
    obtain ⟨q1, q2, loc, q3⟩ := hrel.2 b hbj hc
    have q3 : (if b ∈ sitesO (valX X l xs t l.length) o then β b else none) = some loc := q3
    split at q3
    · rename_i hm
      rw [sites] at hm
      exact ⟨⟨loc, q3⟩, ag (writes_reads _ q1) b loc q3 hm q2⟩
    · cases q3
  refine step_sound hC M hs hall st (slots_lt hb (List.mem_of_getElem? hj)) (fun i pol d _ hd => guard_lt hb i d hd) fun a' w' S' β' M' => hK a' w' ?_
  have XY : ∀ i, Y i = true ↔ X i = true ∨ i = j := fun i => by
    by_cases he : i = j
    · subst he; simp [hYj]
    · rw [hY i he]; simp [he]
  have hXnone : hX (n + j) = none := by
    cases hq : hX (n + j) with
    | none => rfl
    | some blk =>
      obtain ⟨loc, _, _, _, hl, _⟩ := M.H.own _ _ hq
      rw [hs] at hl; cases hl
  have hjnone : hh j (n + j) = none := Z.fresh (by omega) j (by omega) (by omega)
  have h2new : h2 (n + j) = hh (j + 1) (n + j) := hrel.1 _ (by rw [hXnone, hjnone])
  refine ⟨fun k ok hk hok e he hbd => ?_, fun i hi => ?_, fun k i hk htk => ?_, S', β', h2, ?_, fun b => ?_⟩
  · rcases (XY k).1 hk with hk | rfl
    · exact (XY _).2 (.inl (I.down k ok hk hok e he hbd))
    · rw [hj] at hok; injection hok with hok; subst hok
      exact (XY _).2 (.inl (hp e he hbd))
  · rcases (XY i).1 hi with hi | rfl
    · exact I.bnd i hi
    · exact hjl
  · rcases (XY k).1 hk with hk | rfl
    · rcases I.H3 k i hk htk with h | h
      · exact .inl h
      · exact .inr ((XY i).2 (.inl h))
    · by_cases hki : k = i
      · exact .inl hki
      · obtain ⟨⟨loc, hl⟩, _⟩ := turn (n + i) (by omega) (.inl ((Z.tb _ _).1 htk))
        rcases M.dom _ _ hl with h | ⟨i', hi', he⟩
        · omega
        · have : i' = i := by omega
          subst this; exact .inr ((XY _).2 (.inl hi'))
  · have hval : updO (valX X l xs t l.length) o.dst (xs j) = valX Y l xs t l.length := by
      funext tmp
      by_cases hd : o.dst = some tmp
      · rw [hd, updO_same]
        have hlook : tmp ∈ looksO l o := by simp [looksO, hd]
        rw [val_stop (X := Y) (j := j + 1) l.length (by omega) fun i oi h1 h2 hoi hdi => ?_]
        · simp only [valX, hj, hYj, hd, updO_same]
        · have he : i ≠ j := by omega
          have := ord_iff2 Z.D I.down hoi hj hp hnj' (Z.D.slot i j oi o tmp hoi hj he hdi hlook)
          cases hx : Y i with
          | false => rfl
          | true =>
            rcases (XY i).1 hx with h | h
            · have := this.1 h; omega
            · omega
      · rw [updO_other hd]
        refine val_congr _ fun i oi hi hoi hdi => ?_
        by_cases he : i = j
        · subst he; rw [hj] at hoi; injection hoi with hoi; subst hoi; exact absurd hdi hd
        · exact (hY i he).symm
    rw [← hval]
    refine ⟨M'.T, M'.H, M'.B, fun y loc hy => ?_, M'.df, M'.sz, M'.G, M'.nw, M'.iv⟩
    rcases M'.dom y loc hy with (h | ⟨i, hi, he⟩) | h
    · exact .inl h
    · exact .inr ⟨i, (XY i).2 (.inl hi), he⟩
    · exact .inr ⟨j, hYj, h⟩
  · cases htj : tb b j with
    | true =>
      have hlt : ∀ k, X k = true → tb b k = true → k < j := by
        intro k hk htk
        by_cases hbj : b = n + j
        · subst hbj
          rcases I.H3 k j hk htk with h | h
          · subst h; exact absurd hk hnj'
          · exact absurd h hnj'
        · exact (turn b hbj (.inl ((Z.tb _ _).1 htj))).2.2 k hk htk
      have hL : lastW (fun i => Y i && tb b i) l.length = j + 1 := by
        refine Nat.le_antisymm (lastW_none _ _ fun i hi hwi => ?_) (lastW_ge _ j hjl (by simp [hYj, htj]))
        simp only [Bool.and_eq_true] at hwi
        rcases (XY i).1 hwi.1 with h | h
        · have := hlt i h hwi.2; omega
        · omega
      rw [hL]
      by_cases hbj : b = n + j
      · rw [hbj]; exact h2new
      · exact hrel.1 b (turn b hbj (.inl ((Z.tb _ _).1 htj))).2.1
    | false =>
      have hstill : hh (j + 1) b = hh j b := Classical.byContradiction fun hn => by
        rw [(Z.tb b j).2 hn] at htj; cases htj
      have hW : (fun i => Y i && tb b i) = fun i => X i && tb b i := by
        funext i
        by_cases he : i = j
        · subst he; simp [htj]
        · rw [hY i he]
      rw [hW, ← H1 b]
      by_cases hbj : b = n + j
      · rw [hbj, h2new, hXnone, ← hbj, hstill, hbj, hjnone]
      · refine Classical.byContradiction fun hn => ?_
        have h5 := (turn b hbj (.inr hn)).2.1
        exact hn ((hrel.1 b h5).trans (hstill.trans h5.symm))

/-- A REGION WHOSE ORDER IS DRAWN. -/
theorem draw2_sound (hC : CtxOk C) (nH : NoH C) {w0 : World} {S0 : Nat → Prop} {N : Nat} {ops : Array Oper} (hb : slotsOk N ops.toList = true) {K : ASt → Prop} (hr : regA C (DCall C) ops.toList ops.toList 0 ⟨t, h, n⟩ (fun st => drawOk2 ops.toList st.t = true ∧ K st))
    {a : Act} {w : World} {S : Nat → Prop} {β : Bt} (M : SimD C V w0 S0 N (· < n) t h a w S β) {Q : Exit → Act → World → Prop} (hQ : ∀ st a' w' S' β', K st → SimD C V w0 S0 N (· < st.n) st.t st.h a' w' S' β' → Q .normal a' w') :
    wpAny C.P .any ops Q ops.size (Array.replicate ops.size false) a { w with drawn := w.drawn + 1 } := by
  obtain ⟨xs, hh, tt, e1, e2, e3, e4⟩ := chain_ex nH ops.toList 0 t h hr
  simp only [Nat.zero_add] at e3 e4
  have hnew : ∀ s, n ≤ s → h s = none := fun s hs => by
    cases hq : h s with
    | none => rfl
    | some blk =>
      obtain ⟨l, _, _, _, hl, _⟩ := M.H.own s blk hq
      have : s < n := M.dom s l hl
      omega
  obtain ⟨hd, e4⟩ := e4
  obtain ⟨tb, htb⟩ : ∃ tb : Nat → Nat → Bool, ∀ b i, tb b i = true ↔ hh (i + 1) b ≠ hh i b := ⟨fun b i => @decide _ (Classical.propDecidable (hh (i + 1) b ≠ hh i b)), fun b i => by simp⟩
  have Z : Chn2 C ops.toList n h t xs hh tt tb := ⟨drawOk2_spec hd, fun k o hk => (e3 k o hk).1, fun k o hk => (e3 k o hk).2, e1, e2, hnew, htb, nH⟩
  have hm : ops.toList.length = ops.size := by simp
  -- all have come up
  have fin : ∀ (X : Nat → Bool) (a : Act) (w : World), (∀ i, i < ops.size → X i = true) → DInv2 C V ops.toList n h t xs hh tb w0 S0 N X a w → Q .normal a w := by
    intro X a w hall I
    obtain ⟨S, β, hX, M, H1⟩ := I.sim
    have hall' : ∀ i, i < ops.toList.length → X i = true := fun i hi => hall i (by rw [← hm]; exact hi)
    refine hQ _ a w S β e4 ?_
    have hT : valX X ops.toList xs t ops.toList.length = tt ops.toList.length := by
      rw [val_all Z.t0 (fun k o hk => Z.next k o hk) _ (Nat.le_refl _)]
      funext tmp
      exact val_congr _ fun i o hi _ _ => hall' i hi
    have hH : hX = hh ops.toList.length := by
      funext b
      rw [H1 b]
      refine (Z.still (lastW_le _ _) fun i h1 h2 => ?_).symm
      cases hti : tb b i with
      | false => rfl
      | true =>
        have := lastW_ge (W := fun i => X i && tb b i) ops.toList.length i h2 (by simp [hall' i h2, hti])
        omega
    rw [← hT, ← hH]
    refine ⟨M.T, M.H, M.B, fun x l hx => ?_, M.df, M.sz, M.G, M.nw, M.iv⟩
    show x < n + ops.toList.length
    rcases M.dom x l hx with h | ⟨i, hi, he⟩
    · omega
    · have := I.bnd i hi; omega
  -- none is ready only where all have come up
  have done : ∀ (listed : Array Bool), listed.size = ops.size → Region.ready .any ops listed = [] → ∀ i, i < ops.size → listed.getD i false = true := by
    intro listed hsz hnil i hi
    induction i using Nat.strongRecOn with
    | _ i ih =>
      cases hq : listed.getD i false with
      | true => rfl
      | false =>
        exfalso
        have hmem : i ∈ Region.ready .any ops listed := by
          refine mem_ready.2 ⟨?_, ops[i], Array.getElem?_eq_getElem hi, fun e he hbd => ?_⟩
          · have : i < listed.size := by omega
            rw [Array.getD_eq_getD_getElem?, Array.getElem?_eq_getElem this] at hq ⊢
            exact hq
          · have := Z.D.back i ops[i] (by rw [Array.getElem?_toList, Array.getElem?_eq_getElem hi]) e (by simpa using he) hbd
            exact ih e.on this (by omega)
        rw [hnil] at hmem
        cases hmem
  have main : ∀ (fuel : Nat) (listed : Array Bool) (a : Act) (w : World), listed.size = ops.size → cntX (fun i => listed.getD i false) ops.size = fuel → DInv2 C V ops.toList n h t xs hh tb w0 S0 N (fun i => listed.getD i false) a w → wpAny C.P .any ops Q fuel listed a w := by
    intro fuel
    induction fuel with
    | zero =>
      intro listed a w hsz hc I
      have hall := cntX_zero _ hc
      refine ⟨?_, fin _ a w hall I⟩
      cases hr : Region.ready .any ops listed with
      | nil => rfl
      | cons i rest =>
        exfalso
        have hmem : i ∈ Region.ready .any ops listed := by rw [hr]; exact List.mem_cons_self
        obtain ⟨h1, o, ho, _⟩ := mem_ready.1 hmem
        have hi : i < ops.size := (Array.getElem?_eq_some_iff.1 ho).1
        have h2 := hall i hi
        have : i < listed.size := by omega
        rw [Array.getD_eq_getD_getElem?, Array.getElem?_eq_getElem this] at h1 h2
        simp only [Option.getD_some] at h1 h2
        rw [h1] at h2; cases h2
    | succ fuel ih =>
      intro listed a w hsz hc I
      refine ⟨fun hnil => fin _ a w (done listed hsz hnil) I, fun j hj => ?_⟩
      obtain ⟨h1, o, ho, hpre⟩ := mem_ready.1 hj
      have hjl : j < ops.size := (Array.getElem?_eq_some_iff.1 ho).1
      have hjs : j < listed.size := by omega
      have hoj : ops.toList[j]? = some o := by rw [Array.getElem?_toList]; exact ho
      have hXj : listed.getD j false = false := by
        rw [Array.getD_eq_getD_getElem?, Array.getElem?_eq_getElem hjs] at h1 ⊢
        exact h1
      have hYj : (listed.setIfInBounds j true).getD j false = true := by
        rw [Array.getD_eq_getD_getElem?, Array.getElem?_setIfInBounds_self_of_lt hjs]; rfl
      have hY : ∀ i, i ≠ j → (listed.setIfInBounds j true).getD i false = listed.getD i false := fun i hi => by
        rw [Array.getD_eq_getD_getElem?, Array.getD_eq_getD_getElem?, Array.getElem?_setIfInBounds_ne (Ne.symm hi)]
      unfold wpOp
      simp only [ho]
      refine dinv2_step (X := fun i => listed.getD i false) (Y := fun i => (listed.setIfInBounds j true).getD i false) hC Z rfl hb I hoj (fun e he hbd => hpre e (by simpa using he) hbd) hXj hYj hY fun a' w' I' => ?_
      refine ih _ a' w' (by simp [hsz]) ?_ I'
      have := cntX_put (X := fun i => listed.getD i false) (Y := fun i => (listed.setIfInBounds j true).getD i false) hXj hYj hY ops.size hjl
      omega
  have hfalse : ∀ i, (Array.replicate ops.size false).getD i false = false := fun i => by
    rw [Array.getD_eq_getD_getElem?]
    by_cases hi : i < ops.size
    · simp [hi]
    · rw [Array.getElem?_eq_none (by simpa using hi)]; rfl
  have hXf : (fun i => (Array.replicate ops.size false).getD i false) = fun _ => false := funext hfalse
  have hcnt : ∀ k, cntX (fun i => (Array.replicate ops.size false).getD i false) k = k := by
    rw [hXf]
    intro k
    induction k with
    | zero => rfl
    | succ k ih => simp only [cntX, ih]; omega
  refine main ops.size _ a _ (by simp) (hcnt _) ⟨fun j oj hj => ?_, fun i hi => ?_, fun k j hk => ?_, S, β, h, ?_, fun s => ?_⟩
  · have := (hfalse j).symm.trans hj; cases this
  · have := (hfalse i).symm.trans hi; cases this
  · have := (hfalse k).symm.trans hk; cases this
  · have hv : valX (fun i => (Array.replicate ops.size false).getD i false) ops.toList xs t ops.toList.length = t := by
      have : ∀ k, valX (fun i => (Array.replicate ops.size false).getD i false) ops.toList xs t k = t := by
        intro k
        induction k with
        | zero => rfl
        | succ k ih =>
          rw [hXf] at ih ⊢
          simp only [valX]
          split <;> exact ih
      exact this _
    rw [hv]
    have M' := M.drawn (w.drawn + 1)
    exact ⟨M'.T, M'.H, M'.B, fun x l hx => .inl (M'.dom x l hx), M'.df, M'.sz, M'.G, M'.nw, M'.iv⟩
  · have : lastW (fun i => (Array.replicate ops.size false).getD i false && tb s i) ops.toList.length = 0 := by
      refine Nat.le_zero.1 (lastW_none _ _ fun i _ hw => ?_)
      have h1 := hfalse i
      rw [h1] at hw; simp at hw
    rw [this, e2]
end
end Go.Proofs.YtpefnjbmbfdmmaaDoor
