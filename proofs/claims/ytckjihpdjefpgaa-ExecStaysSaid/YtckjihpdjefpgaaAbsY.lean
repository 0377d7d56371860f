/- The second machine and the model: a region whose order is drawn: the chain of its steps. -/
import Derived.Test.YtckjihpdjefpgaaAbsX
namespace Go.Proofs.Ytckjihpdjefpgaa
open Go.RowKit
section
variable {C : Ctx} {R : FuncId → List AV → AV → Prop} {all : List Oper} {n : Nat} {K : ASt → Prop}

theorem chain_ex : ∀ (rest : List Oper) (j : Nat) (t : Nat → AV) (h : AH), regA C R all rest j ⟨t, h, n⟩ K → ∃ (xs : Nat → AV) (hh : Nat → AH) (tt : Nat → Nat → AV), tt j = t ∧ hh j = h ∧
    (∀ k o, rest[k]? = some o → StepR C R all o (n + (j + k)) (tt (j + k)) (hh (j + k)) (xs (j + k)) (hh (j + k + 1)) ∧ tt (j + k + 1) = updO (tt (j + k)) o.dst (xs (j + k))) ∧ K ⟨tt (j + rest.length), hh (j + rest.length), n + (j + rest.length)⟩
  | [], j, t, h, hr => ⟨fun _ => .any, fun _ => h, fun _ => t, rfl, rfl, fun k o hk => by simp at hk, hr⟩
  | o :: rest, j, t, h, hr => by
    obtain ⟨x, h', h1, h2⟩ := step_inv hr
    obtain ⟨xs, hh, tt, e1, e2, e3, e4⟩ := chain_ex rest (j + 1) _ h' h2
    refine ⟨fun k => if k = j then x else xs k, fun k => if k = j then h else hh k, fun k => if k = j then t else tt k, by simp, by simp, fun k o' hk => ?_, ?_⟩
    · cases k with
      | zero =>
        simp only [List.getElem?_cons_zero, Option.some.injEq] at hk
        subst hk
        simp only [Nat.add_zero, if_true, show ¬ j + 1 = j by omega, if_false, e1, e2]
        exact ⟨h1, trivial⟩
      | succ k =>
        simp only [List.getElem?_cons_succ] at hk
        have := e3 k o' hk
        simp only [show ¬ j + (k + 1) = j by omega, show ¬ j + (k + 1) + 1 = j by omega, if_false]
        rw [show j + (k + 1) = j + 1 + k by omega]
        exact this
    · simp only [List.length_cons, show ¬ j + (rest.length + 1) = j by omega, if_false]
      rw [show j + (rest.length + 1) = j + 1 + rest.length by omega]
      exact e4

/-- What an operation turns in the memory. -/
theorem opA_heap {ev : Operand → AV} {h : AH} {s : Nat} (op : Op) : (∀ p x h', opA C ev h s op = .fx p x h' → ∀ b, b ≠ s → h' b ≠ h b → writesO op = true ∧ h b ≠ none) ∧
    (∀ rows i f, opA C ev h s op = .idxfx rows i f → ∀ row h', f row = some h' → ∀ b, b ≠ s → h' b ≠ h b → writesO op = true ∧ h b ≠ none) := by
  have new : ∀ (blk : Option Blk) b, b ≠ s → upd h s blk b ≠ h b → False := fun blk b hb hn => hn (upd_other _ _ hb)
  have set : ∀ (b0 : Nat) (blk : Option Blk) b, upd h b0 blk b ≠ h b → b = b0 := fun b0 blk b hn => Classical.byContradiction fun e => hn (upd_other _ _ e)
  have oB : ∀ (x : Option AV) p y h', okO x ≠ .fx p y h' := fun x p y h' hx => by cases x <;> simp [okO] at hx
  have oI : ∀ (x : Option AV) rows i f, okO x ≠ .idxfx rows i f := fun x rows i f hx => by cases x <;> simp [okO] at hx
  constructor
  · intro p x h' he b hb hn
    cases op <;> simp only [opA] at he
    case makeFunc fn a c => cases fn <;> cases he
    case store t a v =>
      refine ⟨rfl, ?_⟩
      (repeat' split at he) <;> first | (cases he; done) | skip
      rename_i hq _ _
      injection he with _ _ he; subst he
      rw [set _ _ _ hn, hq]; simp
    case convert src dst x =>
      simp only [convO, convA] at he
      (repeat' split at he) <;> first | (cases he; done) | skip
      injection he with _ _ he; subst he
      exact (new _ b hb hn).elim
    case makeSlice t l c =>
      simp only [makeA] at he
      (repeat' split at he) <;> first | (cases he; done) | skip
      injection he with _ _ he; subst he
      exact (new _ b hb hn).elim
    case alloc t =>
      split at he
      · injection he with _ _ he; subst he
        exact (new _ b hb hn).elim
      · cases he
    case box t x =>
      split at he
      · injection he with _ _ he; subst he
        exact (new _ b hb hn).elim
      · cases he
    case call c =>
      obtain ⟨callee, args, ats⟩ := c
      cases callee with
      | value f => simp only at he; split at he <;> cases he
      | invoke r m => cases he
      | builtin bi =>
        simp only at he
        cases bi <;> try (simp only [builtinA] at he; cases he; done)
        case append =>
          refine ⟨rfl, ?_⟩
          match hA : args.toList.map ev with
          | [] => rw [hA] at he; simp only [builtinA] at he; cases he
          | [_] => rw [hA] at he; simp only [builtinA] at he; cases he
          | _ :: _ :: _ :: _ => rw [hA] at he; simp only [builtinA] at he; cases he
          | [x', y'] =>
            rw [hA] at he
            simp only [builtinA] at he
            have key : ∀ (rx ry : Option (Nat × List (List AV))) (blk : Option Blk) (px py : Prop), blk = blkOf h x' → appendV C s ats.toList x' rx ry blk px py h = .fx p x h' → h b ≠ none := by
              intro rx ry blk px py hbk he
              unfold appendV at he
              (repeat' split at he) <;> first | (cases he; done) | skip
              · injection he with _ _ he; subst he; exact (new _ b hb hn).elim
              · injection he with _ _ he; subst he; exact (new _ b hb hn).elim
              · injection he with _ _ he; subst he; exact (new _ b hb hn).elim
              · injection he with _ _ he; subst he
                rw [upd_other _ _ hb] at hn
                rw [set _ _ _ hn]
                simp only [blkOf] at hbk
                rw [← hbk]; simp
            exact key _ _ _ _ _ rfl he
        case copy =>
          refine ⟨rfl, ?_⟩
          match hA : args.toList.map ev with
          | [] => rw [hA] at he; simp only [builtinA] at he; cases he
          | [_] => rw [hA] at he; simp only [builtinA] at he; cases he
          | _ :: _ :: _ :: _ => rw [hA] at he; simp only [builtinA] at he; cases he
          | [x', y'] =>
            rw [hA] at he
            simp only [builtinA, copyA] at he
            (repeat' split at he) <;> first | (cases he; done) | skip
            rename_i hq _ _ _ _ _
            injection he with _ _ he; subst he
            rw [set _ _ _ hn, hq]; simp
        case len =>
          match hA : args.toList.map ev with
          | [] => rw [hA] at he; simp only [builtinA] at he; cases he
          | _ :: _ :: _ => rw [hA] at he; simp only [builtinA] at he; cases he
          | [x'] =>
            rw [hA] at he
            match hT : ats.toList with
            | [] => rw [hT] at he; simp only [builtinA] at he; cases he
            | _ :: _ :: _ => rw [hT] at he; simp only [builtinA] at he; cases he
            | [t'] =>
              rw [hT] at he
              simp only [builtinA, lenB] at he
              (repeat' split at he) <;> cases he
        case min =>
          match hA : args.toList.map ev with
          | [] => rw [hA] at he; simp only [builtinA] at he; cases he
          | [_] => rw [hA] at he; simp only [builtinA] at he; cases he
          | _ :: _ :: _ :: _ => rw [hA] at he; simp only [builtinA] at he; cases he
          | [x', y'] =>
            rw [hA] at he
            simp only [builtinA, minA] at he
            (repeat' split at he) <;> cases he
        case max =>
          match hA : args.toList.map ev with
          | [] => rw [hA] at he; simp only [builtinA] at he; cases he
          | [_] => rw [hA] at he; simp only [builtinA] at he; cases he
          | _ :: _ :: _ :: _ => rw [hA] at he; simp only [builtinA] at he; cases he
          | [x', y'] =>
            rw [hA] at he
            simp only [builtinA, maxA] at he
            (repeat' split at he) <;> cases he
    all_goals first
      | (simp only [pickA, buildA, loadAtA, nilA, unA, binA, intOp, shOp, boolOp, strOp, sliceA, sliceV, fieldAddrA, fieldA, indexAddrA, indexAddrV, indexA, extractA] at he
         (repeat' split at he) <;> first | (cases he; done) | (exact absurd he (oB _ _ _ _)))
      | ((repeat' split at he) <;> first | (cases he; done) | (exact absurd he (oB _ _ _ _)))
      | (cases he; done)
  · intro rows i f he row h' hf b hb hn
    cases op <;> simp only [opA] at he
    case makeFunc fn a c => cases fn <;> cases he
    case store t a v =>
      refine ⟨rfl, ?_⟩
      (repeat' split at he) <;> first | (cases he; done) | skip
      rename_i hq
      injection he with _ _ he; subst he
      dsimp only at hf
      split at hf
      · injection hf with hf; subst hf
        rw [set _ _ _ hn, hq]; simp
      · cases hf
    case call c =>
      obtain ⟨callee, args, ats⟩ := c
      cases callee with
      | value f => simp only at he; split at he <;> cases he
      | invoke r m => cases he
      | builtin bi =>
        exfalso
        simp only at he
        unfold builtinA at he
        simp only [lenB, minA, maxA, copyA, appendV] at he
        (repeat' split at he) <;> cases he
    all_goals first
      | (simp only [pickA, buildA, loadAtA, nilA, unA, binA, intOp, shOp, boolOp, strOp, convO, convA, makeA, sliceA, sliceV, fieldAddrA, fieldA, indexAddrA, indexAddrV, indexA, extractA] at he
         (repeat' split at he) <;> first | (cases he; done) | (exact absurd he (oI _ _ _ _)))
      | ((repeat' split at he) <;> first | (cases he; done) | (exact absurd he (oI _ _ _ _)))
      | (cases he; done)
theorem stepR_heap {o : Oper} {s : Nat} {t : Nat → AV} {h h' : AH} {x : AV} (hs : StepR C R all o s t h x h') : ∀ b, b ≠ s → h' b ≠ h b → writesO o.op = true ∧ h b ≠ none := by
  intro b hb hn
  unfold StepR at hs
  cases hg : o.guard with
  | some q =>
    obtain ⟨i, pol⟩ := q
    simp only [hg] at hs
    obtain ⟨d, g, y, _, _, _, rfl, _⟩ := hs
    exact absurd rfl hn
  | none =>
    simp only [hg] at hs
    obtain ⟨H1, H2⟩ := opA_heap (C := C) (ev := evA C t) (h := h) (s := s) o.op
    cases hr : opA C (evA C t) h s o.op with
    | bad => rw [hr] at hs; exact hs.elim
    | ok y => rw [hr] at hs; obtain ⟨_, rfl⟩ := hs; exact absurd rfl hn
    | need p y => rw [hr] at hs; obtain ⟨_, _, rfl⟩ := hs; exact absurd rfl hn
    | idx rows i f => rw [hr] at hs; obtain ⟨_, _, _, _, rfl⟩ := hs; exact absurd rfl hn
    | str p rows => rw [hr] at hs; obtain ⟨_, _, _, _, rfl⟩ := hs; exact absurd rfl hn
    | call f args => rw [hr] at hs; obtain ⟨_, _, _, _, rfl⟩ := hs; exact absurd rfl hn
    | fx p y h2 => rw [hr] at hs; obtain ⟨_, _, rfl⟩ := hs; exact H1 p y h' hr b hb hn
    | idxfx rows i f => rw [hr] at hs; obtain ⟨row, _, _, hf, _⟩ := hs; exact H2 rows i f hr row h' hf b hb hn

/-! ### slots -/
def valX (X : Nat → Bool) (l : List Oper) (xs : Nat → AV) (t : Nat → AV) : Nat → Nat → AV
  | 0 => t
  | k + 1 => match l[k]? with
    | some o => (match X k with | true => updO (valX X l xs t k) o.dst (xs k) | false => valX X l xs t k)
    | none => valX X l xs t k

variable {l : List Oper} {xs : Nat → AV} {t : Nat → AV}
theorem updO_other {f : Nat → AV} {d : Option Nat} {x : AV} {i : Nat} (h : d ≠ some i) : updO f d x i = f i := by
  cases d with
  | none => rfl
  | some k => exact upd_other _ _ (fun e => h (by rw [e]))
theorem updO_same {f : Nat → AV} {x : AV} {i : Nat} : updO f (some i) x i = x := upd_same _ _ _

theorem val_congr {X Y : Nat → Bool} {tmp : Nat} : ∀ (k : Nat), (∀ i o, i < k → l[i]? = some o → o.dst = some tmp → X i = Y i) → valX X l xs t k tmp = valX Y l xs t k tmp
  | 0, _ => rfl
  | k + 1, H => by
    have ih := val_congr k fun i o hi => H i o (by omega)
    simp only [valX]
    cases ho : l[k]? with
    | none => exact ih
    | some o =>
      by_cases hd : o.dst = some tmp
      · have := H k o (by omega) ho hd
        rw [this]
        cases Y k with
        | true => simp only [hd, updO_same]
        | false => exact ih
      · cases X k <;> cases Y k <;> simp only [updO_other hd, ih]
theorem val_stop {X : Nat → Bool} {tmp j : Nat} : ∀ (k : Nat), j ≤ k → (∀ i o, j ≤ i → i < k → l[i]? = some o → o.dst = some tmp → X i = false) → valX X l xs t k tmp = valX X l xs t j tmp
  | 0, hj, _ => by rw [show j = 0 by omega]
  | k + 1, hj, H => by
    by_cases he : j = k + 1
    · rw [he]
    · have ih := val_stop (tmp := tmp) k (by omega) fun i o h1 h2 => H i o h1 (by omega)
      rw [← ih]
      simp only [valX]
      cases ho : l[k]? with
      | none => rfl
      | some o =>
        by_cases hd : o.dst = some tmp
        · rw [H k o (by omega) (by omega) ho hd]
        · cases X k <;> simp only [updO_other hd]
theorem val_all {tt : Nat → Nat → AV} (h0 : tt 0 = t) (hs : ∀ k o, l[k]? = some o → tt (k + 1) = updO (tt k) o.dst (xs k)) : ∀ j, j ≤ l.length → tt j = valX (fun _ => true) l xs t j
  | 0, _ => h0
  | j + 1, hj => by
    have ih := val_all h0 hs j (by omega)
    have ho : l[j]? = some l[j] := List.getElem?_eq_getElem (by omega)
    rw [hs j _ ho, ih]
    simp only [valX, ho]
theorem val_lt {j : Nat} (tmp : Nat) (hj : j ≤ l.length) : valX (fun k => decide (k < j)) l xs t l.length tmp = valX (fun _ => true) l xs t j tmp := by
  rw [val_stop (j := j) l.length hj (fun i o h1 _ _ _ => by simpa using h1)]
  exact val_congr j fun i o hi _ _ => by simpa using hi
end
end Go.Proofs.Ytckjihpdjefpgaa
