/- Joined texts. -/
import Derived.Test.YtpefnjbmbfdmmaaDoorS5
namespace Go.Proofs.YtpefnjbmbfdmmaaDoor
open Go.RowKit
theorem maskE_spec (acc : List Nat) : ∀ (es : List Edge) (m i : Nat), (maskE acc es m).testBit i = true → m.testBit i = true ∨ ∃ e ∈ es, Region.binds .any e = true ∧ (i = e.on ∨ (acc.getD e.on 0).testBit i = true)
  | [], m, i, h => .inl h
  | e :: es, m, i, h => by
    simp only [maskE] at h
    rcases maskE_spec acc es _ i h with h | ⟨e', h1, h2⟩
    · split at h
      · rename_i hb
        simp only [Nat.testBit_or, Nat.testBit_two_pow, Bool.or_eq_true, decide_eq_true_eq] at h
        rcases h with (h | h) | h
        · exact .inl h
        · exact .inr ⟨e, List.mem_cons_self, hb, .inl h.symm⟩
        · exact .inr ⟨e, List.mem_cons_self, hb, .inr h⟩
      · exact .inl h
    · exact .inr ⟨e', List.mem_cons_of_mem _ h1, h2⟩
def Down (l : List Oper) (X : Nat → Prop) : Prop := ∀ j oj, X j → l[j]? = some oj → ∀ e ∈ oj.after.toList, Region.binds .any e = true → X e.on
theorem masks_spec {l : List Oper} {X : Nat → Prop} (hX : Down l X) : ∀ (rest pre : List Oper) (acc : List Nat), l = pre ++ rest → acc.length = pre.length →
    (∀ j oj, j < pre.length → l[j]? = some oj → (∀ e ∈ oj.after.toList, Region.binds .any e = true → X e.on) → ∀ i, (acc.getD j 0).testBit i = true → X i) →
    ∀ j oj, l[j]? = some oj → (∀ e ∈ oj.after.toList, Region.binds .any e = true → X e.on) → ∀ i, ((masks rest acc).getD j 0).testBit i = true → X i
  | [], pre, acc, hl, ha, H, j, oj, hj, hp, i, hi => by
    have hlt : j < pre.length := by rw [hl, List.append_nil] at hj; exact (List.getElem?_eq_some_iff.1 hj).1
    exact H j oj hlt hj hp i hi
  | o :: rest, pre, acc, hl, ha, H, j, oj, hj, hp, i, hi => by
    refine masks_spec hX rest (pre ++ [o]) (acc ++ [maskE acc o.after.toList 0]) (by rw [hl]; simp) (by simp [ha]) ?_ j oj hj hp i hi
    intro j oj hlt hj hp i hi
    rw [List.length_append] at hlt
    by_cases hjp : j < pre.length
    · rw [List.getD_eq_getElem?_getD, List.getElem?_append_left (by omega), ← List.getD_eq_getElem?_getD] at hi
      exact H j oj hjp hj hp i hi
    · have hje : j = pre.length := by simp at hlt; omega
      subst hje
      have hoj : oj = o := by
        rw [hl, List.getElem?_append_right (Nat.le_refl _), Nat.sub_self] at hj
        simpa using hj.symm
      subst hoj
      rw [List.getD_eq_getElem?_getD, List.getElem?_append_right (by omega), ha, Nat.sub_self] at hi
      simp only [List.getElem?_cons_zero, Option.getD_some] at hi
      rcases maskE_spec acc _ _ _ hi with h | ⟨e, h1, h2, h3⟩
      · simp at h
      · have hXe := hp e h1 h2
        rcases h3 with rfl | h3
        · exact hXe
        · rcases Nat.lt_or_ge e.on acc.length with hea | hea
          · have hel : e.on < l.length := by rw [hl, List.length_append]; omega
            exact H e.on l[e.on] (by omega) (List.getElem?_eq_getElem hel) (hX e.on _ hXe (List.getElem?_eq_getElem hel)) i h3
          · rw [List.getD_eq_getElem?_getD, List.getElem?_eq_none hea] at h3
            simp at h3
theorem masks_ok {l : List Oper} {X : Nat → Prop} (hX : Down l X) {j : Nat} {oj : Oper} (hj : l[j]? = some oj) (hp : ∀ e ∈ oj.after.toList, Region.binds .any e = true → X e.on) {i : Nat} (hi : ((masks l []).getD j 0).testBit i = true) : X i :=
  masks_spec hX l [] [] rfl rfl (fun j oj h => absurd h (by simp)) j oj hj hp i hi
structure DrawOk (l : List Oper) : Prop where
  back : ∀ j oj, l[j]? = some oj → ∀ e ∈ oj.after.toList, Region.binds .any e = true → e.on < j
  slot : ∀ i j oi oj d, l[i]? = some oi → l[j]? = some oj → i ≠ j → oi.dst = some d → d ∈ looksO l oj → ordd (masks l []) i j = true
  mem : ∀ i j oi oj, l[i]? = some oi → l[j]? = some oj → i ≠ j → writesO oi.op = true → readsO oj.op = true → ordd (masks l []) i j = true
theorem drawOk_spec {l : List Oper} (h : drawOk l = true) : DrawOk l := by
  have main : ∀ j oj, l[j]? = some oj → (oj.after.toList.all fun e => !Region.binds .any e || Nat.blt e.on j) = true ∧ ∀ i oi, l[i]? = some oi → (i == j ||
          ((match oi.dst with | none => true | some d => !(looksO l oj).contains d || ordd (masks l []) i j) &&
           (!(writesO oi.op && readsO oj.op) || ordd (masks l []) i j))) = true := by
    intro j oj hj
    have hjl : j < l.length := (List.getElem?_eq_some_iff.1 hj).1
    have h1 := List.all_eq_true.1 h j (by simpa using hjl)
    simp only [hj, Bool.and_eq_true] at h1
    refine ⟨h1.1, fun i oi hi => ?_⟩
    have hil : i < l.length := (List.getElem?_eq_some_iff.1 hi).1
    have h2 := List.all_eq_true.1 h1.2 i (by simpa using hil)
    simp only [hi] at h2
    exact h2
  refine ⟨fun j oj hj e he hb => ?_, fun i j oi oj d hi hj hne hd hl => ?_, fun i j oi oj hi hj hne hw hr => ?_⟩
  · have := List.all_eq_true.1 (main j oj hj).1 e he
    simp only [hb, Bool.not_true, Bool.false_or] at this
    exact Nat.le_of_ble_eq_true this
  · have := (main j oj hj).2 i oi hi
    have hb : (i == j) = false := by simpa using hne
    simp only [hb, Bool.false_or, Bool.and_eq_true, hd] at this
    have h1 := this.1
    rw [show (looksO l oj).contains d = true by simpa using hl] at h1
    simpa using h1
  · have := (main j oj hj).2 i oi hi
    have hb : (i == j) = false := by simpa using hne
    simp only [hb, Bool.false_or, Bool.and_eq_true] at this
    have h1 := this.2
    simpa [hw, hr] using h1
end Go.Proofs.YtpefnjbmbfdmmaaDoor
namespace Go.Proofs.YtpefnjbmbfdmmaaDoor
open Go.RowKit
section
variable {C : Ctx} {V : Inv C.fr} {R : FuncId → List AV → AV → Prop} {all : List Oper} {n : Nat} {K : ASt → Prop}
theorem chain_ex (nH : NoH C) : ∀ (rest : List Oper) (j : Nat) (t : Nat → AV) (h : AH), regA C R all rest j ⟨t, h, n⟩ K → ∃ (xs : Nat → AV) (hh : Nat → AH) (tt : Nat → Nat → AV), tt j = t ∧ hh j = h ∧
    (∀ k o, rest[k]? = some o → StepR C R all o (n + (j + k)) (tt (j + k)) (hh (j + k)) (xs (j + k)) (hh (j + k + 1)) ∧ tt (j + k + 1) = updO (tt (j + k)) o.dst (xs (j + k))) ∧ K ⟨tt (j + rest.length), hh (j + rest.length), n + (j + rest.length)⟩
  | [], j, t, h, hr => ⟨fun _ => .any, fun _ => h, fun _ => t, rfl, rfl, fun k o hk => by simp at hk, hr⟩
  | o :: rest, j, t, h, hr => by
    obtain ⟨x, h', h1, h2⟩ := (step_inv hr).resolve_right fun ⟨_, f, args, Post, _, hH, _⟩ => nH _ _ _ _ _ hH
    obtain ⟨xs, hh, tt, e1, e2, e3, e4⟩ := chain_ex nH rest (j + 1) _ h' h2
    refine ⟨fun k => if k = j then x else xs k, fun k => if k = j then h else hh k, fun k => if k = j then t else tt k, by simp, by simp, fun k o' hk => ?_, ?_⟩
    · cases k with
      | zero =>
        simp only [List.getElem?_cons_zero, Option.some.injEq] at hk
        subst hk
        simp only [Nat.add_zero, if_true, show ¬ j + 1 = j by omega, if_false, e1, e2]
        exact ⟨h1, trivial⟩
      | succ k =>
        simp only [List.getElem?_cons_succ] at hk
        have := e3 k o' hk
        simp only [show ¬ j + (k + 1) = j by omega, show ¬ j + (k + 1) + 1 = j by omega, if_false]
        rw [show j + (k + 1) = j + 1 + k by omega]
        exact this
    · simp only [List.length_cons, show ¬ j + (rest.length + 1) = j by omega, if_false]
      rw [show j + (rest.length + 1) = j + 1 + rest.length by omega]
      exact e4
theorem opA_heap {ev : Operand → AV} {h : AH} {s : Nat} (op : Op) : (∀ p x h', opA C ev h s op = .fx p x h' → ∀ b, b ≠ s → h' b ≠ h b → writesO op = true ∧ h b ≠ none) ∧
    (∀ rows i f, opA C ev h s op = .idxfx rows i f → ∀ row h', f row = some h' → ∀ b, b ≠ s → h' b ≠ h b → writesO op = true ∧ h b ≠ none) := by
  have new : ∀ (blk : Option Blk) b, b ≠ s → upd h s blk b ≠ h b → False := fun blk b hb hn => hn (upd_other _ _ hb)
  have set : ∀ (b0 : Nat) (blk : Option Blk) b, upd h b0 blk b ≠ h b → b = b0 := fun b0 blk b hn => Classical.byContradiction fun e => hn (upd_other _ _ e)
  have oB : ∀ (x : Option AV) p y h', okO x ≠ .fx p y h' := fun x p y h' hx => by cases x <;> simp [okO] at hx
  have oI : ∀ (x : Option AV) rows i f, okO x ≠ .idxfx rows i f := fun x rows i f hx => by cases x <;> simp [okO] at hx
  constructor
  · intro p x h' he b hb hn
    cases op <;> simp only [opA] at he
    case makeFunc fn a c => cases fn <;> cases he
    case store t a v =>
      refine ⟨rfl, ?_⟩
      (repeat' split at he) <;> first | (cases he; done) | skip
      rename_i hq _ _
      injection he with _ _ he; subst he
      rw [set _ _ _ hn, hq]; simp
    case convert src dst x =>
      simp only [convO, convA] at he
      (repeat' split at he) <;> first | (cases he; done) | skip
      injection he with _ _ he; subst he
      exact (new _ b hb hn).elim
    case makeSlice t l c =>
      simp only [makeA] at he
      (repeat' split at he) <;> first | (cases he; done) | skip
      injection he with _ _ he; subst he
      exact (new _ b hb hn).elim
    case alloc t =>
      split at he
      · injection he with _ _ he; subst he
        exact (new _ b hb hn).elim
      · cases he
    case box t x =>
      split at he
      · injection he with _ _ he; subst he
        exact (new _ b hb hn).elim
      · cases he
    case call c =>
      obtain ⟨callee, args, ats⟩ := c
      cases callee with
      | value f => simp only at he; split at he <;> cases he
      | invoke r m => cases he
      | builtin bi =>
        simp only at he
        cases bi <;> try (simp only [builtinA] at he; cases he; done)
        case append =>
          refine ⟨rfl, ?_⟩
          match hA : args.toList.map ev with
          | [] => rw [hA] at he; simp only [builtinA] at he; cases he
          | [_] => rw [hA] at he; simp only [builtinA] at he; cases he
          | _ :: _ :: _ :: _ => rw [hA] at he; simp only [builtinA] at he; cases he
          | [x', y'] =>
            rw [hA] at he
            simp only [builtinA] at he
            have key : ∀ (rx ry : Option (Nat × List (List AV))) (blk : Option Blk) (px py : Prop), blk = blkOf h x' → appendV C s ats.toList x' rx ry blk px py h = .fx p x h' → h b ≠ none := by
              intro rx ry blk px py hbk he
              unfold appendV at he
              (repeat' split at he) <;> first | (cases he; done) | skip
              · injection he with _ _ he; subst he; exact (new _ b hb hn).elim
              · injection he with _ _ he; subst he; exact (new _ b hb hn).elim
              · injection he with _ _ he; subst he; exact (new _ b hb hn).elim
              · injection he with _ _ he; subst he
                rw [upd_other _ _ hb] at hn
                rw [set _ _ _ hn]
                simp only [blkOf] at hbk
                rw [← hbk]; simp
            exact key _ _ _ _ _ rfl he
        case copy =>
          refine ⟨rfl, ?_⟩
          match hA : args.toList.map ev with
          | [] => rw [hA] at he; simp only [builtinA] at he; cases he
          | [_] => rw [hA] at he; simp only [builtinA] at he; cases he
          | _ :: _ :: _ :: _ => rw [hA] at he; simp only [builtinA] at he; cases he
          | [x', y'] =>
            rw [hA] at he
            simp only [builtinA, copyA] at he
            (repeat' split at he) <;> first | (cases he; done) | skip
            rename_i hq _ _ _ _ _
            injection he with _ _ he; subst he
            rw [set _ _ _ hn, hq]; simp
        case len =>
          match hA : args.toList.map ev with
          | [] => rw [hA] at he; simp only [builtinA] at he; cases he
          | _ :: _ :: _ => rw [hA] at he; simp only [builtinA] at he; cases he
          | [x'] =>
            rw [hA] at he
            match hT : ats.toList with
            | [] => rw [hT] at he; simp only [builtinA] at he; cases he
            | _ :: _ :: _ => rw [hT] at he; simp only [builtinA] at he; cases he
            | [t'] =>
              rw [hT] at he
              simp only [builtinA, lenB] at he
              (repeat' split at he) <;> cases he
        case min =>
          match hA : args.toList.map ev with
          | [] => rw [hA] at he; simp only [builtinA] at he; cases he
          | [_] => rw [hA] at he; simp only [builtinA] at he; cases he
          | _ :: _ :: _ :: _ => rw [hA] at he; simp only [builtinA] at he; cases he
          | [x', y'] =>
            rw [hA] at he
            simp only [builtinA, minA] at he
            (repeat' split at he) <;> cases he
        case max =>
          match hA : args.toList.map ev with
          | [] => rw [hA] at he; simp only [builtinA] at he; cases he
          | [_] => rw [hA] at he; simp only [builtinA] at he; cases he
          | _ :: _ :: _ :: _ => rw [hA] at he; simp only [builtinA] at he; cases he
          | [x', y'] =>
            rw [hA] at he
            simp only [builtinA, maxA] at he
            (repeat' split at he) <;> cases he
    all_goals first
      | (simp only [pickA, buildA, loadAtA, nilA, unA, nilEqA, binA, intOp, shOp, boolOp, strOp, sliceA, sliceV, fieldAddrA, fieldA, indexAddrA, indexAddrV, indexA, extractA] at he
         (repeat' split at he) <;> first | (cases he; done) | (exact absurd he (oB _ _ _ _)))
      | ((repeat' split at he) <;> first | (cases he; done) | (exact absurd he (oB _ _ _ _)))
      | (cases he; done)
  · intro rows i f he row h' hf b hb hn
    cases op <;> simp only [opA] at he
    case makeFunc fn a c => cases fn <;> cases he
    case store t a v =>
      refine ⟨rfl, ?_⟩
      (repeat' split at he) <;> first | (cases he; done) | skip
      all_goals
        injection he with _ _ he
        subst he
        dsimp only at hf
        (repeat' split at hf) <;> first
          | (cases hf; done)
          | (injection hf with hf
             subst hf
             rw [set _ _ _ hn]
             intro h0
             simp_all)
    case call c =>
      obtain ⟨callee, args, ats⟩ := c
      cases callee with
      | value f => simp only at he; split at he <;> cases he
      | invoke r m => cases he
      | builtin bi =>
        exfalso
        simp only at he
        unfold builtinA at he
        simp only [lenB, minA, maxA, copyA, appendV] at he
        (repeat' split at he) <;> cases he
    all_goals first
      | (simp only [pickA, buildA, loadAtA, nilA, unA, nilEqA, binA, intOp, shOp, boolOp, strOp, convO, convA, makeA, sliceA, sliceV, fieldAddrA, fieldA, indexAddrA, indexAddrV, indexA, extractA] at he
         (repeat' split at he) <;> first | (cases he; done) | (exact absurd he (oI _ _ _ _)))
      | ((repeat' split at he) <;> first | (cases he; done) | (exact absurd he (oI _ _ _ _)))
      | (cases he; done)
theorem stepR_heap {o : Oper} {s : Nat} {t : Nat → AV} {h h' : AH} {x : AV} (hs : StepR C R all o s t h x h') : ∀ b, b ≠ s → h' b ≠ h b → writesO o.op = true ∧ h b ≠ none := by
  intro b hb hn
  have main : NodeR C R h (opA C (evA C t) h s o.op) x h' → writesO o.op = true ∧ h b ≠ none := fun hs => by
    obtain ⟨H1, H2⟩ := opA_heap (C := C) (ev := evA C t) (h := h) (s := s) o.op
    cases hr : opA C (evA C t) h s o.op with
    | bad => rw [hr] at hs; exact hs.elim
    | ok y => rw [hr] at hs; obtain ⟨_, rfl⟩ := hs; exact absurd rfl hn
    | need p y => rw [hr] at hs; obtain ⟨_, _, rfl⟩ := hs; exact absurd rfl hn
    | idx rows i f => rw [hr] at hs; obtain ⟨_, _, _, _, rfl⟩ := hs; exact absurd rfl hn
    | str p rows => rw [hr] at hs; obtain ⟨_, _, _, _, rfl⟩ := hs; exact absurd rfl hn
    | call f args => rw [hr] at hs; obtain ⟨_, _, _, _, rfl⟩ := hs; exact absurd rfl hn
    | fx p y h2 => rw [hr] at hs; obtain ⟨_, _, rfl⟩ := hs; exact H1 p y h' hr b hb hn
    | idxfx rows i f => rw [hr] at hs; obtain ⟨row, _, _, hf, _⟩ := hs; exact H2 rows i f hr row h' hf b hb hn
  unfold StepR at hs
  cases hg : o.guard with
  | some q =>
    obtain ⟨i, pol⟩ := q
    simp only [hg] at hs
    obtain ⟨d, g, y, _, _, ⟨_, rfl, _⟩ | ⟨_, hs⟩⟩ := hs
    · exact absurd rfl hn
    · exact main hs
  | none => simp only [hg] at hs; exact main hs
def valX (X : Nat → Bool) (l : List Oper) (xs : Nat → AV) (t : Nat → AV) : Nat → Nat → AV
  | 0 => t
  | k + 1 => match l[k]? with
    | some o => (match X k with | true => updO (valX X l xs t k) o.dst (xs k) | false => valX X l xs t k)
    | none => valX X l xs t k
variable {l : List Oper} {xs : Nat → AV} {t : Nat → AV}
theorem updO_other {f : Nat → AV} {d : Option Nat} {x : AV} {i : Nat} (h : d ≠ some i) : updO f d x i = f i := by
  cases d with
  | none => rfl
  | some k => exact upd_other _ _ (fun e => h (by rw [e]))
theorem updO_same {f : Nat → AV} {x : AV} {i : Nat} : updO f (some i) x i = x := upd_same _ _ _
theorem val_congr {X Y : Nat → Bool} {tmp : Nat} : ∀ (k : Nat), (∀ i o, i < k → l[i]? = some o → o.dst = some tmp → X i = Y i) → valX X l xs t k tmp = valX Y l xs t k tmp
  | 0, _ => rfl
  | k + 1, H => by
    have ih := val_congr k fun i o hi => H i o (by omega)
    simp only [valX]
    cases ho : l[k]? with
    | none => exact ih
    | some o =>
      by_cases hd : o.dst = some tmp
      · have := H k o (by omega) ho hd
        rw [this]
        cases Y k with
        | true => simp only [hd, updO_same]
        | false => exact ih
      · cases X k <;> cases Y k <;> simp only [updO_other hd, ih]
theorem val_stop {X : Nat → Bool} {tmp j : Nat} : ∀ (k : Nat), j ≤ k → (∀ i o, j ≤ i → i < k → l[i]? = some o → o.dst = some tmp → X i = false) → valX X l xs t k tmp = valX X l xs t j tmp
  | 0, hj, _ => by rw [show j = 0 by omega]
  | k + 1, hj, H => by
    by_cases he : j = k + 1
    · rw [he]
    · have ih := val_stop (tmp := tmp) k (by omega) fun i o h1 h2 => H i o h1 (by omega)
      rw [← ih]
      simp only [valX]
      cases ho : l[k]? with
      | none => rfl
      | some o =>
        by_cases hd : o.dst = some tmp
        · rw [H k o (by omega) (by omega) ho hd]
        · cases X k <;> simp only [updO_other hd]
theorem val_all {tt : Nat → Nat → AV} (h0 : tt 0 = t) (hs : ∀ k o, l[k]? = some o → tt (k + 1) = updO (tt k) o.dst (xs k)) : ∀ j, j ≤ l.length → tt j = valX (fun _ => true) l xs t j
  | 0, _ => h0
  | j + 1, hj => by
    have ih := val_all h0 hs j (by omega)
    have ho : l[j]? = some l[j] := List.getElem?_eq_getElem (by omega)
    rw [hs j _ ho, ih]
    simp only [valX, ho]
theorem val_lt {j : Nat} (tmp : Nat) (hj : j ≤ l.length) : valX (fun k => decide (k < j)) l xs t l.length tmp = valX (fun _ => true) l xs t j tmp := by
  rw [val_stop (j := j) l.length hj (fun i o h1 _ _ _ => by simpa using h1)]
  exact val_congr j fun i o hi _ _ => by simpa using hi
end
end Go.Proofs.YtpefnjbmbfdmmaaDoor
namespace Go.Proofs.YtpefnjbmbfdmmaaDoor
open Go.RowKit
section
variable {C : Ctx} {V : Inv C.fr}
theorem opA_ev_congr {ev ev' : Operand → AV} {h : AH} {s : Nat} (op : Op) (he : ∀ x ∈ op.operands, ev x = ev' x) : opA C ev h s op = opA C ev' h s op := by
  cases op <;> simp only [Op.operands] at he <;> simp only [opA]
  case move x => rw [he x (by simp)]
  case assign x => rw [he x (by simp)]
  case pick c a b => rw [he c (by simp), he a (by simp), he b (by simp)]
  case box t x => rw [he x (by simp)]
  case build t ps =>
    rw [List.map_congr_left (f := fun p : Nat × Operand => (p.1, ev p.2)) (g := fun p : Nat × Operand => (p.1, ev' p.2)) fun p hp => by rw [he p.2 (by simp; exact ⟨p.1, by simpa using hp⟩)]]
  case buildSlice t n ps =>
    rw [List.map_congr_left (f := fun p : Nat × Operand => (p.1, ev p.2)) (g := fun p : Nat × Operand => (p.1, ev' p.2)) fun p hp => by rw [he p.2 (by simp; exact ⟨p.1, by simpa using hp⟩)]]
  case load t a => rw [he a (by simp)]
  case store t a x => rw [he a (by simp), he x (by simp)]
  case nilCheck x => rw [he x (by simp)]
  case binOp op t x y yt => rw [he x (by simp), he y (by simp)]
  case unOp op t x => rw [he x (by simp)]
  case convert src dst x => rw [he x (by simp)]
  case makeFunc fn first caps =>
    cases fn <;> try rfl
    simp only
    rw [List.map_congr_left (f := ev) (g := ev') (l := first.toList) fun x hx => he x (by simp; exact .inl (by simpa using hx)), List.map_congr_left (f := ev) (g := ev') (l := caps.toList) fun x hx => he x (by simp; exact .inr (by simpa using hx))]
  case makeSlice t l c => rw [he l (by simp), he c (by simp)]
  case slice t x lo hi mx =>
    have opt : ∀ (y : Option Operand), (∀ z, y = some z → ev z = ev' z) → y.map ev = y.map ev' := by
      intro y hy
      cases y with
      | none => rfl
      | some z => simp only [Option.map_some, hy z rfl]
    rw [he x (by simp), opt lo fun z hz => he z (by subst hz; simp), opt hi fun z hz => he z (by subst hz; simp), opt mx fun z hz => he z (by subst hz; simp)]
  case fieldAddr t x f => rw [he x (by simp)]
  case field t x f => rw [he x (by simp)]
  case indexAddr t x i => rw [he x (by simp), he i (by simp)]
  case index t x i => rw [he x (by simp), he i (by simp)]
  case extract x i => rw [he x (by simp)]
  case call c =>
    obtain ⟨callee, args, ats⟩ := c
    have ha : args.toList.map ev = args.toList.map ev' := List.map_congr_left fun x hx => he x (by simp [Call.operands]; exact .inr (by simpa using hx))
    cases callee with
    | builtin b => simp only; rw [ha]
    | invoke r m => rfl
    | value f => simp only; rw [he f (by simp [Call.operands]), ha]
theorem mem_tmpsO : ∀ (l : List Operand) (i : Nat), .tmp i ∈ l → i ∈ tmpsO l
  | [], _, h => by cases h
  | x :: l, i, h => by
    rcases List.mem_cons.1 h with rfl | h
    · simp [tmpsO]
    · have := mem_tmpsO l i h
      cases x <;> simp [tmpsO, this]
theorem condsA_congr {t t' : Nat → AV} : ∀ (l : List Operand), (∀ i, .tmp i ∈ l → t i = t' i) → condsA t l = condsA t' l
  | [], _ => rfl
  | x :: l, h => by
    have ih := condsA_congr l fun i hi => h i (List.mem_cons_of_mem _ hi)
    cases x with
    | tmp i => simp only [condsA, h i (List.mem_cons_self), ih]
    | _ => simp only [condsA, ih]
theorem condsO_congr {t t' : Nat → AV} (op : Op) (h : ∀ i, .tmp i ∈ op.operands.toList → t i = t' i) : condsO t op = condsO t' op := by
  cases op <;> first | exact condsA_congr _ h | skip
  case pick c x y => exact condsA_congr [c] fun i hi => h i (by simp at hi; subst hi; exact List.mem_cons_self)
theorem evS_congr {C : Ctx} {t t' : Nat → AV} (op : Op) (h : ∀ x ∈ op.operands, evA C t x = evA C t' x) (x : Operand) (hx : x ∈ op.operands) : evS C t op x = evS C t' op x := by
  have e := h x hx
  cases op <;> first | exact congrArg strip e | skip
  case pick c p q => show (match sameO c x with | true => strip (evA C t x) | false => evA C t x) = (match sameO c x with | true => strip (evA C t' x) | false => evA C t' x); rw [e]
variable {all : List Oper} {o : Oper} {s N : Nat} {t tX : Nat → AV} {h h' hX : AH} {a : Act} {w w0 : World} {D : Nat → Prop} {S0 : Nat → Prop} {S : Nat → Prop} {β : Bt} {R : FuncId → List AV → AV → Prop} {x : AV}
theorem stepR_tr (M : SimD C V w0 S0 N D tX hX a w S β) (hst : StepR C R all o s t h x h') (hlook : ∀ i ∈ looksO all o, tX i = t i) (hag : readsO o.op = true → Agree β h hX) :
    ∃ h2, StepR C R all o s tX hX x h2 ∧ HRel h hX s (writesO o.op) β h' h2 := by
  have hops : ∀ i, .tmp i ∈ o.op.operands.toList → tX i = t i := fun i hi => hlook i (by simp only [looksO, List.mem_append]; exact .inl (.inr (mem_tmpsO _ i hi)))
  have hev : ∀ x ∈ o.op.operands, evA C tX x = evA C t x := fun x hx => by
    cases x with
    | tmp i => exact hops i (by simpa using hx)
    | _ => rfl
  unfold StepR at hst ⊢
  cases hg : o.guard with
  | none =>
    simp only [hg] at hst ⊢
    rw [opA_ev_congr (ev' := evA C tX) o.op fun x hx => (hev x hx).symm] at hst
    exact nodeR_tr o.op (fun x _ => ev_rep M x) hag hst
  | some q =>
    obtain ⟨i, pol⟩ := q
    simp only [hg] at hst ⊢
    obtain ⟨d, g, y, q1, q2, ⟨q3, rfl, q4⟩ | ⟨q3, q4⟩⟩ := hst
    case inr =>
      have hd : tX d = t d := hlook d (by simp only [looksO, hg, q1, List.mem_append]; exact .inr (by simp))
      rw [opA_ev_congr (ev' := evA C tX) o.op fun x hx => (hev x hx).symm] at q4
      obtain ⟨h2, e1, e2⟩ := nodeR_tr o.op (fun x _ => ev_rep M x) hag q4
      exact ⟨h2, ⟨d, g, y, q1, by rw [hd]; exact q2, .inr ⟨q3, e1⟩⟩, e2⟩
    have hd : tX d = t d := hlook d (by simp only [looksO, hg, q1, List.mem_append]; exact .inr (by simp))
    have hcs : condsO tX o.op = condsO t o.op := condsO_congr _ hops
    refine ⟨hX, ⟨d, g, y, q1, by rw [hd]; exact q2, .inl ⟨q3, rfl, ?_⟩⟩, HRel.refl⟩
    rcases q4 with ⟨c1, c2⟩ | ⟨c, c1, c2, c3⟩
    · refine .inl ⟨by rw [hcs]; exact c1, fun hg' => ?_⟩
      obtain ⟨f1, f2⟩ := c2 hg'
      rw [opA_ev_congr (ev' := evA C tX) o.op fun x hx => (hev x hx).symm] at f1 f2
      obtain ⟨h2, e1, _⟩ := nodeR_tr o.op (fun x _ => ev_rep M x) hag f2
      have T := opA_tr (C := C) (s := s) o.op (fun x _ => ev_rep M x) hag
      have e2 : opA C (evA C tX) hX s o.op = opA C (evA C tX) h' s o.op := by
        cases hr : opA C (evA C tX) h' s o.op <;> rw [hr] at T f1 <;> first | exact T | (simp [isFx] at f1)
      rw [e2] at e1 ⊢
      refine ⟨f1, ?_⟩
      cases hr : opA C (evA C tX) h' s o.op <;> rw [hr] at e1 f1 <;> first | (simp [isFx] at f1; done) | skip
      · obtain ⟨rfl, rfl⟩ := e1; exact ⟨rfl, rfl⟩
      · obtain ⟨p, rfl, rfl⟩ := e1; exact ⟨p, rfl, rfl⟩
      · obtain ⟨row, p1, p2, p3, rfl⟩ := e1; exact ⟨row, p1, p2, p3, rfl⟩
      · obtain ⟨l, p1, p2, p3, rfl⟩ := e1; exact ⟨l, p1, p2, p3, rfl⟩
      · obtain ⟨p1, p2, p3, p4, rfl⟩ := e1; exact ⟨p1, p2, p3, p4, rfl⟩
    · refine .inr ⟨c, by rw [hcs]; exact c1, c2, fun hg' => ?_⟩
      obtain ⟨f1, f2⟩ := c3 hg'
      rw [opA_ev_congr (ev' := evS C tX o.op) o.op fun x hx => (evS_congr o.op hev x hx).symm] at f1 f2
      have hsr : ∀ x ∈ o.op.operands, Rep S w β (evS C tX o.op x) (a.eval x) := evS_rep M o.op (hcs.trans c1) (c2 hg')
      obtain ⟨h2, e1, _⟩ := nodeR_tr o.op hsr hag f2
      have T := opA_tr (C := C) (s := s) o.op hsr hag
      have e2 : opA C (evS C tX o.op) hX s o.op = opA C (evS C tX o.op) h' s o.op := by
        cases hr : opA C (evS C tX o.op) h' s o.op <;> rw [hr] at T f1 <;> first | exact T | (simp [isFx] at f1)
      rw [e2] at e1 ⊢
      refine ⟨f1, ?_⟩
      cases hr : opA C (evS C tX o.op) h' s o.op <;> rw [hr] at e1 f1 <;> first | (simp [isFx] at f1; done) | skip
      · obtain ⟨rfl, rfl⟩ := e1; exact ⟨rfl, rfl⟩
      · obtain ⟨p, rfl, rfl⟩ := e1; exact ⟨p, rfl, rfl⟩
      · obtain ⟨row, p1, p2, p3, rfl⟩ := e1; exact ⟨row, p1, p2, p3, rfl⟩
      · obtain ⟨l, p1, p2, p3, rfl⟩ := e1; exact ⟨l, p1, p2, p3, rfl⟩
      · obtain ⟨p1, p2, p3, p4, rfl⟩ := e1; exact ⟨p1, p2, p3, p4, rfl⟩
end
end Go.Proofs.YtpefnjbmbfdmmaaDoor
namespace Go.Proofs.YtpefnjbmbfdmmaaDoor
open Go.RowKit
def lastW (W : Nat → Bool) : Nat → Nat
  | 0 => 0
  | k + 1 => match W k with | true => k + 1 | false => lastW W k
theorem lastW_le (W : Nat → Bool) : ∀ k, lastW W k ≤ k
  | 0 => Nat.le_refl _
  | k + 1 => by simp only [lastW]; split <;> have := lastW_le W k <;> omega
theorem lastW_ge {W : Nat → Bool} : ∀ (k i : Nat), i < k → W i = true → i + 1 ≤ lastW W k
  | 0, i, h, _ => by omega
  | k + 1, i, h, hi => by
    simp only [lastW]
    split
    · omega
    · rename_i hk
      by_cases he : i = k
      · subst he; rw [hi] at hk; cases hk
      · exact lastW_ge k i (by omega) hi
theorem lastW_mem {W : Nat → Bool} : ∀ (k : Nat), lastW W k = 0 ∨ W (lastW W k - 1) = true
  | 0 => .inl rfl
  | k + 1 => by
    simp only [lastW]
    split
    · rename_i hk; exact .inr (by simpa using hk)
    · exact lastW_mem k
theorem lastW_none {W : Nat → Bool} : ∀ (k p : Nat), (∀ i, i < k → W i = true → i < p) → lastW W k ≤ p
  | 0, _, _ => Nat.zero_le _
  | k + 1, p, h => by
    simp only [lastW]
    split
    · rename_i hk; exact h k (by omega) hk
    · exact lastW_none k p fun i hi => h i (by omega)
def cntX (X : Nat → Bool) : Nat → Nat
  | 0 => 0
  | k + 1 => (match X k with | true => 0 | false => 1) + cntX X k
theorem cntX_zero {X : Nat → Bool} : ∀ k, cntX X k = 0 → ∀ i, i < k → X i = true
  | 0, _, i, hi => by omega
  | k + 1, h, i, hi => by
    simp only [cntX] at h
    by_cases he : i = k
    · subst he; cases hx : X i <;> rw [hx] at h <;> first | rfl | (simp at h; done) | (simp at h; omega)
    · exact cntX_zero k (by omega) i (by omega)
theorem cntX_congr {X Y : Nat → Bool} : ∀ k, (∀ i, i < k → X i = Y i) → cntX X k = cntX Y k
  | 0, _ => rfl
  | k + 1, h => by simp only [cntX, h k (by omega), cntX_congr k fun i hi => h i (by omega)]
theorem cntX_put {X Y : Nat → Bool} {j : Nat} (hj : X j = false) (hy : Y j = true) (ho : ∀ i, i ≠ j → Y i = X i) : ∀ k, j < k → cntX Y k + 1 = cntX X k
  | 0, h => by omega
  | k + 1, h => by
    simp only [cntX]
    by_cases he : j = k
    · subst he
      rw [hj, hy, cntX_congr (X := Y) (Y := X) j fun i hi => ho i (by omega)]
      simp; omega
    · have := cntX_put hj hy ho k (by omega)
      rw [ho k (fun e => he e.symm)]
      omega
section
variable {C : Ctx} {V : Inv C.fr} {R : FuncId → List AV → AV → Prop}
theorem bit_lt {l : List Oper} (D : DrawOk l) {i j : Nat} {oj : Oper} (hj : l[j]? = some oj) (hi : ((masks l []).getD j 0).testBit i = true) : i < j :=
  masks_ok (X := (· < j)) (fun k ok hk hok e he hb => Nat.lt_trans (D.back k ok hok e he hb) hk) hj (fun e he hb => D.back j oj hj e he hb) hi
theorem ord_iff {l : List Oper} (D : DrawOk l) {X : Nat → Prop} (hX : Down l X) {i j : Nat} {oi oj : Oper} (hi : l[i]? = some oi) (hj : l[j]? = some oj) (hp : ∀ e ∈ oj.after.toList, Region.binds .any e = true → X e.on) (hnj : ¬ X j) (ho : ordd (masks l []) i j = true) : X i ↔ i < j := by
  simp only [ordd, Bool.or_eq_true] at ho
  rcases ho with ho | ho
  · exact ⟨fun _ => bit_lt D hj ho, fun _ => masks_ok hX hj hp ho⟩
  · have hlt := bit_lt D hi ho
    refine ⟨fun hXi => absurd (masks_ok hX hi (fun e he hb => hX i oi hXi hi e he hb) ho) hnj, fun h => by omega⟩
theorem same_to {hh : Nat → AH} {b j : Nat} : ∀ k, j ≤ k → (∀ i, j ≤ i → i < k → hh (i + 1) b = hh i b) → hh k b = hh j b
  | 0, hj, _ => by rw [show j = 0 by omega]
  | k + 1, hj, h => by
    by_cases he : j = k + 1
    · rw [he]
    · rw [h k (by omega) (by omega)]
      exact same_to k (by omega) fun i h1 h2 => h i h1 (by omega)
def wrt (l : List Oper) (k : Nat) : Bool := match l[k]? with | some o => writesO o.op | none => false
theorem writes_reads : ∀ (op : Op), writesO op = true → readsO op = true := by
  intro op h
  cases op <;> first | rfl | (simp [writesO] at h)
structure Chn (C : Ctx) (l : List Oper) (n : Nat) (h : AH) (t : Nat → AV) (xs : Nat → AV) (hh : Nat → AH) (tt : Nat → Nat → AV) : Prop where
  D : DrawOk l
  step : ∀ k o, l[k]? = some o → StepR C (DCall C) l o (n + k) (tt k) (hh k) (xs k) (hh (k + 1))
  next : ∀ k o, l[k]? = some o → tt (k + 1) = updO (tt k) o.dst (xs k)
  t0 : tt 0 = t
  h0 : hh 0 = h
  new : ∀ s, n ≤ s → h s = none
  nH : NoH C
variable {l : List Oper} {n : Nat} {h : AH} {t xs : Nat → AV} {hh : Nat → AH} {tt : Nat → Nat → AV}
theorem Chn.quiet (Z : Chn C l n h t xs hh tt) {i : Nat} (hi : i < l.length) (hw : wrt l i = false) {b : Nat} (hb : b ≠ n + i) : hh (i + 1) b = hh i b := by
  refine Classical.byContradiction fun hn => ?_
  have ho : l[i]? = some l[i] := List.getElem?_eq_getElem hi
  have := (stepR_heap (Z.step i _ ho) b hb hn).1
  simp only [wrt, ho, this] at hw
  cases hw
theorem Chn.live (Z : Chn C l n h t xs hh tt) {i : Nat} (hi : i < l.length) {b : Nat} (hb : b ≠ n + i) (hn : hh i b = none) : hh (i + 1) b = none := by
  have ho : l[i]? = some l[i] := List.getElem?_eq_getElem hi
  by_cases he : hh (i + 1) b = hh i b
  · rw [he, hn]
  · exact absurd hn (stepR_heap (Z.step i _ ho) b hb he).2
theorem Chn.fresh (Z : Chn C l n h t xs hh tt) {b : Nat} (hb : n ≤ b) : ∀ k, k ≤ l.length → n + k ≤ b → hh k b = none
  | 0, _, _ => by rw [Z.h0]; exact Z.new b hb
  | k + 1, hk, hkb => Z.live (by omega) (by omega) (Z.fresh hb k (by omega) (by omega))
structure DInv (C : Ctx) (V : Inv C.fr) (l : List Oper) (n : Nat) (h : AH) (t xs : Nat → AV) (hh : Nat → AH) (w0 : World) (S0 : Nat → Prop) (N : Nat) (X : Nat → Bool) (a : Act) (w : World) : Prop where
  down : Down l (X · = true)
  bnd : ∀ i, X i = true → i < l.length
  H3 : ∀ k j, X k = true → wrt l k = true → X j = false → j < l.length → hh (k + 1) (n + j) = hh k (n + j)
  sim : ∃ S β hX, SimD C V w0 S0 N (fun s => s < n ∨ ∃ i, X i = true ∧ s = n + i) (valX X l xs t l.length) hX a w S β ∧
    (∀ s, s < n → hX s = hh (lastW (fun i => X i && wrt l i) l.length) s) ∧
    (∀ i, X i = true → hX (n + i) = hh (max (i + 1) (lastW (fun i => X i && wrt l i) l.length)) (n + i))
theorem dinv_step (hC : CtxOk C) (Z : Chn C l n h t xs hh tt) {ops : Array Oper} (hall : ops.toList = l) {w0 : World} {S0 : Nat → Prop} {N : Nat} (hb : slotsOk N l = true) {X Y : Nat → Bool} {a : Act} {w : World} (I : DInv C V l n h t xs hh w0 S0 N X a w) {j : Nat} {o : Oper} (hj : l[j]? = some o)
    (hp : ∀ e ∈ o.after.toList, Region.binds .any e = true → X e.on = true) (hnj : X j = false) (hYj : Y j = true) (hY : ∀ i, i ≠ j → Y i = X i) {K : Act → World → Prop} {Q : Exit → Act → World → Prop} (hK : ∀ a' w', DInv C V l n h t xs hh w0 S0 N Y a' w' → K a' w') :
    if Region.wanted o (yielded ops a.tmps) then o.wp C.P a w K Q ∨ (o.asks C.P a w ∧ LetsOut Q) else K (a.put o.dst undef) w := by
  obtain ⟨S, β, hX, M, H1, H2⟩ := I.sim
  have hjl : j < l.length := (List.getElem?_eq_some_iff.1 hj).1
  have hnj' : ¬ (X j = true) := by rw [hnj]; simp
  have hs : β (n + j) = none := by
    cases hq : β (n + j) with
    | none => rfl
    | some loc =>
      rcases M.dom _ _ hq with h | ⟨i, hi, he⟩
      · omega
      · have : i = j := by omega
        subst this; rw [hnj] at hi; cases hi
  have wiff : readsO o.op = true → ∀ k, k < l.length → k ≠ j → wrt l k = true → (X k = true ↔ k < j) := by
    intro hr k hk hne hw
    have hok : l[k]? = some l[k] := List.getElem?_eq_getElem hk
    have hwk : writesO l[k].op = true := by simpa only [wrt, hok] using hw
    exact ord_iff Z.D I.down hok hj hp hnj' (Z.D.mem k j _ o hok hj hne hwk hr)
  generalize hP : lastW (fun i => X i && wrt l i) l.length = p at H1 H2
  have hple : p ≤ l.length := by rw [← hP]; exact lastW_le _ _
  have pj : readsO o.op = true → p ≤ j := by
    intro hr
    rw [← hP]
    refine lastW_none _ _ fun i hi hw => ?_
    simp only [Bool.and_eq_true] at hw
    by_cases he : i = j
    · subst he; rw [hnj] at hw; cases hw.1
    · exact (wiff hr i hi he hw.2).1 hw.1
  have pq : readsO o.op = true → ∀ i, p ≤ i → i < j → wrt l i = false := by
    intro hr i h1 h2
    cases hw : wrt l i with
    | false => rfl
    | true =>
      have hXi := (wiff hr i (by omega) (by omega) hw).2 h2
      have := lastW_ge (W := fun i => X i && wrt l i) l.length i (by omega) (by simp [hXi, hw])
      rw [hP] at this
      omega
  have old : readsO o.op = true → ∀ s, s < n → hX s = hh j s := by
    intro hr s hsn
    rw [H1 s hsn]
    exact (same_to j (pj hr) fun i h1 h2 => Z.quiet (by omega) (pq hr i h1 h2) (by omega)).symm
  have newer : readsO o.op = true → ∀ i, X i = true → i < j → hX (n + i) = hh j (n + i) := by
    intro hr i hi hij
    rw [H2 i hi]
    exact (same_to j (by have := pj hr; omega) fun k h1 h2 => Z.quiet (by omega) (pq hr k (by omega) h2) (by omega)).symm
  have hag : readsO o.op = true → Agree β (hh j) hX := by
    intro hr b loc hbl hne
    rcases M.dom _ _ hbl with hbn | ⟨i, hi, rfl⟩
    · exact old hr b hbn
    · rcases Nat.lt_or_ge i j with hij | hij
      · exact newer hr i hi hij
      · exact absurd (Z.fresh (by omega) j (by omega) (by omega)) hne
  have slot : ∀ tmp ∈ looksO l o, valX X l xs t l.length tmp = tt j tmp := by
    intro tmp htmp
    rw [val_all Z.t0 (fun k o hk => Z.next k o hk) j (by omega), ← val_lt tmp (by omega)]
    refine val_congr _ fun i oi hi hoi hd => ?_
    by_cases he : i = j
    · subst he; rw [hnj]; simp
    · have := ord_iff Z.D I.down hoi hj hp hnj' (Z.D.slot i j oi o tmp hoi hj he hd htmp)
      by_cases hlt : i < j
      · rw [this.2 hlt]; simp [hlt]
      · have hx : ¬ (X i = true) := fun h => hlt (this.1 h)
        simp only [hlt, decide_false]
        simpa using hx
  obtain ⟨h2, st, hrel⟩ := stepR_tr M (Z.step j o hj) slot hag
  refine step_sound hC M hs hall st (slots_lt hb (List.mem_of_getElem? hj)) (fun i pol d _ hd => guard_lt hb i d hd) fun a' w' S' β' M' => hK a' w' ?_
  have XY : ∀ i, Y i = true ↔ X i = true ∨ i = j := fun i => by
    by_cases he : i = j
    · subst he; simp [hYj]
    · rw [hY i he]; simp [he]
  have hXnone : hX (n + j) = none := by
    cases hq : hX (n + j) with
    | none => rfl
    | some blk =>
      obtain ⟨loc, _, _, _, hl, _⟩ := M.H.own _ _ hq
      rw [hs] at hl; cases hl
  have hjnone : hh j (n + j) = none := Z.fresh (by omega) j (by omega) (by omega)
  have h2new : h2 (n + j) = hh (j + 1) (n + j) := hrel.1 _ (by rw [hXnone, hjnone])
  refine ⟨fun k ok hk hok e he hbd => ?_, fun i hi => ?_, fun k i hk hw hi hil => ?_, S', β', h2, ?_, ?_, ?_⟩
  · rcases (XY k).1 hk with hk | rfl
    · exact (XY _).2 (.inl (I.down k ok hk hok e he hbd))
    · rw [hj] at hok; injection hok with hok; subst hok
      exact (XY _).2 (.inl (hp e he hbd))
  · rcases (XY i).1 hi with hi | rfl
    · exact I.bnd i hi
    · exact hjl
  · have hXi : X i = false := by
      cases hx : X i with
      | false => rfl
      | true => rw [(XY i).2 (.inl hx)] at hi; cases hi
    have hij : i ≠ j := fun e => by subst e; rw [hYj] at hi; cases hi
    rcases (XY k).1 hk with hk | rfl
    · exact I.H3 k i hk hw hXi hil
    · refine Classical.byContradiction fun hn => ?_
      obtain ⟨_, _, loc, hl⟩ := hrel.2 (n + i) (by omega) (.inl hn)
      rcases M.dom _ _ hl with h | ⟨i', hi', he⟩
      · omega
      · have : i' = i := by omega
        subst this; rw [hXi] at hi'; cases hi'
  ·
    have hval : updO (valX X l xs t l.length) o.dst (xs j) = valX Y l xs t l.length := by
      funext tmp
      by_cases hd : o.dst = some tmp
      · rw [hd, updO_same]
        have hlook : tmp ∈ looksO l o := by simp [looksO, hd]
        rw [val_stop (X := Y) (j := j + 1) l.length (by omega) fun i oi h1 h2 hoi hdi => ?_]
        · simp only [valX, hj, hYj, hd, updO_same]
        · have he : i ≠ j := by omega
          have := ord_iff Z.D I.down hoi hj hp hnj' (Z.D.slot i j oi o tmp hoi hj he hdi hlook)
          cases hx : Y i with
          | false => rfl
          | true =>
            rcases (XY i).1 hx with h | h
            · have := this.1 h; omega
            · omega
      · rw [updO_other hd]
        refine val_congr _ fun i oi hi hoi hdi => ?_
        by_cases he : i = j
        · subst he; rw [hj] at hoi; injection hoi with hoi; subst hoi; exact absurd hdi hd
        · exact (hY i he).symm
    rw [← hval]
    refine ⟨M'.T, M'.H, M'.B, fun y loc hy => ?_, M'.df, M'.sz, M'.G, M'.nw, M'.iv⟩
    rcases M'.dom y loc hy with (h | ⟨i, hi, he⟩) | h
    · exact .inl h
    · exact .inr ⟨i, (XY i).2 (.inl hi), he⟩
    · exact .inr ⟨j, hYj, h⟩
  all_goals
    cases hw : wrt l j with
    | true =>
      have hwo : writesO o.op = true := by simpa only [wrt, hj] using hw
      have hr := writes_reads _ hwo
      have hp' : lastW (fun i => Y i && wrt l i) l.length = j + 1 := by
        refine Nat.le_antisymm (lastW_none _ _ fun i hi hwi => ?_) (lastW_ge _ j hjl (by simp [hYj, hw]))
        simp only [Bool.and_eq_true] at hwi
        rcases (XY i).1 hwi.1 with h | h
        · have hne : i ≠ j := fun e => by subst e; rw [hnj] at h; cases h
          have := (wiff hr i hi hne hwi.2).1 h
          omega
        · omega
      rw [hp']
      first
        | (intro s hsn; exact hrel.1 s (old hr s hsn))
        | (intro i hi
           rcases (XY i).1 hi with hi | rfl
           · rcases Nat.lt_or_ge i j with hij | hij
             · rw [hrel.1 _ (newer hr i hi hij), Nat.max_eq_right (by omega)]
             · have hne : i ≠ j := fun e => by subst e; rw [hnj] at hi; cases hi
               have hpj := pj hr
               rw [Nat.max_eq_left (by omega)]
               have hfr : hh j (n + i) = none := Z.fresh (by omega) j (by omega) (by omega)
               have h3 : h2 (n + i) = hX (n + i) := Classical.byContradiction fun hn => (hrel.2 (n + i) (by omega) (.inr hn)).2.1 hfr
               rw [h3, H2 i hi, Nat.max_eq_left (by omega)]
           · rw [h2new, Nat.max_self])
    | false =>
      have hwo : writesO o.op = false := by simpa only [wrt, hj] using hw
      have hp' : lastW (fun i => Y i && wrt l i) l.length = p := by
        rw [← hP]
        have : (fun i => Y i && wrt l i) = fun i => X i && wrt l i := by
          funext i
          by_cases he : i = j
          · subst he; simp [hw]
          · rw [hY i he]
        rw [this]
      rw [hp']
      have same : ∀ b, b ≠ n + j → h2 b = hX b := fun b hbj => Classical.byContradiction fun hn => by
        have := (hrel.2 b hbj (.inr hn)).1
        rw [hwo] at this; cases this
      first
        | (intro s hsn; rw [same s (by omega)]; exact H1 s hsn)
        | (intro i hi
           rcases (XY i).1 hi with hi | rfl
           · have hne : i ≠ j := fun e => by subst e; rw [hnj] at hi; cases hi
             rw [same _ (by omega)]; exact H2 i hi
           · rw [h2new]
             refine (same_to _ (Nat.le_max_left _ _) fun k h1 h2' => ?_).symm
             have hkp : k < p := by omega
             cases hwk : wrt l k with
             | false => exact Z.quiet (by omega) hwk (by omega)
             | true =>
               refine I.H3 k i ?_ hwk hnj hjl
               rcases lastW_mem (W := fun i => X i && wrt l i) l.length with h0 | h0
               · rw [hP] at h0; omega
               · rw [hP] at h0
                 simp only [Bool.and_eq_true] at h0
                 by_cases hke : k = p - 1
                 · rw [hke]; exact h0.1
                 · have hkl : k < l.length := by omega
                   have hpl : p - 1 < l.length := by omega
                   have hok : l[k]? = some l[k] := List.getElem?_eq_getElem hkl
                   have hop : l[p - 1]? = some l[p - 1] := List.getElem?_eq_getElem hpl
                   have w1 : writesO l[k].op = true := by simpa only [wrt, hok] using hwk
                   have w2 : writesO l[p - 1].op = true := by have := h0.2; simpa only [wrt, hop] using this
                   have ho := Z.D.mem k (p - 1) _ _ hok hop hke w1 (writes_reads _ w2)
                   simp only [ordd, Bool.or_eq_true] at ho
                   rcases ho with ho | ho
                   · exact masks_ok I.down hop (fun e he hbd => I.down _ _ h0.1 hop e he hbd) ho
                   · have := bit_lt Z.D hok ho; omega)
theorem SimD.drawn {w0 : World} {S0 : Nat → Prop} {N : Nat} {D : Nat → Prop} {a : Act} {w : World} {S : Nat → Prop} {β : Bt} (M : SimD C V w0 S0 N D t h a w S β) (k : Nat) : SimD C V w0 S0 N D t h a { w with drawn := k } S β := by
  have hE : Evo S w { w with drawn := k } := ⟨fun _ _ => rfl, fun b cs e fr hb => ⟨cs, hb, rfl⟩⟩
  refine ⟨fun i => (M.T i).mono (fun _ h => h) hE (BtLe.refl _), ⟨fun s blk hs => ?_, M.H.inj, M.H.lt, M.H.big⟩, ⟨M.B.os, M.B.tape, M.B.output, M.B.size, M.B.block⟩, M.dom, M.df, M.sz, fun g cells hg => (M.G g cells hg).mono (fun _ h => h) hE (BtLe.refl _), M.nw, V.heap M.iv rfl⟩
  obtain ⟨l, cs, e, fr, k1, k2, k3, k4, k5, k6⟩ := M.H.own s blk hs
  exact ⟨l, cs, e, fr, k1, k2, k3, k4, k5, k6.mono (fun _ h => h) hE (BtLe.refl _)⟩
theorem draw_sound (hC : CtxOk C) (nH : NoH C) {w0 : World} {S0 : Nat → Prop} {N : Nat} {ops : Array Oper} (hb : slotsOk N ops.toList = true) (hd : drawOk ops.toList = true) {K : ASt → Prop} (hr : regA C (DCall C) ops.toList ops.toList 0 ⟨t, h, n⟩ K)
    {a : Act} {w : World} {S : Nat → Prop} {β : Bt} (M : SimD C V w0 S0 N (· < n) t h a w S β) {Q : Exit → Act → World → Prop} (hQ : ∀ st a' w' S' β', K st → SimD C V w0 S0 N (· < st.n) st.t st.h a' w' S' β' → Q .normal a' w') :
    wpAny C.P .any ops Q ops.size (Array.replicate ops.size false) a { w with drawn := w.drawn + 1 } := by
  obtain ⟨xs, hh, tt, e1, e2, e3, e4⟩ := chain_ex nH ops.toList 0 t h hr
  simp only [Nat.zero_add] at e3 e4
  have hnew : ∀ s, n ≤ s → h s = none := fun s hs => by
    cases hq : h s with
    | none => rfl
    | some blk =>
      obtain ⟨l, _, _, _, hl, _⟩ := M.H.own s blk hq
      have : s < n := M.dom s l hl
      omega
  have Z : Chn C ops.toList n h t xs hh tt := ⟨drawOk_spec hd, fun k o hk => (e3 k o hk).1, fun k o hk => (e3 k o hk).2, e1, e2, hnew, nH⟩
  have hm : ops.toList.length = ops.size := by simp
  have fin : ∀ (X : Nat → Bool) (a : Act) (w : World), (∀ i, i < ops.size → X i = true) → DInv C V ops.toList n h t xs hh w0 S0 N X a w → Q .normal a w := by
    intro X a w hall I
    obtain ⟨S, β, hX, M, H1, H2⟩ := I.sim
    have hall' : ∀ i, i < ops.toList.length → X i = true := fun i hi => hall i (by rw [← hm]; exact hi)
    refine hQ _ a w S β e4 ?_
    generalize hP : lastW (fun i => X i && wrt ops.toList i) ops.toList.length = p at H1 H2
    have hple : p ≤ ops.toList.length := by rw [← hP]; exact lastW_le _ _
    have quiet : ∀ i, p ≤ i → i < ops.toList.length → wrt ops.toList i = false := fun i h1 h2 => by
      cases hw : wrt ops.toList i with
      | false => rfl
      | true =>
        have := lastW_ge (W := fun i => X i && wrt ops.toList i) ops.toList.length i h2 (by simp [hall' i h2, hw])
        rw [hP] at this; omega
    have hT : valX X ops.toList xs t ops.toList.length = tt ops.toList.length := by
      rw [val_all Z.t0 (fun k o hk => Z.next k o hk) _ (Nat.le_refl _)]
      funext tmp
      exact val_congr _ fun i o hi _ _ => hall' i hi
    have hH : hX = hh ops.toList.length := by
      funext b
      rcases Nat.lt_or_ge b n with hbn | hbn
      · rw [H1 b hbn]
        exact (same_to _ hple fun i h1 h2 => Z.quiet h2 (quiet i h1 h2) (by omega)).symm
      · rcases Nat.lt_or_ge b (n + ops.toList.length) with hb2 | hb2
        · obtain ⟨i, rfl⟩ : ∃ i, b = n + i := ⟨b - n, by omega⟩
          have hi : i < ops.toList.length := by omega
          rw [H2 i (hall' i hi)]
          exact (same_to _ (by omega) fun k h1 h2 => Z.quiet h2 (quiet k (by omega) h2) (by omega)).symm
        · rw [Z.fresh hbn _ (Nat.le_refl _) hb2]
          cases hq : hX b with
          | none => rfl
          | some blk =>
            obtain ⟨l, _, _, _, hl, _⟩ := M.H.own b blk hq
            rcases M.dom b l hl with h | ⟨i, hi, he⟩
            · omega
            · have := I.bnd i hi; omega
    rw [← hT, ← hH]
    refine ⟨M.T, M.H, M.B, fun x l hx => ?_, M.df, M.sz, M.G, M.nw, M.iv⟩
    show x < n + ops.toList.length
    rcases M.dom x l hx with h | ⟨i, hi, he⟩
    · omega
    · have := I.bnd i hi; omega
  have done : ∀ (listed : Array Bool), listed.size = ops.size → Region.ready .any ops listed = [] → ∀ i, i < ops.size → listed.getD i false = true := by
    intro listed hsz hnil i hi
    induction i using Nat.strongRecOn with
    | _ i ih =>
      cases hq : listed.getD i false with
      | true => rfl
      | false =>
        exfalso
        have hmem : i ∈ Region.ready .any ops listed := by
          refine mem_ready.2 ⟨?_, ops[i], Array.getElem?_eq_getElem hi, fun e he hbd => ?_⟩
          · have : i < listed.size := by omega
            rw [Array.getD_eq_getD_getElem?, Array.getElem?_eq_getElem this] at hq ⊢
            exact hq
          · have := Z.D.back i ops[i] (by rw [Array.getElem?_toList, Array.getElem?_eq_getElem hi]) e (by simpa using he) hbd
            exact ih e.on this (by omega)
        rw [hnil] at hmem
        cases hmem
  have main : ∀ (fuel : Nat) (listed : Array Bool) (a : Act) (w : World), listed.size = ops.size → cntX (fun i => listed.getD i false) ops.size = fuel → DInv C V ops.toList n h t xs hh w0 S0 N (fun i => listed.getD i false) a w → wpAny C.P .any ops Q fuel listed a w := by
    intro fuel
    induction fuel with
    | zero =>
      intro listed a w hsz hc I
      have hall := cntX_zero _ hc
      refine ⟨?_, fin _ a w hall I⟩
      cases hr : Region.ready .any ops listed with
      | nil => rfl
      | cons i rest =>
        exfalso
        have hmem : i ∈ Region.ready .any ops listed := by rw [hr]; exact List.mem_cons_self
        obtain ⟨h1, o, ho, _⟩ := mem_ready.1 hmem
        have hi : i < ops.size := (Array.getElem?_eq_some_iff.1 ho).1
        have h2 := hall i hi
        have : i < listed.size := by omega
        rw [Array.getD_eq_getD_getElem?, Array.getElem?_eq_getElem this] at h1 h2
        simp only [Option.getD_some] at h1 h2
        rw [h1] at h2; cases h2
    | succ fuel ih =>
      intro listed a w hsz hc I
      refine ⟨fun hnil => fin _ a w (done listed hsz hnil) I, fun j hj => ?_⟩
      obtain ⟨h1, o, ho, hpre⟩ := mem_ready.1 hj
      have hjl : j < ops.size := (Array.getElem?_eq_some_iff.1 ho).1
      have hjs : j < listed.size := by omega
      have hoj : ops.toList[j]? = some o := by rw [Array.getElem?_toList]; exact ho
      have hXj : listed.getD j false = false := by
        rw [Array.getD_eq_getD_getElem?, Array.getElem?_eq_getElem hjs] at h1 ⊢
        exact h1
      have hYj : (listed.setIfInBounds j true).getD j false = true := by
        rw [Array.getD_eq_getD_getElem?, Array.getElem?_setIfInBounds_self_of_lt hjs]; rfl
      have hY : ∀ i, i ≠ j → (listed.setIfInBounds j true).getD i false = listed.getD i false := fun i hi => by
        rw [Array.getD_eq_getD_getElem?, Array.getD_eq_getD_getElem?, Array.getElem?_setIfInBounds_ne (Ne.symm hi)]
      unfold wpOp
      simp only [ho]
      refine dinv_step (X := fun i => listed.getD i false) (Y := fun i => (listed.setIfInBounds j true).getD i false) hC Z rfl hb I hoj (fun e he hbd => hpre e (by simpa using he) hbd) hXj hYj hY fun a' w' I' => ?_
      refine ih _ a' w' (by simp [hsz]) ?_ I'
      have := cntX_put (X := fun i => listed.getD i false) (Y := fun i => (listed.setIfInBounds j true).getD i false) hXj hYj hY ops.size hjl
      omega
  have hfalse : ∀ i, (Array.replicate ops.size false).getD i false = false := fun i => by
    rw [Array.getD_eq_getD_getElem?]
    by_cases hi : i < ops.size
    · simp [hi]
    · rw [Array.getElem?_eq_none (by simpa using hi)]; rfl
  have hXf : (fun i => (Array.replicate ops.size false).getD i false) = fun _ => false := funext hfalse
  have hcnt : ∀ k, cntX (fun i => (Array.replicate ops.size false).getD i false) k = k := by
    rw [hXf]
    intro k
    induction k with
    | zero => rfl
    | succ k ih => simp only [cntX, ih]; omega
  refine main ops.size _ a _ (by simp) (hcnt _) ⟨fun j oj hj => ?_, fun i hi => ?_, fun k j hk => ?_, S, β, h, ?_, fun s hs => ?_, fun i hi => ?_⟩
  · have := (hfalse j).symm.trans hj; cases this
  · have := (hfalse i).symm.trans hi; cases this
  · have := (hfalse k).symm.trans hk; cases this
  · have hv : valX (fun i => (Array.replicate ops.size false).getD i false) ops.toList xs t ops.toList.length = t := by
      have : ∀ k, valX (fun i => (Array.replicate ops.size false).getD i false) ops.toList xs t k = t := by
        intro k
        induction k with
        | zero => rfl
        | succ k ih =>
          rw [hXf] at ih ⊢
          simp only [valX]
          split <;> exact ih
      exact this _
    rw [hv]
    have M' := M.drawn (w.drawn + 1)
    exact ⟨M'.T, M'.H, M'.B, fun x l hx => .inl (M'.dom x l hx), M'.df, M'.sz, M'.G, M'.nw, M'.iv⟩
  · have : lastW (fun i => (Array.replicate ops.size false).getD i false && wrt ops.toList i) ops.toList.length = 0 := by
      refine Nat.le_zero.1 (lastW_none _ _ fun i _ hw => ?_)
      have h1 := hfalse i
      rw [h1] at hw; simp at hw
    rw [this, e2]
  · have := (hfalse i).symm.trans hi; cases this
end
def cutB (l : List Nat) (β : Bt) : Bt := fun s => if s ∈ l then β s else none
theorem flatMap_eq {α : Type} {f g : Nat → List α} : ∀ (l : List Nat), (∀ i ∈ l, f i = g i) → l.flatMap f = l.flatMap g
  | [], _ => rfl
  | x :: l, h => by rw [List.flatMap_cons, List.flatMap_cons, h x List.mem_cons_self, flatMap_eq l fun i hi => h i (List.mem_cons_of_mem _ hi)]
theorem namesL_get : ∀ (cs : List AV) (i : Nat) (a : AV) (s : Nat), cs[i]? = some a → s ∈ namesA a → s ∈ namesL cs
  | [], i, a, s, h, _ => by simp at h
  | c :: cs, 0, a, s, h, hs => by simp at h; subst h; simp [namesL, hs]
  | c :: cs, i + 1, a, s, h, hs => by simp only [namesL, List.mem_append]; exact .inr (namesL_get cs i a s (by simpa using h) hs)
theorem rep_cut0 {S : Nat → Prop} {w : World} {β : Bt} {a : AV} {x : Value} (h : Rep S w β a x) : ∀ {β' : Bt}, (∀ s ∈ namesA a, ∀ l, β s = some l → β' s = some l) → Rep S w β' a x := by
  induction h with
  | v x => intro β' _; exact .v x
  | agg cs vs hl h1 h ih => intro β' hb; exact .agg cs vs hl h1 fun i a u h1 h2 => ih i a u h1 h2 fun s hs => hb s (namesL_get cs i a s h1 hs)
  | tup cs vs hl h ih => intro β' hb; exact .tup cs vs hl fun i a u h1 h2 => ih i a u h1 h2 fun s hs => hb s (namesL_get cs i a s h1 hs)
  | sl rs rows clip A c b o u hc hm hcl hrs hA hw h1 hr ih => intro β' _; exact .sl rs rows clip A c b o u hc hm hcl hrs hA hw h1 hr
  | dp rs col row b o u hrs hb hw h1 hr ih => intro β' _; exact .dp rs col row b o u hrs hb hw h1 hr
  | ptr s col l hl => intro β' hb; exact .ptr s col l (hb s (by simp [namesA]) _ hl)
  | ptr2 s row col l hl => intro β' hb; exact .ptr2 s row col l (hb s (by simp [namesA]) _ hl)
  | osl s lo len clip l A c hl hc hm hcl hA cs e fr hb room => intro β' hβ; exact .osl s lo len clip l A c (hβ s (by simp [namesA]) _ hl) hc hm hcl hA cs e fr hb room
  | clo f first caps vs us hl h hl' h' ih ih' => intro β' hb; exact .clo f first caps vs us hl (fun i a u h1 h2 => ih i a u h1 h2 fun s hs => hb s (by simp only [namesA, List.mem_append]; exact .inl (namesL_get _ i a s h1 hs))) hl' fun i a u h1 h2 => ih' i a u h1 h2 fun s hs => hb s (by simp only [namesA, List.mem_append]; exact .inr (namesL_get _ i a s h1 hs))
  | optT g a x hg h ih => intro β' hb; exact .optT g a x hg (ih fun s hs => hb s (by simpa [namesA] using hs))
  | optF g a hg => intro β' _; exact .optF g a hg
  | any x => intro β' _; exact .any x
theorem rep_cut {S : Nat → Prop} {w : World} {β : Bt} {l : List Nat} {a : AV} {x : Value} (h : Rep S w β a x) (hl : ∀ s ∈ namesA a, s ∈ l) : Rep S w (cutB l β) a x :=
  rep_cut0 h fun s hs loc hb => by show (if s ∈ l then β s else none) = some loc; rw [if_pos (hl s hs)]; exact hb
theorem namesL_absC : ∀ (l : List Value) (s : Nat), s ∉ namesL (l.map absC)
  | [], s => by simp [namesL]
  | v :: l, s => by
    simp only [List.map_cons, namesL, List.mem_append, not_or]
    refine ⟨?_, namesL_absC l s⟩
    unfold absC
    split <;> simp [namesA]
theorem names_absV (v : Value) (s : Nat) : s ∉ namesA (absV v) := by
  unfold absV
  split
  · simp [namesA]
  · split
    · simp only [namesA]; exact namesL_absC _ s
    · simp [namesA]
  · simp [namesA]
theorem names_evA {C : Ctx} {t : Nat → AV} {x : Operand} {s : Nat} (h : s ∈ namesA (evA C t x)) : ∃ i, x = .tmp i ∧ s ∈ namesA (t i) := by
  cases x with
  | tmp i => exact ⟨i, rfl, h⟩
  | const v => exact absurd h (names_absV v s)
  | global g =>
    have h : s ∈ namesA (match C.G g with | some cells => .dp cells.length 0 cells | none => .any) := h
    split at h <;> simp [namesA] at h
  | func f => simp [evA, namesA, namesL] at h
theorem names_ev {C : Ctx} {t : Nat → AV} {o : Oper} {x : Operand} {s : Nat} (hx : x ∈ o.op.operands) (h : s ∈ namesA (evA C t x)) : s ∈ sitesO t o := by
  obtain ⟨i, rfl, h⟩ := names_evA h
  exact List.mem_flatMap.2 ⟨i, mem_tmpsO _ i (by simpa using hx), h⟩
theorem names_strip {x : AV} {s : Nat} (h : s ∈ namesA (strip x)) : s ∈ namesA x := by
  cases x <;> first | exact h | simpa [namesA, strip] using h
theorem names_evS {C : Ctx} {t : Nat → AV} (op : Op) {x : Operand} {s : Nat} (h : s ∈ namesA (evS C t op x)) : s ∈ namesA (evA C t x) := by
  cases op <;> first | exact names_strip h | skip
  case pick c a b =>
    have h : s ∈ namesA (match sameO c x with | true => strip (evA C t x) | false => evA C t x) := h
    split at h
    · exact names_strip h
    · exact h
section
variable {C : Ctx} {V : Inv C.fr}
theorem opA_site {ev : Operand → AV} {h : AH} {s : Nat} (op : Op) : (∀ p x h', opA C ev h s op = .fx p x h' → ∀ b, b ≠ s → h' b ≠ h b → ∃ x ∈ op.operands, b ∈ namesA (ev x)) ∧
    (∀ rows i f, opA C ev h s op = .idxfx rows i f → ∀ row h', f row = some h' → ∀ b, b ≠ s → h' b ≠ h b → ∃ x ∈ op.operands, b ∈ namesA (ev x)) := by
  have new : ∀ (blk : Option Blk) b, b ≠ s → upd h s blk b ≠ h b → False := fun blk b hb hn => hn (upd_other _ _ hb)
  have set : ∀ (b0 : Nat) (blk : Option Blk) b, upd h b0 blk b ≠ h b → b = b0 := fun b0 blk b hn => Classical.byContradiction fun e => hn (upd_other _ _ e)
  have oB : ∀ (x : Option AV) p y h', okO x ≠ .fx p y h' := fun x p y h' hx => by cases x <;> simp [okO] at hx
  have oI : ∀ (x : Option AV) rows i f, okO x ≠ .idxfx rows i f := fun x rows i f hx => by cases x <;> simp [okO] at hx
  constructor
  · intro p x h' he b hb hn
    cases op <;> simp only [opA] at he
    case makeFunc fn a c => cases fn <;> cases he
    case store t a v =>
      (repeat' split at he) <;> first | (cases he; done) | skip
      rename_i hev _ _ _ _ _
      injection he with _ _ he; subst he
      exact ⟨a, by simp [Op.operands], by rw [hev, set _ _ _ hn]; simp [namesA]⟩
    case convert src dst x =>
      simp only [convO, convA] at he
      (repeat' split at he) <;> first | (cases he; done) | skip
      injection he with _ _ he; subst he
      exact (new _ b hb hn).elim
    case makeSlice t l c =>
      simp only [makeA] at he
      (repeat' split at he) <;> first | (cases he; done) | skip
      injection he with _ _ he; subst he
      exact (new _ b hb hn).elim
    case alloc t =>
      split at he
      · injection he with _ _ he; subst he
        exact (new _ b hb hn).elim
      · cases he
    case box t x =>
      split at he
      · injection he with _ _ he; subst he
        exact (new _ b hb hn).elim
      · cases he
    case call c =>
      obtain ⟨callee, args, ats⟩ := c
      cases callee with
      | value f => simp only at he; split at he <;> cases he
      | invoke r m => cases he
      | builtin bi =>
        simp only at he
        cases bi <;> try (simp only [builtinA] at he; cases he; done)
        case append =>
          match hA : args.toList.map ev with
          | [] => rw [hA] at he; simp only [builtinA] at he; cases he
          | [_] => rw [hA] at he; simp only [builtinA] at he; cases he
          | _ :: _ :: _ :: _ => rw [hA] at he; simp only [builtinA] at he; cases he
          | [x', y'] =>
            rw [hA] at he
            simp only [builtinA] at he
            have key : ∀ (rx ry : Option (Nat × List (List AV))) (blk : Option Blk) (px py : Prop), blk = blkOf h x' → appendV C s ats.toList x' rx ry blk px py h = .fx p x h' → b ∈ namesA x' := by
              intro rx ry blk px py hbk he
              unfold appendV at he
              (repeat' split at he) <;> first | (cases he; done) | skip
              · injection he with _ _ he; subst he; exact (new _ b hb hn).elim
              · injection he with _ _ he; subst he; exact (new _ b hb hn).elim
              · injection he with _ _ he; subst he; exact (new _ b hb hn).elim
              · injection he with _ _ he; subst he
                rw [upd_other _ _ hb] at hn
                rw [set _ _ _ hn]
                simp [namesA]
            obtain ⟨x1, q1, q2⟩ := List.mem_map.1 (show x' ∈ args.toList.map ev by rw [hA]; simp)
            exact ⟨x1, by simp [Op.operands, Call.operands]; simpa using q1, by rw [q2]; exact key _ _ _ _ _ rfl he⟩
        case copy =>
          match hA : args.toList.map ev with
          | [] => rw [hA] at he; simp only [builtinA] at he; cases he
          | [_] => rw [hA] at he; simp only [builtinA] at he; cases he
          | _ :: _ :: _ :: _ => rw [hA] at he; simp only [builtinA] at he; cases he
          | [x', y'] =>
            rw [hA] at he
            simp only [builtinA, copyA] at he
            (repeat' split at he) <;> first | (cases he; done) | skip
            injection he with _ _ he; subst he
            obtain ⟨x1, q1, q2⟩ := List.mem_map.1 (show AV.osl _ _ _ _ ∈ args.toList.map ev by rw [hA]; exact List.mem_cons_self)
            exact ⟨x1, by simp [Op.operands, Call.operands]; simpa using q1, by rw [q2, set _ _ _ hn]; simp [namesA]⟩
        case len =>
          match hA : args.toList.map ev with
          | [] => rw [hA] at he; simp only [builtinA] at he; cases he
          | _ :: _ :: _ => rw [hA] at he; simp only [builtinA] at he; cases he
          | [x'] =>
            rw [hA] at he
            match hT : ats.toList with
            | [] => rw [hT] at he; simp only [builtinA] at he; cases he
            | _ :: _ :: _ => rw [hT] at he; simp only [builtinA] at he; cases he
            | [t'] =>
              rw [hT] at he
              simp only [builtinA, lenB] at he
              (repeat' split at he) <;> cases he
        case min =>
          match hA : args.toList.map ev with
          | [] => rw [hA] at he; simp only [builtinA] at he; cases he
          | [_] => rw [hA] at he; simp only [builtinA] at he; cases he
          | _ :: _ :: _ :: _ => rw [hA] at he; simp only [builtinA] at he; cases he
          | [x', y'] =>
            rw [hA] at he
            simp only [builtinA, minA] at he
            (repeat' split at he) <;> cases he
        case max =>
          match hA : args.toList.map ev with
          | [] => rw [hA] at he; simp only [builtinA] at he; cases he
          | [_] => rw [hA] at he; simp only [builtinA] at he; cases he
          | _ :: _ :: _ :: _ => rw [hA] at he; simp only [builtinA] at he; cases he
          | [x', y'] =>
            rw [hA] at he
            simp only [builtinA, maxA] at he
            (repeat' split at he) <;> cases he
    all_goals first
      | (simp only [pickA, buildA, loadAtA, nilA, unA, nilEqA, binA, intOp, shOp, boolOp, strOp, sliceA, sliceV, fieldAddrA, fieldA, indexAddrA, indexAddrV, indexA, extractA] at he
         (repeat' split at he) <;> first | (cases he; done) | (exact absurd he (oB _ _ _ _)))
      | ((repeat' split at he) <;> first | (cases he; done) | (exact absurd he (oB _ _ _ _)))
      | (cases he; done)
  · intro rows i f he row h' hf b hb hn
    cases op <;> simp only [opA] at he
    case makeFunc fn a c => cases fn <;> cases he
    case store t a v =>
      (repeat' split at he) <;> first | (cases he; done) | skip
      all_goals
        injection he with _ _ he
        subst he
        dsimp only at hf
        (repeat' split at hf) <;> first
          | (cases hf; done)
          | (injection hf with hf
             subst hf
             refine ⟨a, by simp [Op.operands], ?_⟩
             rw [set _ _ _ hn]
             simp_all [namesA])
    case call c =>
      obtain ⟨callee, args, ats⟩ := c
      cases callee with
      | value f => simp only at he; split at he <;> cases he
      | invoke r m => cases he
      | builtin bi =>
        exfalso
        simp only at he
        unfold builtinA at he
        simp only [lenB, minA, maxA, copyA, appendV] at he
        (repeat' split at he) <;> cases he
    all_goals first
      | (simp only [pickA, buildA, loadAtA, nilA, unA, nilEqA, binA, intOp, shOp, boolOp, strOp, convO, convA, makeA, sliceA, sliceV, fieldAddrA, fieldA, indexAddrA, indexAddrV, indexA, extractA] at he
         (repeat' split at he) <;> first | (cases he; done) | (exact absurd he (oI _ _ _ _)))
      | ((repeat' split at he) <;> first | (cases he; done) | (exact absurd he (oI _ _ _ _)))
      | (cases he; done)
theorem stepR_site {R : FuncId → List AV → AV → Prop} {all : List Oper} {o : Oper} {s : Nat} {t : Nat → AV} {h h' : AH} {x : AV} (hs : StepR C R all o s t h x h') : ∀ b, b ≠ s → h' b ≠ h b → b ∈ sitesO t o := by
  intro b hb hn
  have fin : (∃ x ∈ o.op.operands, b ∈ namesA (evA C t x)) → b ∈ sitesO t o := fun ⟨x, h1, h2⟩ => names_ev h1 h2
  unfold StepR at hs
  have main : NodeR C R h (opA C (evA C t) h s o.op) x h' → b ∈ sitesO t o := fun hs => by
    obtain ⟨H1, H2⟩ := opA_site (C := C) (ev := evA C t) (h := h) (s := s) o.op
    cases hr : opA C (evA C t) h s o.op with
    | bad => rw [hr] at hs; exact hs.elim
    | ok y => rw [hr] at hs; obtain ⟨_, rfl⟩ := hs; exact absurd rfl hn
    | need p y => rw [hr] at hs; obtain ⟨_, _, rfl⟩ := hs; exact absurd rfl hn
    | idx rows i f => rw [hr] at hs; obtain ⟨_, _, _, _, rfl⟩ := hs; exact absurd rfl hn
    | str p rows => rw [hr] at hs; obtain ⟨_, _, _, _, rfl⟩ := hs; exact absurd rfl hn
    | call f args => rw [hr] at hs; obtain ⟨_, _, _, _, rfl⟩ := hs; exact absurd rfl hn
    | fx p y h2 => rw [hr] at hs; obtain ⟨_, _, rfl⟩ := hs; exact fin (H1 p y h' hr b hb hn)
    | idxfx rows i f => rw [hr] at hs; obtain ⟨row, _, _, hf, _⟩ := hs; exact fin (H2 rows i f hr row h' hf b hb hn)
  cases hg : o.guard with
  | some q =>
    obtain ⟨i, pol⟩ := q
    simp only [hg] at hs
    obtain ⟨d, g, y, _, _, ⟨_, rfl, _⟩ | ⟨_, hs⟩⟩ := hs
    · exact absurd rfl hn
    · exact main hs
  | none => simp only [hg] at hs; exact main hs
variable {all : List Oper} {o : Oper} {s N : Nat} {t tX : Nat → AV} {h h' hX : AH} {a : Act} {w w0 : World} {D : Nat → Prop} {S0 : Nat → Prop} {S : Nat → Prop} {β : Bt} {R : FuncId → List AV → AV → Prop} {x : AV}
theorem stepR_trC (M : SimD C V w0 S0 N D tX hX a w S β) (hst : StepR C R all o s t h x h') (hlook : ∀ i ∈ looksO all o, tX i = t i) (hag : readsO o.op = true → Agree (cutB (sitesO tX o) β) h hX) :
    ∃ h2, StepR C R all o s tX hX x h2 ∧ HRel h hX s (writesO o.op) (cutB (sitesO tX o) β) h' h2 := by
  have hops : ∀ i, .tmp i ∈ o.op.operands.toList → tX i = t i := fun i hi => hlook i (by simp only [looksO, List.mem_append]; exact .inl (.inr (mem_tmpsO _ i hi)))
  have hev : ∀ x ∈ o.op.operands, evA C tX x = evA C t x := fun x hx => by
    cases x with
    | tmp i => exact hops i (by simpa using hx)
    | _ => rfl
  have hrep : ∀ x ∈ o.op.operands, Rep S w (cutB (sitesO tX o) β) (evA C tX x) (a.eval x) := fun x hx => rep_cut (ev_rep M x) fun s hs => names_ev hx hs
  unfold StepR at hst ⊢
  cases hg : o.guard with
  | none =>
    simp only [hg] at hst ⊢
    rw [opA_ev_congr (ev' := evA C tX) o.op fun x hx => (hev x hx).symm] at hst
    exact nodeR_tr o.op hrep hag hst
  | some q =>
    obtain ⟨i, pol⟩ := q
    simp only [hg] at hst ⊢
    obtain ⟨d, g, y, q1, q2, ⟨q3, rfl, q4⟩ | ⟨q3, q4⟩⟩ := hst
    case inr =>
      have hd : tX d = t d := hlook d (by simp only [looksO, hg, q1, List.mem_append]; exact .inr (by simp))
      rw [opA_ev_congr (ev' := evA C tX) o.op fun x hx => (hev x hx).symm] at q4
      obtain ⟨h2, e1, e2⟩ := nodeR_tr o.op hrep hag q4
      exact ⟨h2, ⟨d, g, y, q1, by rw [hd]; exact q2, .inr ⟨q3, e1⟩⟩, e2⟩
    have hd : tX d = t d := hlook d (by simp only [looksO, hg, q1, List.mem_append]; exact .inr (by simp))
    have hcs : condsO tX o.op = condsO t o.op := condsO_congr _ hops
    refine ⟨hX, ⟨d, g, y, q1, by rw [hd]; exact q2, .inl ⟨q3, rfl, ?_⟩⟩, HRel.refl⟩
    rcases q4 with ⟨c1, c2⟩ | ⟨c, c1, c2, c3⟩
    · refine .inl ⟨by rw [hcs]; exact c1, fun hg' => ?_⟩
      obtain ⟨f1, f2⟩ := c2 hg'
      rw [opA_ev_congr (ev' := evA C tX) o.op fun x hx => (hev x hx).symm] at f1 f2
      obtain ⟨h2, e1, _⟩ := nodeR_tr o.op hrep hag f2
      have T := opA_tr (C := C) (s := s) o.op hrep hag
      have e2 : opA C (evA C tX) hX s o.op = opA C (evA C tX) h' s o.op := by
        cases hr : opA C (evA C tX) h' s o.op <;> rw [hr] at T f1 <;> first | exact T | (simp [isFx] at f1)
      rw [e2] at e1 ⊢
      refine ⟨f1, ?_⟩
      cases hr : opA C (evA C tX) h' s o.op <;> rw [hr] at e1 f1 <;> first | (simp [isFx] at f1; done) | skip
      · obtain ⟨rfl, rfl⟩ := e1; exact ⟨rfl, rfl⟩
      · obtain ⟨p, rfl, rfl⟩ := e1; exact ⟨p, rfl, rfl⟩
      · obtain ⟨row, p1, p2, p3, rfl⟩ := e1; exact ⟨row, p1, p2, p3, rfl⟩
      · obtain ⟨l, p1, p2, p3, rfl⟩ := e1; exact ⟨l, p1, p2, p3, rfl⟩
      · obtain ⟨p1, p2, p3, p4, rfl⟩ := e1; exact ⟨p1, p2, p3, p4, rfl⟩
    · refine .inr ⟨c, by rw [hcs]; exact c1, c2, fun hg' => ?_⟩
      obtain ⟨f1, f2⟩ := c3 hg'
      rw [opA_ev_congr (ev' := evS C tX o.op) o.op fun x hx => (evS_congr o.op hev x hx).symm] at f1 f2
      have hsr : ∀ x ∈ o.op.operands, Rep S w (cutB (sitesO tX o) β) (evS C tX o.op x) (a.eval x) := fun x hx => rep_cut (evS_rep M o.op (hcs.trans c1) (c2 hg') x hx) fun s hs => names_ev hx (names_evS o.op hs)
      obtain ⟨h2, e1, _⟩ := nodeR_tr o.op hsr hag f2
      have T := opA_tr (C := C) (s := s) o.op hsr hag
      have e2 : opA C (evS C tX o.op) hX s o.op = opA C (evS C tX o.op) h' s o.op := by
        cases hr : opA C (evS C tX o.op) h' s o.op <;> rw [hr] at T f1 <;> first | exact T | (simp [isFx] at f1)
      rw [e2] at e1 ⊢
      refine ⟨f1, ?_⟩
      cases hr : opA C (evS C tX o.op) h' s o.op <;> rw [hr] at e1 f1 <;> first | (simp [isFx] at f1; done) | skip
      · obtain ⟨rfl, rfl⟩ := e1; exact ⟨rfl, rfl⟩
      · obtain ⟨p, rfl, rfl⟩ := e1; exact ⟨p, rfl, rfl⟩
      · obtain ⟨row, p1, p2, p3, rfl⟩ := e1; exact ⟨row, p1, p2, p3, rfl⟩
      · obtain ⟨l, p1, p2, p3, rfl⟩ := e1; exact ⟨l, p1, p2, p3, rfl⟩
      · obtain ⟨p1, p2, p3, p4, rfl⟩ := e1; exact ⟨p1, p2, p3, p4, rfl⟩
end
structure DrawOk2 (l : List Oper) (tE : Nat → AV) : Prop where
  back : ∀ j oj, l[j]? = some oj → ∀ e ∈ oj.after.toList, Region.binds .any e = true → e.on < j
  late : ∀ (j : Nat) (oj : Oper) (k : Nat) (ok : Oper) (d : Nat), l[j]? = some oj → l[k]? = some ok → readsO oj.op = true → j ≤ k → ok.dst = some d → d ∉ tmpsO oj.op.operands.toList
  slot : ∀ i j oi oj d, l[i]? = some oi → l[j]? = some oj → i ≠ j → oi.dst = some d → d ∈ looksO l oj → ordd (masks l []) i j = true
  mem : ∀ i j oi oj b, l[i]? = some oi → l[j]? = some oj → i ≠ j → writesO oi.op = true → readsO oj.op = true → b ∈ sitesO tE oi → b ∈ sitesO tE oj → ordd (masks l []) i j = true
theorem meets_of {a b : List Nat} {x : Nat} (ha : x ∈ a) (hb : x ∈ b) : meets a b = true :=
  List.any_eq_true.2 ⟨x, ha, List.any_eq_true.2 ⟨x, hb, by simp⟩⟩
theorem drawOk2_spec {l : List Oper} {tE : Nat → AV} (h : drawOk2 l tE = true) : DrawOk2 l tE := by
  have main : ∀ j oj, l[j]? = some oj → ((oj.after.toList.all fun e => !Region.binds .any e || Nat.blt e.on j) = true ∧ (!readsO oj.op || (l.drop j).all fun o => match o.dst with | none => true | some d => !(tmpsO oj.op.operands.toList).contains d) = true) ∧ ∀ i oi, l[i]? = some oi → (i == j ||
          ((match oi.dst with | none => true | some d => !(looksO l oj).contains d || ordd (masks l []) i j) &&
           (!(writesO oi.op && readsO oj.op && meets (sitesO tE oi) (sitesO tE oj)) || ordd (masks l []) i j))) = true := by
    intro j oj hj
    have hjl : j < l.length := (List.getElem?_eq_some_iff.1 hj).1
    have h1 := List.all_eq_true.1 h j (by simpa using hjl)
    simp only [hj, Bool.and_eq_true] at h1
    refine ⟨h1.1, fun i oi hi => ?_⟩
    have hil : i < l.length := (List.getElem?_eq_some_iff.1 hi).1
    have h2 := List.all_eq_true.1 h1.2 i (by simpa using hil)
    simp only [hi] at h2
    exact h2
  refine ⟨fun j oj hj e he hb => ?_, fun j oj k ok d hj hk hro hjk hd hm => ?_, fun i j oi oj d hi hj hne hd hl => ?_, fun i j oi oj b hi hj hne hw hr hbi hbj => ?_⟩
  · have := List.all_eq_true.1 (main j oj hj).1.1 e he
    simp only [hb, Bool.not_true, Bool.false_or] at this
    exact Nat.le_of_ble_eq_true this
  · have hmem : ok ∈ l.drop j := List.mem_of_getElem? (i := k - j) (by rw [List.getElem?_drop, show j + (k - j) = k by omega]; exact hk)
    have h0 := (main j oj hj).1.2
    simp only [hro, Bool.not_true, Bool.false_or] at h0
    have := List.all_eq_true.1 h0 ok hmem
    simp only [hd] at this
    rw [show (tmpsO oj.op.operands.toList).contains d = true by simpa using hm] at this
    cases this
  · have := (main j oj hj).2 i oi hi
    have hb : (i == j) = false := by simpa using hne
    simp only [hb, Bool.false_or, Bool.and_eq_true, hd] at this
    have h1 := this.1
    rw [show (looksO l oj).contains d = true by simpa using hl] at h1
    simpa using h1
  · have := (main j oj hj).2 i oi hi
    have hb : (i == j) = false := by simpa using hne
    simp only [hb, Bool.false_or, Bool.and_eq_true] at this
    have h1 := this.2
    rw [hw, hr, meets_of hbi hbj] at h1
    simpa using h1
section
variable {C : Ctx} {V : Inv C.fr} {R : FuncId → List AV → AV → Prop}
theorem bit_lt2 {l : List Oper} {tE : Nat → AV} (D : DrawOk2 l tE) {i j : Nat} {oj : Oper} (hj : l[j]? = some oj) (hi : ((masks l []).getD j 0).testBit i = true) : i < j :=
  masks_ok (X := (· < j)) (fun k ok hk hok e he hb => Nat.lt_trans (D.back k ok hok e he hb) hk) hj (fun e he hb => D.back j oj hj e he hb) hi
theorem ord_iff2 {l : List Oper} {tE : Nat → AV} (D : DrawOk2 l tE) {X : Nat → Prop} (hX : Down l X) {i j : Nat} {oi oj : Oper} (hi : l[i]? = some oi) (hj : l[j]? = some oj) (hp : ∀ e ∈ oj.after.toList, Region.binds .any e = true → X e.on) (hnj : ¬ X j) (ho : ordd (masks l []) i j = true) : X i ↔ i < j := by
  simp only [ordd, Bool.or_eq_true] at ho
  rcases ho with ho | ho
  · exact ⟨fun _ => bit_lt2 D hj ho, fun _ => masks_ok hX hj hp ho⟩
  · have hlt := bit_lt2 D hi ho
    refine ⟨fun hXi => absurd (masks_ok hX hi (fun e he hb => hX i oi hXi hi e he hb) ho) hnj, fun h => by omega⟩
structure Chn2 (C : Ctx) (l : List Oper) (n : Nat) (h : AH) (t : Nat → AV) (xs : Nat → AV) (hh : Nat → AH) (tt : Nat → Nat → AV) (tb : Nat → Nat → Bool) : Prop where
  D : DrawOk2 l (tt l.length)
  step : ∀ k o, l[k]? = some o → StepR C (DCall C) l o (n + k) (tt k) (hh k) (xs k) (hh (k + 1))
  next : ∀ k o, l[k]? = some o → tt (k + 1) = updO (tt k) o.dst (xs k)
  t0 : tt 0 = t
  h0 : hh 0 = h
  new : ∀ s, n ≤ s → h s = none
  tb : ∀ b i, tb b i = true ↔ hh (i + 1) b ≠ hh i b
  nH : NoH C
variable {l : List Oper} {n : Nat} {h : AH} {t xs : Nat → AV} {hh : Nat → AH} {tt : Nat → Nat → AV} {tb : Nat → Nat → Bool}
theorem Chn2.live (Z : Chn2 C l n h t xs hh tt tb) {i : Nat} (hi : i < l.length) {b : Nat} (hb : b ≠ n + i) (hn : hh i b = none) : hh (i + 1) b = none := by
  have ho : l[i]? = some l[i] := List.getElem?_eq_getElem hi
  by_cases he : hh (i + 1) b = hh i b
  · rw [he, hn]
  · exact absurd hn (stepR_heap (Z.step i _ ho) b hb he).2
theorem Chn2.fresh (Z : Chn2 C l n h t xs hh tt tb) {b : Nat} (hb : n ≤ b) : ∀ k, k ≤ l.length → n + k ≤ b → hh k b = none
  | 0, _, _ => by rw [Z.h0]; exact Z.new b hb
  | k + 1, hk, hkb => Z.live (by omega) (by omega) (Z.fresh hb k (by omega) (by omega))
theorem Chn2.still (Z : Chn2 C l n h t xs hh tt tb) {b j k : Nat} (hjk : j ≤ k) (hq : ∀ i, j ≤ i → i < k → tb b i = false) : hh k b = hh j b :=
  same_to k hjk fun i h1 h2 => Classical.byContradiction fun hn => by
    have := hq i h1 h2
    rw [(Z.tb b i).2 hn] at this; cases this
theorem Chn2.at (Z : Chn2 C l n h t xs hh tt tb) {j : Nat} {o : Oper} (hj : l[j]? = some o) (hro : readsO o.op = true) : sitesO (tt l.length) o = sitesO (tt j) o := by
  have hjl : j < l.length := (List.getElem?_eq_some_iff.1 hj).1
  have key : ∀ i ∈ tmpsO o.op.operands.toList, ∀ k, j ≤ k → k ≤ l.length → tt k i = tt j i := by
    intro i hi k
    induction k with
    | zero => intro h1 _; rw [show j = 0 by omega]
    | succ k ih =>
      intro h1 h2
      by_cases he : j = k + 1
      · rw [he]
      · have hk : l[k]? = some l[k] := List.getElem?_eq_getElem (by omega)
        rw [Z.next k _ hk, updO_other (fun hd => Z.D.late j o k _ i hj hk hro (by omega) hd hi)]
        exact ih (by omega) (by omega)
  unfold sitesO
  exact flatMap_eq _ fun i hi => by rw [key i hi l.length (by omega) (Nat.le_refl _)]
structure DInv2 (C : Ctx) (V : Inv C.fr) (l : List Oper) (n : Nat) (h : AH) (t xs : Nat → AV) (hh : Nat → AH) (tb : Nat → Nat → Bool) (w0 : World) (S0 : Nat → Prop) (N : Nat) (X : Nat → Bool) (a : Act) (w : World) : Prop where
  down : Down l (X · = true)
  bnd : ∀ i, X i = true → i < l.length
  H3 : ∀ k i, X k = true → tb (n + i) k = true → k = i ∨ X i = true
  sim : ∃ S β hX, SimD C V w0 S0 N (fun s => s < n ∨ ∃ i, X i = true ∧ s = n + i) (valX X l xs t l.length) hX a w S β ∧ ∀ b, hX b = hh (lastW (fun i => X i && tb b i) l.length) b
theorem dinv2_step (hC : CtxOk C) (Z : Chn2 C l n h t xs hh tt tb) {ops : Array Oper} (hall : ops.toList = l) {w0 : World} {S0 : Nat → Prop} {N : Nat} (hb : slotsOk N l = true) {X Y : Nat → Bool} {a : Act} {w : World} (I : DInv2 C V l n h t xs hh tb w0 S0 N X a w) {j : Nat} {o : Oper} (hj : l[j]? = some o)
    (hp : ∀ e ∈ o.after.toList, Region.binds .any e = true → X e.on = true) (hnj : X j = false) (hYj : Y j = true) (hY : ∀ i, i ≠ j → Y i = X i) {K : Act → World → Prop} {Q : Exit → Act → World → Prop} (hK : ∀ a' w', DInv2 C V l n h t xs hh tb w0 S0 N Y a' w' → K a' w') :
    if Region.wanted o (yielded ops a.tmps) then o.wp C.P a w K Q ∨ (o.asks C.P a w ∧ LetsOut Q) else K (a.put o.dst undef) w := by
  obtain ⟨S, β, hX, M, H1⟩ := I.sim
  have hjl : j < l.length := (List.getElem?_eq_some_iff.1 hj).1
  have hnj' : ¬ (X j = true) := by rw [hnj]; simp
  have hs : β (n + j) = none := by
    cases hq : β (n + j) with
    | none => rfl
    | some loc =>
      rcases M.dom _ _ hq with h | ⟨i, hi, he⟩
      · omega
      · have : i = j := by omega
        subst this; rw [hnj] at hi; cases hi
  have slot : ∀ tmp ∈ looksO l o, valX X l xs t l.length tmp = tt j tmp := by
    intro tmp htmp
    rw [val_all Z.t0 (fun k o hk => Z.next k o hk) j (by omega), ← val_lt tmp (by omega)]
    refine val_congr _ fun i oi hi hoi hd => ?_
    by_cases he : i = j
    · subst he; rw [hnj]; simp
    · have := ord_iff2 Z.D I.down hoi hj hp hnj' (Z.D.slot i j oi o tmp hoi hj he hd htmp)
      by_cases hlt : i < j
      · rw [this.2 hlt]; simp [hlt]
      · have hx : ¬ (X i = true) := fun h => hlt (this.1 h)
        simp only [hlt, decide_false]
        simpa using hx
  have sites : sitesO (valX X l xs t l.length) o = sitesO (tt j) o := by
    unfold sitesO
    exact flatMap_eq _ fun i hi => by rw [slot i (by simp only [looksO, List.mem_append]; exact .inl (.inr hi))]
  have ag : readsO o.op = true → ∀ b loc, β b = some loc → b ∈ sitesO (tt j) o → hh j b ≠ none → hX b = hh j b ∧ ∀ k, X k = true → tb b k = true → k < j := by
    intro hr b loc hbl hbs hbn
    have wiff : ∀ k, k < l.length → k ≠ j → tb b k = true → (X k = true ↔ k < j) := by
      intro k hk hne htk
      have hok : l[k]? = some l[k] := List.getElem?_eq_getElem hk
      by_cases hbk : b = n + k
      · have hkj : k < j := Nat.lt_of_not_le fun hle => hbn (Z.fresh (by omega) j (by omega) (by omega))
        refine ⟨fun _ => hkj, fun _ => ?_⟩
        rcases M.dom _ _ hbl with h | ⟨i, hi, he⟩
        · omega
        · have : i = k := by omega
          subst this; exact hi
      · have hn := (Z.tb b k).1 htk
        have hwk := (stepR_heap (Z.step k _ hok) b hbk hn).1
        have hsk := stepR_site (Z.step k _ hok) b hbk hn
        exact ord_iff2 Z.D I.down hok hj hp hnj' (Z.D.mem k j _ o b hok hj hne hwk hr (by rw [Z.at hok (writes_reads _ hwk)]; exact hsk) (by rw [Z.at hj hr]; exact hbs))
    have lt : ∀ k, X k = true → tb b k = true → k < j := fun k hk htk => (wiff k (I.bnd k hk) (fun e => by subst e; exact hnj' hk) htk).1 hk
    refine ⟨?_, lt⟩
    rw [H1 b]
    have hple : lastW (fun i => X i && tb b i) l.length ≤ j := lastW_none _ _ fun i hi hw => by
      simp only [Bool.and_eq_true] at hw
      exact lt i hw.1 hw.2
    refine (Z.still hple fun i h1 h2 => ?_).symm
    cases hti : tb b i with
    | false => rfl
    | true =>
      have hXi := (wiff i (by omega) (by omega) hti).2 h2
      have := lastW_ge (W := fun i => X i && tb b i) l.length i (by omega) (by simp [hXi, hti])
      omega
  have hag : readsO o.op = true → Agree (cutB (sitesO (valX X l xs t l.length) o) β) (hh j) hX := by
    intro hr b loc hbl hne
    have hbl : (if b ∈ sitesO (valX X l xs t l.length) o then β b else none) = some loc := hbl
    split at hbl
    · rename_i hm
      rw [sites] at hm
      exact (ag hr b loc hbl hm hne).1
    · cases hbl
  obtain ⟨h2, st, hrel⟩ := stepR_trC M (Z.step j o hj) slot hag
  have turn : ∀ b, b ≠ n + j → (hh (j + 1) b ≠ hh j b ∨ h2 b ≠ hX b) → (∃ loc, β b = some loc) ∧ hX b = hh j b ∧ ∀ k, X k = true → tb b k = true → k < j := by
    intro b hbj hc
    obtain ⟨q1, q2, loc, q3⟩ := hrel.2 b hbj hc
    have q3 : (if b ∈ sitesO (valX X l xs t l.length) o then β b else none) = some loc := q3
    split at q3
    · rename_i hm
      rw [sites] at hm
      exact ⟨⟨loc, q3⟩, ag (writes_reads _ q1) b loc q3 hm q2⟩
    · cases q3
  refine step_sound hC M hs hall st (slots_lt hb (List.mem_of_getElem? hj)) (fun i pol d _ hd => guard_lt hb i d hd) fun a' w' S' β' M' => hK a' w' ?_
  have XY : ∀ i, Y i = true ↔ X i = true ∨ i = j := fun i => by
    by_cases he : i = j
    · subst he; simp [hYj]
    · rw [hY i he]; simp [he]
  have hXnone : hX (n + j) = none := by
    cases hq : hX (n + j) with
    | none => rfl
    | some blk =>
      obtain ⟨loc, _, _, _, hl, _⟩ := M.H.own _ _ hq
      rw [hs] at hl; cases hl
  have hjnone : hh j (n + j) = none := Z.fresh (by omega) j (by omega) (by omega)
  have h2new : h2 (n + j) = hh (j + 1) (n + j) := hrel.1 _ (by rw [hXnone, hjnone])
  refine ⟨fun k ok hk hok e he hbd => ?_, fun i hi => ?_, fun k i hk htk => ?_, S', β', h2, ?_, fun b => ?_⟩
  · rcases (XY k).1 hk with hk | rfl
    · exact (XY _).2 (.inl (I.down k ok hk hok e he hbd))
    · rw [hj] at hok; injection hok with hok; subst hok
      exact (XY _).2 (.inl (hp e he hbd))
  · rcases (XY i).1 hi with hi | rfl
    · exact I.bnd i hi
    · exact hjl
  · rcases (XY k).1 hk with hk | rfl
    · rcases I.H3 k i hk htk with h | h
      · exact .inl h
      · exact .inr ((XY i).2 (.inl h))
    · by_cases hki : k = i
      · exact .inl hki
      · obtain ⟨⟨loc, hl⟩, _⟩ := turn (n + i) (by omega) (.inl ((Z.tb _ _).1 htk))
        rcases M.dom _ _ hl with h | ⟨i', hi', he⟩
        · omega
        · have : i' = i := by omega
          subst this; exact .inr ((XY _).2 (.inl hi'))
  · have hval : updO (valX X l xs t l.length) o.dst (xs j) = valX Y l xs t l.length := by
      funext tmp
      by_cases hd : o.dst = some tmp
      · rw [hd, updO_same]
        have hlook : tmp ∈ looksO l o := by simp [looksO, hd]
        rw [val_stop (X := Y) (j := j + 1) l.length (by omega) fun i oi h1 h2 hoi hdi => ?_]
        · simp only [valX, hj, hYj, hd, updO_same]
        · have he : i ≠ j := by omega
          have := ord_iff2 Z.D I.down hoi hj hp hnj' (Z.D.slot i j oi o tmp hoi hj he hdi hlook)
          cases hx : Y i with
          | false => rfl
          | true =>
            rcases (XY i).1 hx with h | h
            · have := this.1 h; omega
            · omega
      · rw [updO_other hd]
        refine val_congr _ fun i oi hi hoi hdi => ?_
        by_cases he : i = j
        · subst he; rw [hj] at hoi; injection hoi with hoi; subst hoi; exact absurd hdi hd
        · exact (hY i he).symm
    rw [← hval]
    refine ⟨M'.T, M'.H, M'.B, fun y loc hy => ?_, M'.df, M'.sz, M'.G, M'.nw, M'.iv⟩
    rcases M'.dom y loc hy with (h | ⟨i, hi, he⟩) | h
    · exact .inl h
    · exact .inr ⟨i, (XY i).2 (.inl hi), he⟩
    · exact .inr ⟨j, hYj, h⟩
  · cases htj : tb b j with
    | true =>
      have hlt : ∀ k, X k = true → tb b k = true → k < j := by
        intro k hk htk
        by_cases hbj : b = n + j
        · subst hbj
          rcases I.H3 k j hk htk with h | h
          · subst h; exact absurd hk hnj'
          · exact absurd h hnj'
        · exact (turn b hbj (.inl ((Z.tb _ _).1 htj))).2.2 k hk htk
      have hL : lastW (fun i => Y i && tb b i) l.length = j + 1 := by
        refine Nat.le_antisymm (lastW_none _ _ fun i hi hwi => ?_) (lastW_ge _ j hjl (by simp [hYj, htj]))
        simp only [Bool.and_eq_true] at hwi
        rcases (XY i).1 hwi.1 with h | h
        · have := hlt i h hwi.2; omega
        · omega
      rw [hL]
      by_cases hbj : b = n + j
      · rw [hbj]; exact h2new
      · exact hrel.1 b (turn b hbj (.inl ((Z.tb _ _).1 htj))).2.1
    | false =>
      have hstill : hh (j + 1) b = hh j b := Classical.byContradiction fun hn => by
        rw [(Z.tb b j).2 hn] at htj; cases htj
      have hW : (fun i => Y i && tb b i) = fun i => X i && tb b i := by
        funext i
        by_cases he : i = j
        · subst he; simp [htj]
        · rw [hY i he]
      rw [hW, ← H1 b]
      by_cases hbj : b = n + j
      · rw [hbj, h2new, hXnone, ← hbj, hstill, hbj, hjnone]
      · refine Classical.byContradiction fun hn => ?_
        have h5 := (turn b hbj (.inr hn)).2.1
        exact hn ((hrel.1 b h5).trans (hstill.trans h5.symm))
theorem draw2_sound (hC : CtxOk C) (nH : NoH C) {w0 : World} {S0 : Nat → Prop} {N : Nat} {ops : Array Oper} (hb : slotsOk N ops.toList = true) {K : ASt → Prop} (hr : regA C (DCall C) ops.toList ops.toList 0 ⟨t, h, n⟩ (fun st => drawOk2 ops.toList st.t = true ∧ K st))
    {a : Act} {w : World} {S : Nat → Prop} {β : Bt} (M : SimD C V w0 S0 N (· < n) t h a w S β) {Q : Exit → Act → World → Prop} (hQ : ∀ st a' w' S' β', K st → SimD C V w0 S0 N (· < st.n) st.t st.h a' w' S' β' → Q .normal a' w') :
    wpAny C.P .any ops Q ops.size (Array.replicate ops.size false) a { w with drawn := w.drawn + 1 } := by
  obtain ⟨xs, hh, tt, e1, e2, e3, e4⟩ := chain_ex nH ops.toList 0 t h hr
  simp only [Nat.zero_add] at e3 e4
  have hnew : ∀ s, n ≤ s → h s = none := fun s hs => by
    cases hq : h s with
    | none => rfl
    | some blk =>
      obtain ⟨l, _, _, _, hl, _⟩ := M.H.own s blk hq
      have : s < n := M.dom s l hl
      omega
  obtain ⟨hd, e4⟩ := e4
  obtain ⟨tb, htb⟩ : ∃ tb : Nat → Nat → Bool, ∀ b i, tb b i = true ↔ hh (i + 1) b ≠ hh i b := ⟨fun b i => @decide _ (Classical.propDecidable (hh (i + 1) b ≠ hh i b)), fun b i => by simp⟩
  have Z : Chn2 C ops.toList n h t xs hh tt tb := ⟨drawOk2_spec hd, fun k o hk => (e3 k o hk).1, fun k o hk => (e3 k o hk).2, e1, e2, hnew, htb, nH⟩
  have hm : ops.toList.length = ops.size := by simp
  have fin : ∀ (X : Nat → Bool) (a : Act) (w : World), (∀ i, i < ops.size → X i = true) → DInv2 C V ops.toList n h t xs hh tb w0 S0 N X a w → Q .normal a w := by
    intro X a w hall I
    obtain ⟨S, β, hX, M, H1⟩ := I.sim
    have hall' : ∀ i, i < ops.toList.length → X i = true := fun i hi => hall i (by rw [← hm]; exact hi)
    refine hQ _ a w S β e4 ?_
    have hT : valX X ops.toList xs t ops.toList.length = tt ops.toList.length := by
      rw [val_all Z.t0 (fun k o hk => Z.next k o hk) _ (Nat.le_refl _)]
      funext tmp
      exact val_congr _ fun i o hi _ _ => hall' i hi
    have hH : hX = hh ops.toList.length := by
      funext b
      rw [H1 b]
      refine (Z.still (lastW_le _ _) fun i h1 h2 => ?_).symm
      cases hti : tb b i with
      | false => rfl
      | true =>
        have := lastW_ge (W := fun i => X i && tb b i) ops.toList.length i h2 (by simp [hall' i h2, hti])
        omega
    rw [← hT, ← hH]
    refine ⟨M.T, M.H, M.B, fun x l hx => ?_, M.df, M.sz, M.G, M.nw, M.iv⟩
    show x < n + ops.toList.length
    rcases M.dom x l hx with h | ⟨i, hi, he⟩
    · omega
    · have := I.bnd i hi; omega
  have done : ∀ (listed : Array Bool), listed.size = ops.size → Region.ready .any ops listed = [] → ∀ i, i < ops.size → listed.getD i false = true := by
    intro listed hsz hnil i hi
    induction i using Nat.strongRecOn with
    | _ i ih =>
      cases hq : listed.getD i false with
      | true => rfl
      | false =>
        exfalso
        have hmem : i ∈ Region.ready .any ops listed := by
          refine mem_ready.2 ⟨?_, ops[i], Array.getElem?_eq_getElem hi, fun e he hbd => ?_⟩
          · have : i < listed.size := by omega
            rw [Array.getD_eq_getD_getElem?, Array.getElem?_eq_getElem this] at hq ⊢
            exact hq
          · have := Z.D.back i ops[i] (by rw [Array.getElem?_toList, Array.getElem?_eq_getElem hi]) e (by simpa using he) hbd
            exact ih e.on this (by omega)
        rw [hnil] at hmem
        cases hmem
  have main : ∀ (fuel : Nat) (listed : Array Bool) (a : Act) (w : World), listed.size = ops.size → cntX (fun i => listed.getD i false) ops.size = fuel → DInv2 C V ops.toList n h t xs hh tb w0 S0 N (fun i => listed.getD i false) a w → wpAny C.P .any ops Q fuel listed a w := by
    intro fuel
    induction fuel with
    | zero =>
      intro listed a w hsz hc I
      have hall := cntX_zero _ hc
      refine ⟨?_, fin _ a w hall I⟩
      cases hr : Region.ready .any ops listed with
      | nil => rfl
      | cons i rest =>
        exfalso
        have hmem : i ∈ Region.ready .any ops listed := by rw [hr]; exact List.mem_cons_self
        obtain ⟨h1, o, ho, _⟩ := mem_ready.1 hmem
        have hi : i < ops.size := (Array.getElem?_eq_some_iff.1 ho).1
        have h2 := hall i hi
        have : i < listed.size := by omega
        rw [Array.getD_eq_getD_getElem?, Array.getElem?_eq_getElem this] at h1 h2
        simp only [Option.getD_some] at h1 h2
        rw [h1] at h2; cases h2
    | succ fuel ih =>
      intro listed a w hsz hc I
      refine ⟨fun hnil => fin _ a w (done listed hsz hnil) I, fun j hj => ?_⟩
      obtain ⟨h1, o, ho, hpre⟩ := mem_ready.1 hj
      have hjl : j < ops.size := (Array.getElem?_eq_some_iff.1 ho).1
      have hjs : j < listed.size := by omega
      have hoj : ops.toList[j]? = some o := by rw [Array.getElem?_toList]; exact ho
      have hXj : listed.getD j false = false := by
        rw [Array.getD_eq_getD_getElem?, Array.getElem?_eq_getElem hjs] at h1 ⊢
        exact h1
      have hYj : (listed.setIfInBounds j true).getD j false = true := by
        rw [Array.getD_eq_getD_getElem?, Array.getElem?_setIfInBounds_self_of_lt hjs]; rfl
      have hY : ∀ i, i ≠ j → (listed.setIfInBounds j true).getD i false = listed.getD i false := fun i hi => by
        rw [Array.getD_eq_getD_getElem?, Array.getD_eq_getD_getElem?, Array.getElem?_setIfInBounds_ne (Ne.symm hi)]
      unfold wpOp
      simp only [ho]
      refine dinv2_step (X := fun i => listed.getD i false) (Y := fun i => (listed.setIfInBounds j true).getD i false) hC Z rfl hb I hoj (fun e he hbd => hpre e (by simpa using he) hbd) hXj hYj hY fun a' w' I' => ?_
      refine ih _ a' w' (by simp [hsz]) ?_ I'
      have := cntX_put (X := fun i => listed.getD i false) (Y := fun i => (listed.setIfInBounds j true).getD i false) hXj hYj hY ops.size hjl
      omega
  have hfalse : ∀ i, (Array.replicate ops.size false).getD i false = false := fun i => by
    rw [Array.getD_eq_getD_getElem?]
    by_cases hi : i < ops.size
    · simp [hi]
    · rw [Array.getElem?_eq_none (by simpa using hi)]; rfl
  have hXf : (fun i => (Array.replicate ops.size false).getD i false) = fun _ => false := funext hfalse
  have hcnt : ∀ k, cntX (fun i => (Array.replicate ops.size false).getD i false) k = k := by
    rw [hXf]
    intro k
    induction k with
    | zero => rfl
    | succ k ih => simp only [cntX, ih]; omega
  refine main ops.size _ a _ (by simp) (hcnt _) ⟨fun j oj hj => ?_, fun i hi => ?_, fun k j hk => ?_, S, β, h, ?_, fun s => ?_⟩
  · have := (hfalse j).symm.trans hj; cases this
  · have := (hfalse i).symm.trans hi; cases this
  · have := (hfalse k).symm.trans hk; cases this
  · have hv : valX (fun i => (Array.replicate ops.size false).getD i false) ops.toList xs t ops.toList.length = t := by
      have : ∀ k, valX (fun i => (Array.replicate ops.size false).getD i false) ops.toList xs t k = t := by
        intro k
        induction k with
        | zero => rfl
        | succ k ih =>
          rw [hXf] at ih ⊢
          simp only [valX]
          split <;> exact ih
      exact this _
    rw [hv]
    have M' := M.drawn (w.drawn + 1)
    exact ⟨M'.T, M'.H, M'.B, fun x l hx => .inl (M'.dom x l hx), M'.df, M'.sz, M'.G, M'.nw, M'.iv⟩
  · have : lastW (fun i => (Array.replicate ops.size false).getD i false && tb s i) ops.toList.length = 0 := by
      refine Nat.le_zero.1 (lastW_none _ _ fun i _ hw => ?_)
      have h1 := hfalse i
      rw [h1] at hw; simp at hw
    rw [this, e2]
end
end Go.Proofs.YtpefnjbmbfdmmaaDoor
