/- The second machine and the model: regions whose order is drawn. -/
import Derived.Test.YtckjihpdjefpgaaAbsW
namespace Go.Proofs.Ytckjihpdjefpgaa
open Go.RowKit

/-! ### what comes ahead of what -/
def maskE (acc : List Nat) : List Edge → Nat → Nat
  | [], m => m
  | e :: es, m => maskE acc es (match Region.binds .any e with | true => m ||| 2 ^ e.on ||| acc.getD e.on 0 | false => m)
def masks : List Oper → List Nat → List Nat
  | [], acc => acc
  | o :: rest, acc => masks rest (acc ++ [maskE acc o.after.toList 0])
def tmpsO : List Operand → List Nat
  | [] => []
  | .tmp i :: l => i :: tmpsO l
  | _ :: l => tmpsO l
/-- The slots that an operation looks at. -/
def looksO (l : List Oper) (o : Oper) : List Nat := o.dst.toList ++ tmpsO o.op.operands.toList ++ (match o.guard with | some (g, _) => ((l[g]?).bind (·.dst)).toList | none => [])
def ordd (ms : List Nat) (i j : Nat) : Bool := (ms.getD j 0).testBit i || (ms.getD i 0).testBit j

def drawOk (l : List Oper) : Bool :=
  (List.range l.length).all fun j => match l[j]? with
    | none => true
    | some oj =>
      (oj.after.toList.all fun e => !Region.binds .any e || Nat.blt e.on j) &&
      (List.range l.length).all fun i => match l[i]? with
        | none => true
        | some oi => i == j ||
          ((match oi.dst with | none => true | some d => !(looksO l oj).contains d || ordd (masks l []) i j) &&
           (!(writesO oi.op && readsO oj.op) || ordd (masks l []) i j))

theorem maskE_spec (acc : List Nat) : ∀ (es : List Edge) (m i : Nat), (maskE acc es m).testBit i = true → m.testBit i = true ∨ ∃ e ∈ es, Region.binds .any e = true ∧ (i = e.on ∨ (acc.getD e.on 0).testBit i = true)
  | [], m, i, h => .inl h
  | e :: es, m, i, h => by
    simp only [maskE] at h
    rcases maskE_spec acc es _ i h with h | ⟨e', h1, h2⟩
    · split at h
      · rename_i hb
        simp only [Nat.testBit_or, Nat.testBit_two_pow, Bool.or_eq_true, decide_eq_true_eq] at h
        rcases h with (h | h) | h
        · exact .inl h
        · exact .inr ⟨e, List.mem_cons_self, hb, .inl h.symm⟩
        · exact .inr ⟨e, List.mem_cons_self, hb, .inr h⟩
      · exact .inl h
    · exact .inr ⟨e', List.mem_cons_of_mem _ h1, h2⟩

/-- A set of operations that holds with each one those that it waits for. -/
def Down (l : List Oper) (X : Nat → Prop) : Prop := ∀ j oj, X j → l[j]? = some oj → ∀ e ∈ oj.after.toList, Region.binds .any e = true → X e.on

theorem masks_spec {l : List Oper} {X : Nat → Prop} (hX : Down l X) : ∀ (rest pre : List Oper) (acc : List Nat), l = pre ++ rest → acc.length = pre.length →
    (∀ j oj, j < pre.length → l[j]? = some oj → (∀ e ∈ oj.after.toList, Region.binds .any e = true → X e.on) → ∀ i, (acc.getD j 0).testBit i = true → X i) →
    ∀ j oj, l[j]? = some oj → (∀ e ∈ oj.after.toList, Region.binds .any e = true → X e.on) → ∀ i, ((masks rest acc).getD j 0).testBit i = true → X i
  | [], pre, acc, hl, ha, H, j, oj, hj, hp, i, hi => by
    have hlt : j < pre.length := by rw [hl, List.append_nil] at hj; exact (List.getElem?_eq_some_iff.1 hj).1
    exact H j oj hlt hj hp i hi
  | o :: rest, pre, acc, hl, ha, H, j, oj, hj, hp, i, hi => by
    refine masks_spec hX rest (pre ++ [o]) (acc ++ [maskE acc o.after.toList 0]) (by rw [hl]; simp) (by simp [ha]) ?_ j oj hj hp i hi
    intro j oj hlt hj hp i hi
    rw [List.length_append] at hlt
    by_cases hjp : j < pre.length
    · rw [List.getD_eq_getElem?_getD, List.getElem?_append_left (by omega), ← List.getD_eq_getElem?_getD] at hi
      exact H j oj hjp hj hp i hi
    · have hje : j = pre.length := by simp at hlt; omega
      subst hje
      have hoj : oj = o := by
        rw [hl, List.getElem?_append_right (Nat.le_refl _), Nat.sub_self] at hj
        simpa using hj.symm
      subst hoj
      rw [List.getD_eq_getElem?_getD, List.getElem?_append_right (by omega), ha, Nat.sub_self] at hi
      simp only [List.getElem?_cons_zero, Option.getD_some] at hi
      rcases maskE_spec acc _ _ _ hi with h | ⟨e, h1, h2, h3⟩
      · simp at h
      · have hXe := hp e h1 h2
        rcases h3 with rfl | h3
        · exact hXe
        · rcases Nat.lt_or_ge e.on acc.length with hea | hea
          · have hel : e.on < l.length := by rw [hl, List.length_append]; omega
            exact H e.on l[e.on] (by omega) (List.getElem?_eq_getElem hel) (hX e.on _ hXe (List.getElem?_eq_getElem hel)) i h3
          · rw [List.getD_eq_getElem?_getD, List.getElem?_eq_none hea] at h3
            simp at h3

theorem masks_ok {l : List Oper} {X : Nat → Prop} (hX : Down l X) {j : Nat} {oj : Oper} (hj : l[j]? = some oj) (hp : ∀ e ∈ oj.after.toList, Region.binds .any e = true → X e.on) {i : Nat} (hi : ((masks l []).getD j 0).testBit i = true) : X i :=
  masks_spec hX l [] [] rfl rfl (fun j oj h => absurd h (by simp)) j oj hj hp i hi

structure DrawOk (l : List Oper) : Prop where
  back : ∀ j oj, l[j]? = some oj → ∀ e ∈ oj.after.toList, Region.binds .any e = true → e.on < j
  slot : ∀ i j oi oj d, l[i]? = some oi → l[j]? = some oj → i ≠ j → oi.dst = some d → d ∈ looksO l oj → ordd (masks l []) i j = true
  mem : ∀ i j oi oj, l[i]? = some oi → l[j]? = some oj → i ≠ j → writesO oi.op = true → readsO oj.op = true → ordd (masks l []) i j = true

theorem drawOk_spec {l : List Oper} (h : drawOk l = true) : DrawOk l := by
  have main : ∀ j oj, l[j]? = some oj → (oj.after.toList.all fun e => !Region.binds .any e || Nat.blt e.on j) = true ∧ ∀ i oi, l[i]? = some oi → (i == j ||
          ((match oi.dst with | none => true | some d => !(looksO l oj).contains d || ordd (masks l []) i j) &&
           (!(writesO oi.op && readsO oj.op) || ordd (masks l []) i j))) = true := by
    intro j oj hj
    have hjl : j < l.length := (List.getElem?_eq_some_iff.1 hj).1
    have h1 := List.all_eq_true.1 h j (by simpa using hjl)
    simp only [hj, Bool.and_eq_true] at h1
    refine ⟨h1.1, fun i oi hi => ?_⟩
    have hil : i < l.length := (List.getElem?_eq_some_iff.1 hi).1
    have h2 := List.all_eq_true.1 h1.2 i (by simpa using hil)
    simpa only [hi] using h2
  refine ⟨fun j oj hj e he hb => ?_, fun i j oi oj d hi hj hne hd hl => ?_, fun i j oi oj hi hj hne hw hr => ?_⟩
  · have := List.all_eq_true.1 (main j oj hj).1 e he
    simp only [hb, Bool.not_true, Bool.false_or] at this
    exact Nat.le_of_ble_eq_true this
  · have := (main j oj hj).2 i oi hi
    have hb : (i == j) = false := by simpa using hne
    simp only [hb, Bool.false_or, Bool.and_eq_true, hd] at this
    have h1 := this.1
    rw [show (looksO l oj).contains d = true by simpa using hl] at h1
    simpa using h1
  · have := (main j oj hj).2 i oi hi
    have hb : (i == j) = false := by simpa using hne
    simp only [hb, Bool.false_or, Bool.and_eq_true] at this
    have h1 := this.2
    simpa [hw, hr] using h1
end Go.Proofs.Ytckjihpdjefpgaa
