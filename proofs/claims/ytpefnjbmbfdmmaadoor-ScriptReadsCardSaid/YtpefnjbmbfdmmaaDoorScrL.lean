/- Package script: one line of a text: a walk on the second machine. -/
import Derived.Test.YtpefnjbmbfdmmaaDoorScrR
namespace Go.Proofs.YtpefnjbmbfdmmaaDoor
open Go.RowKit Go.Lib

theorem hRead (hB : HexIx) (p : ScPlan) (t : List W) (ck : Bool) (k : Nat) (hk : k < 14) (ht : t.length ≤ 900000) (hw : ∀ x ∈ t, x.length ≤ 900000) :
    HSem C0.P C0.G 24 [.ptr 0 0, vN k, .sl 1 (t.map rowS) ck] (heapF [(0, .box (planF p k))]) 1 (ReadP p t k) := by
  rcases k with _ | _ | _ | _ | _ | _ | _ | _ | _ | _ | _ | _ | _ | _ | k
  · exact hRead_0 hB p t ck ht hw
  · exact hRead_1 hB p t ck ht hw
  · exact hRead_2 hB p t ck ht hw
  · exact hRead_3 hB p t ck ht hw
  · exact hRead_4 hB p t ck ht hw
  · exact hRead_5 hB p t ck ht hw
  · exact hRead_6 hB p t ck ht hw
  · exact hRead_7 hB p t ck ht hw
  · exact hRead_8 hB p t ck ht hw
  · exact hRead_9 hB p t ck ht hw
  · exact hRead_10 hB p t ck ht hw
  · exact hRead_11 hB p t ck ht hw
  · exact hRead_12 hB p t ck ht hw
  · exact hRead_13 hB p t ck ht hw
  exact absurd hk (by omega)
/-- What reading a line makes of memory. -/
def ReadK (p : ScPlan) (t : List W) (k n : Nat) (K : AH) (x : AV) (h' : AH) : Prop :=
  (∃ q, readM p t k = some q ∧ x = vB true ∧ h' = upd K n (some (.box (planF q (k + 1))))) ∨ (readM p t k = none ∧ x = vB false ∧ ∃ q a b c, h' = upd K n (some (.box (planL q a b c))))
theorem plan_closed (p : ScPlan) (a b c : Bool) : closedL (planL p a b c) = true := rfl
theorem readAt (hB : HexIx) {p : ScPlan} {t : List W} {ck : Bool} {k n : Nat} {K : AH} {s2 : Nat} (hk : k < 14) (ht : t.length ≤ 900000) (hw : ∀ x ∈ t, x.length ≤ 900000) (hb : Nat.blt n s2 = true) (hK : K n = some (.box (planF p k))) :
    HSem C0.P C0.G 24 [.ptr n 0, vN k, .sl 1 (t.map rowS) ck] K s2 (ReadK p t k n K) := by
  refine (hRead hB p t ck k hk ht hw).frame (fun _ => n) K s2 rfl (fun x hx => ?_) (fun x blk0 hx => ?_) (fun x y hx hy _ => by omega) rfl _ fun r' h' hP => ?_
  · cases x with
    | zero => omega
    | succ x => exact absurd rfl hx
  · cases x with
    | zero => injection hx with hx; subst hx; exact ⟨Nat.le_of_ble_eq_true hb, rfl, hK⟩
    | succ x => cases hx
  · have key : ∀ q a b c, h' = heapF [(0, .box (planL q a b c))] → ∀ y blk, upd K n (some (.box (planL q a b c))) y = some blk → (∃ x blk0, h' x = some blk0 ∧ y = newN (fun _ => n) 1 s2 x ∧ blk = mapB (newN (fun _ => n) 1 s2) blk0) ∨ (K y = some blk ∧ ∀ x, x < 1 → (fun _ => n) x ≠ y) := by
      intro q a b c hh y blk0 hy
      by_cases he : y = n
      · subst he
        rw [upd_same] at hy; injection hy with hy
        exact .inl ⟨0, .box (planL q a b c), by rw [hh]; rfl, rfl, by rw [← hy]; rfl⟩
      · rw [upd_other _ _ he] at hy
        exact .inr ⟨hy, fun x _ q => he q.symm⟩
    rcases hP with ⟨q, h1, rfl, h2⟩ | ⟨h1, rfl, q, a, b, c, h2⟩
    · exact ⟨_, .inl ⟨q, h1, rfl, rfl⟩, key _ _ _ _ h2⟩
    · exact ⟨_, .inr ⟨h1, rfl, q, a, b, c, rfl⟩, key _ _ _ _ h2⟩
theorem parts_len {α : Type} {rd : W → Option α} : ∀ {t : List W} {l : List α}, partsL rd t = some l → l.length = t.length
  | [], l, h => by injection h with h; subst h; rfl
  | w :: t, l, h => by
    unfold partsL at h
    split at h
    · cases h
    · obtain ⟨m, hm, rfl⟩ := Option.map_eq_some_iff.1 h
      rw [List.length_cons, List.length_cons, parts_len hm]
theorem parts_mem {α : Type} {rd : W → Option α} : ∀ {t : List W} {l : List α}, partsL rd t = some l → ∀ a ∈ l, ∃ w, rd w = some a
  | [], l, h, a, ha => by injection h with h; subst h; exact absurd ha List.not_mem_nil
  | w :: t, l, h, a, ha => by
    unfold partsL at h
    split at h
    · cases h
    · rename_i x hx
      obtain ⟨m, hm, rfl⟩ := Option.map_eq_some_iff.1 h
      rcases List.mem_cons.1 ha with e | e
      · exact ⟨w, e ▸ hx⟩
      · exact parts_mem hm a e
theorem readC_lt {w : W} {a : Nat} (h : readC w = some a) : a ≤ 4294967295 := by have := readC_le w; rw [h] at this; exact this
theorem pair_len {w b : W} (h : pairL w = some b) : b.length ≤ w.length := by
  have e := congrArg List.length (pair_of w b h)
  have : (hexL b).length = 2 * b.length := by
    unfold hexL
    clear e h
    induction b with
    | nil => rfl
    | cons x b ih => rw [List.flatMap_cons, List.length_append, ih]; show 2 + _ = 2 * (b.length + 1); omega
  omega
theorem oneL_some {α : Type} {rd : W → Option α} {t : List W} {a : α} (h : oneL rd t = some a) : ∃ w ∈ t, rd w = some a := by
  match t, h with
  | [w], h => exact ⟨w, List.mem_cons_self, h⟩
theorem readM_ok {p q : ScPlan} (hp : p.ok) {t : List W} (ht : t.length ≤ 900000) (hw : ∀ x ∈ t, x.length ≤ 900000) {k : Nat} (h : readM p t k = some q) : q.ok := by
  rcases k with _ | _ | _ | _ | _ | _ | _ | _ | _ | _ | _ | _ | _ | _ | k
  all_goals first
    | (obtain ⟨v, hv, rfl⟩ := Option.map_eq_some_iff.1 h; exact ⟨hp.lat, hp.tape, hp.tp, hp.prog, hp.pr, hp.mem⟩)
    | (obtain ⟨v, hv, rfl⟩ := Option.map_eq_some_iff.1 h; exact ⟨by show v.length ≤ _; rw [parts_len hv]; exact ht, hp.tape, hp.tp, hp.prog, hp.pr, hp.mem⟩)
    | (obtain ⟨v, hv, rfl⟩ := Option.map_eq_some_iff.1 h; exact ⟨hp.lat, by show v.length ≤ _; rw [parts_len hv]; exact ht, fun a ha => (parts_mem hv a ha).elim fun _ q => readC_lt q, hp.prog, hp.pr, hp.mem⟩)
    | (obtain ⟨v, hv, rfl⟩ := Option.map_eq_some_iff.1 h; exact ⟨hp.lat, hp.tape, hp.tp, by show v.length ≤ _; rw [parts_len hv]; exact ht, fun a ha => (parts_mem hv a ha).elim fun _ q => readC_lt q, hp.mem⟩)
    | (obtain ⟨v, hv, rfl⟩ := Option.map_eq_some_iff.1 h; obtain ⟨w, h1, h2⟩ := oneL_some hv; exact ⟨hp.lat, hp.tape, hp.tp, hp.prog, hp.pr, Nat.le_trans (pair_len h2) (hw w h1)⟩)
    | cases h
/-- What one line makes of a plan and of the text that is left. -/
def LineP (p : ScPlan) (r : W) (k : Nat) (x : AV) (h' : AH) : Prop :=
  (∃ q, ((cutL 10 r).2.2 = true ∧ stepM okM p k (cutL 10 r).1 = some q ∧ q.ok) ∧ x = vB true ∧ h' = heapF [(0, .box (planF q (k + 1))), (1, .box [vS (cutL 10 r).2.1])]) ∨
  (((cutL 10 r).2.2 = false ∨ stepM okM p k (cutL 10 r).1 = none) ∧ x = vB false ∧ ∃ q a b c, h' = heapF [(0, .box (planL q a b c)), (1, .box [vS (cutL 10 r).2.1])])
theorem stepM_name {p : ScPlan} {k : Nat} {line : W} (h : ¬ (splitL 32 line).headD [] = nameL k) : stepM okM p k line = none := by unfold stepM; rw [if_neg h]
theorem stepM_read {p : ScPlan} {k : Nat} {line w0 : W} {t : List W} (hs : splitL 32 line = w0 :: t) (h : readM p t k = none) : stepM okM p k line = none := by
  unfold stepM; rw [hs]
  show (if w0 = nameL k then (readM p t k).bind _ else none) = none
  rw [h]; split <;> rfl
theorem stepM_right {p q : ScPlan} {k : Nat} {line w0 : W} {t : List W} (hs : splitL 32 line = w0 :: t) (hn : w0 = nameL k) (h : readM p t k = some q) (hq : q.ok) : stepM okM p k line = if rightP q = true then some q else none := by
  by_cases hr : rightP q = true
  · rw [if_pos hr]; exact stepM_iff.2 ⟨by rw [hs]; exact hn, by rw [hs]; exact h, (rightP_iff hq).1 hr⟩
  · rw [if_neg hr]
    cases hz : stepM okM p k line with
    | none => rfl
    | some z =>
      exfalso
      obtain ⟨_, b, c⟩ := stepM_iff.1 hz
      rw [hs] at b
      have e : readM p t k = some z := b
      rw [h] at e; injection e with e; subst e
      exact hr ((rightP_iff hq).2 c)
/-- What is asked of the library. -/
structure LibS : Prop where
  ix : HexIx
  cut : ∀ s : W, s.length ≤ 900000 → DCall C0 21 [vS s, .v (.string ⟨#[10]⟩)] (tupS (cutL 10 s))
  split : ∀ s : W, s.length ≤ 900000 → DCall C0 22 [vS s, .v (.string ⟨#[32]⟩)] (.sl 1 ((splitL 32 s).map rowS) false)
  itoa : ∀ n : Int, 0 ≤ n → n ≤ 600 → DCall C0 54 [vI n] (vS (itoa n))

end Go.Proofs.YtpefnjbmbfdmmaaDoor
