/- What two runs on two memories have in common: plain. -/
import Derived.Test.YtahnhhbgkmlfcaaDoorTraceW
namespace Go.Proofs.YtahnhhbgkmlfcaaDoor
open Go.RowKit

abbrev St.with (s : St) (m : ByteArray) : St := { s with mem := m }
theorem haltP_with (s : St) (m : ByteArray) (why : Int) (addr : Nat) : haltP (s.with m) why addr = ((haltP s why addr).1.with m, (haltP s why addr).2) := rfl
theorem finP_with (s : St) (m : ByteArray) (i : SI) (a b nx : Nat) (tk : Int) : finP (s.with m) i a b nx tk = ((finP s i a b nx tk).1.with m, (finP s i a b nx tk).2) := by
  unfold finP; split <;> rfl
theorem reckonP_with (s : St) (m : ByteArray) (i : SI) (a b : Nat) : reckonP (s.with m) i a b = ((reckonP s i a b).1.with m, (reckonP s i a b).2) := by
  unfold reckonP
  split
  · split
    · exact finP_with ..
    · rfl
  · exact finP_with ..
/-- An access on two memories as long: it tells the same but for what is loaded. -/
theorem accessP_with (s : St) (m : ByteArray) (hm : m.size = s.mem.size) (i : SI) (a b : Nat) :
    (accessP (s.with m) i a b).1.mem.size = (accessP s i a b).1.mem.size ∧
    (evP true (accessP s i a b).2 = evP true (accessP (s.with m) i a b).2 → (accessP s i a b).2 = (accessP (s.with m) i a b).2 ∧ (accessP (s.with m) i a b).1 = (accessP s i a b).1.with (accessP (s.with m) i a b).1.mem) := by
  unfold accessP
  show (if rightP (m.size : Int) (addrOf i a) (sizeOf' i.op : Nat) = true then _ else _ : St × Sp).1.mem.size = _ ∧ _
  rw [hm]
  by_cases hr : rightP (s.mem.size : Int) (addrOf i a) (sizeOf' i.op : Nat) = true
  · simp only [hr, if_true]
    have hq := right_le hr
    by_cases h4 : kindOf i.op = 4
    · simp only [h4, if_true]
      refine ⟨?_, fun _ => ⟨trivial, trivial⟩⟩
      rw [writeP_size (by rw [bytesP_size, hm]; exact hq.1), writeP_size (by rw [bytesP_size]; exact hq.1), hm]
    · simp only [h4, if_false]
      by_cases hw : wr i = 0
      · simp only [hw, if_true]
        exact ⟨hm, fun _ => ⟨trivial, trivial⟩⟩
      · simp only [hw, if_false]
        refine ⟨hm, fun he => ?_⟩
        have hz : (0 : Int) < (sizeOf' i.op : Nat) := by omega
        have hk : (kindOf i.op == 4) = false := by simpa using h4
        have hv : loadP i.op (readP s.mem (addrOf i a) (sizeOf' i.op)) = loadP i.op (readP m (addrOf i a) (sizeOf' i.op)) := by
          have := congrArg Ev.loaded he
          simp only [evP, hk] at this
          rwa [if_pos ⟨trivial, hz, trivial⟩, if_pos ⟨trivial, hz, trivial⟩] at this
        rw [hv]
        exact ⟨rfl, rfl⟩
  · simp only [hr, if_false]
    exact ⟨hm, fun _ => ⟨rfl, rfl⟩⟩
theorem stepP_with (prog : List Nat) (s : St) (m : ByteArray) (hm : m.size = s.mem.size) :
    (stepP prog (s.with m)).1.mem.size = (stepP prog s).1.mem.size ∧
    (evP true (stepP prog s).2 = evP true (stepP prog (s.with m)).2 → (stepP prog s).2 = (stepP prog (s.with m)).2 ∧ (stepP prog (s.with m)).1 = (stepP prog s).1.with (stepP prog (s.with m)).1.mem) := by
  have e : stepP prog (s.with m) = (if s.halt = 0 then (if (fetchP prog s.pc).isSome = true then (if opOf (fetchW prog s.pc) = 0 then haltP (s.with m) 2 0 else doI (s.with m) (insOf prog s)) else haltP (s.with m) 1 0) else (s.with m, noSp)) := rfl
  rw [e]
  unfold stepP
  by_cases h0 : s.halt = 0
  · rw [if_pos h0, if_pos h0]
    by_cases h1 : (fetchP prog s.pc).isSome = true
    · rw [if_pos h1, if_pos h1]
      by_cases h2 : opOf (fetchW prog s.pc) = 0
      · rw [if_pos h2, if_pos h2]; exact ⟨hm, fun _ => ⟨rfl, rfl⟩⟩
      · rw [if_neg h2, if_neg h2]
        unfold doI
        by_cases h3 : (insOf prog s).op = 47
        · rw [if_pos h3, if_pos h3]; exact ⟨hm, fun _ => ⟨rfl, rfl⟩⟩
        · rw [if_neg h3, if_neg h3]
          by_cases h4 : (insOf prog s).op = 48
          · rw [if_pos h4, if_pos h4]; exact ⟨hm, fun _ => ⟨rfl, rfl⟩⟩
          · rw [if_neg h4, if_neg h4]
            by_cases h5 : kindOf (insOf prog s).op = 3 ∨ kindOf (insOf prog s).op = 4
            · rw [if_pos h5, if_pos h5]; exact accessP_with s m hm _ _ _
            · rw [if_neg h5, if_neg h5]
              show (reckonP (s.with m) _ _ _).1.mem.size = _ ∧ (_ = evP true (reckonP (s.with m) _ _ _).2 → _ = (reckonP (s.with m) _ _ _).2 ∧ (reckonP (s.with m) _ _ _).1 = _)
              rw [reckonP_with]
              refine ⟨?_, fun _ => ⟨rfl, rfl⟩⟩
              show m.size = _
              have : (reckonP s (insOf prog s) (s.r (insOf prog s).rs1.toNat) (s.r (insOf prog s).rs2.toNat)).1.mem = s.mem := by
                unfold reckonP
                split
                · split
                  · unfold finP; split <;> rfl
                  · rfl
                · unfold finP; split <;> rfl
              rw [this, hm]
    · rw [if_neg h1, if_neg h1]; exact ⟨hm, fun _ => ⟨rfl, rfl⟩⟩
  · rw [if_neg h0, if_neg h0]; exact ⟨hm, fun _ => ⟨rfl, rfl⟩⟩

/-- As far as the events agree, with what was loaded, the steps do; and where they agree to the end, the states but for memory. -/
theorem tells {prog : List Nat} : ∀ (n : Nat) (s : St) (m : ByteArray), m.size = s.mem.size →
    (∀ i, i < sameP ((stepsL prog n s).map fun y : St × Sp => evP true y.2) ((stepsL prog n (s.with m)).map fun y : St × Sp => evP true y.2) → ∃ x, ((stepsL prog n s).map (·.2))[i]? = some x ∧ ((stepsL prog n (s.with m)).map (·.2))[i]? = some x) ∧
    ((stepsL prog n s).length ≤ sameP ((stepsL prog n s).map fun y : St × Sp => evP true y.2) ((stepsL prog n (s.with m)).map fun y : St × Sp => evP true y.2) → (stepsL prog n (s.with m)).length ≤ sameP ((stepsL prog n s).map fun y : St × Sp => evP true y.2) ((stepsL prog n (s.with m)).map fun y : St × Sp => evP true y.2) →
      ∃ m', lastOf (s.with m) (stepsL prog n (s.with m)) = (lastOf s (stepsL prog n s)).with m')
  | 0, s, m, _ => ⟨fun i h => absurd h (Nat.not_lt_zero _), fun _ _ => ⟨m, rfl⟩⟩
  | n + 1, s, m, hm => by
    by_cases h0 : s.halt = 0
    · rw [stepsL_more h0, stepsL_more (s := s.with m) h0]
      obtain ⟨q1, q2⟩ := stepP_with prog s m hm
      simp only [List.map_cons, sameP]
      by_cases he : evEq (evP true (stepP prog s).2) (evP true (stepP prog (s.with m)).2) = true
      · obtain ⟨e1, e2⟩ := q2 ((evEq_iff _ _).1 he)
        rw [if_pos he]
        obtain ⟨t1, t2⟩ := tells n (stepP prog s).1 (stepP prog (s.with m)).1.mem q1
        rw [← e2] at t1 t2
        refine ⟨fun i hi => ?_, fun l1 l2 => ?_⟩
        · cases i with
          | zero => exact ⟨(stepP prog s).2, rfl, by rw [e1]; rfl⟩
          | succ i => exact t1 i (by omega)
        · rw [lastOf_cons, lastOf_cons]
          exact t2 (by simpa using l1) (by simpa using l2)
      · rw [if_neg he]
        exact ⟨fun i h => absurd h (Nat.not_lt_zero _), fun l1 _ => by simp at l1⟩
    · rw [stepsL_done (.inr h0), stepsL_done (s := s.with m) (.inr h0)]
      exact ⟨fun i h => absurd h (Nat.not_lt_zero _), fun _ _ => ⟨m, rfl⟩⟩
theorem sameP_ge : ∀ (k : Nat) (a b : List Ev), (∀ i, i < k → ∃ x, a[i]? = some x ∧ b[i]? = some x) → k ≤ sameP a b
  | 0, _, _, _ => Nat.zero_le _
  | k + 1, a, b, h => by
    obtain ⟨x, h1, h2⟩ := h 0 (Nat.succ_pos _)
    cases a with
    | nil => simp at h1
    | cons y a =>
      cases b with
      | nil => simp at h2
      | cons z b =>
        simp at h1 h2; subst h1; subst h2
        have hz : ∀ q : Ev, evEq q q = true := fun q => (evEq_iff q q).2 rfl
        simp only [sameP, hz, if_true]
        have := sameP_ge k a b fun i hi => h (i + 1) (by omega)
        omega
end Go.Proofs.YtahnhhbgkmlfcaaDoor
