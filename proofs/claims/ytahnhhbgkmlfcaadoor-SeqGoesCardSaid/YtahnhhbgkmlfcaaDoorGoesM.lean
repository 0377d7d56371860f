/- The law SeqGoes: plain. -/
import Derived.Test.YtahnhhbgkmlfcaaDoorReadsH
namespace Go.Proofs.YtahnhhbgkmlfcaaDoor
open Go.RowKit

theorem stepsL_add (prog : List Nat) : ∀ (n k : Nat) (s : St), stepsL prog (n + k) s = stepsL prog n s ++ stepsL prog k (lastOf s (stepsL prog n s))
  | 0, k, s => by rw [Nat.zero_add]; rfl
  | n + 1, k, s => by
    by_cases h : s.halt = 0
    · rw [show n + 1 + k = (n + k) + 1 by omega, stepsL_more h, stepsL_more h, stepsL_add prog n k, lastOf_cons]; rfl
    · rw [stepsL_done (.inr h), stepsL_done (.inr h)]
      show [] = [] ++ stepsL prog k s
      rw [stepsL_done (.inr h)]; rfl
theorem lastOf_app (s : St) : ∀ (a b : List (St × Sp)), lastOf s (a ++ b) = lastOf (lastOf s a) b
  | [], b => rfl
  | x :: a, b => by rw [List.cons_append, lastOf_cons, lastOf_cons, lastOf_app]
theorem stepsL_succ {prog : List Nat} {k : Nat} {s : St} (h : (lastOf s (stepsL prog k s)).halt = 0) : stepsL prog (k + 1) s = stepsL prog k s ++ [stepP prog (lastOf s (stepsL prog k s))] := by
  rw [stepsL_add, stepsL_more h, stepsL_done (.inl rfl)]
theorem stepsL_stop {prog : List Nat} {k n : Nat} {s : St} (h : (lastOf s (stepsL prog k s)).halt ≠ 0) (hk : k ≤ n) : stepsL prog n s = stepsL prog k s := by
  obtain ⟨d, rfl⟩ := Nat.exists_eq_add_of_le hk
  rw [stepsL_add, stepsL_done (.inr h), List.append_nil]
/-- Only the last step tells a halt. -/
theorem halt_last {prog : List Nat} : ∀ (n : Nat) (s : St) (i : Nat) (x : St × Sp), (stepsL prog n s)[i]? = some x → x.2.halt ≠ 0 → i + 1 = (stepsL prog n s).length
  | 0, s, i, x, hi, _ => by simp [stepsL] at hi
  | n + 1, s, i, x, hi, hx => by
    by_cases h : s.halt = 0
    · rw [stepsL_more h] at hi ⊢
      cases i with
      | zero =>
        simp at hi
        subst hi
        obtain ⟨p1, p2⟩ := stepP_halt (prog := prog) h
        by_cases hh : (stepP prog s).1.halt = 0
        · exact absurd (p1.trans hh) hx
        · rw [stepsL_done (.inr hh)]; rfl
      | succ i =>
        have := halt_last n _ i x (by simpa using hi) hx
        rw [List.length_cons, ← this]
    · rw [stepsL_done (.inr h)] at hi; simp at hi
theorem setR_zero (r : Nat → Nat) {k : Int} (v : Nat) (h : k ≠ 0) (h2 : 0 ≤ k) : setR r k.toNat v 0 = r 0 := by
  unfold setR; rw [if_neg (by omega)]
theorem stepP_r0 {prog : List Nat} {s : St} : (stepP prog s).1.r 0 = s.r 0 := by
  have hw : 0 ≤ wr (insOf prog s) := (wr_lt (fetchW prog s.pc)).1
  have fin : ∀ a b nx tk, (finP s (insOf prog s) a b nx tk).1.r 0 = s.r 0 := fun a b nx tk => by
    unfold finP
    split
    · rfl
    · rename_i h; exact setR_zero _ _ h hw
  unfold stepP
  split
  · split
    · split
      · rfl
      · unfold doI
        split
        · rfl
        · split
          · rfl
          · split
            · unfold accessP
              split
              · split
                · rfl
                · split
                  · rfl
                  · rename_i h; exact setR_zero _ _ h hw
              · rfl
            · unfold reckonP
              split
              · split
                · exact fin _ _ _ _
                · rfl
              · exact fin _ _ _ _
    · rfl
  · rfl
theorem last_r0 {prog : List Nat} : ∀ (n : Nat) (s : St), (lastOf s (stepsL prog n s)).r 0 = s.r 0
  | 0, s => rfl
  | n + 1, s => by
    by_cases h0 : s.halt = 0
    · rw [stepsL_more h0, lastOf_cons, last_r0 n, stepP_r0]
    · rw [stepsL_done (.inr h0)]; rfl
end Go.Proofs.YtahnhhbgkmlfcaaDoor
