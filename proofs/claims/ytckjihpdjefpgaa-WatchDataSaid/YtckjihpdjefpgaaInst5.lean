
/- The contract of inst.Decode. -/
import Derived.Test.YtckjihpdjefpgaaInst4
namespace Go.Proofs.Ytckjihpdjefpgaa
open Go.RowKit

def codesL : List Nat := [0, 55, 23, 111, 103, 99, 4195, 16483, 20579, 24675, 28771, 3, 4099, 8195, 16387, 20483, 35, 4131, 8227, 19, 8211, 12307, 16403, 24595, 28691, 4115, 20499, 1073762323, 51, 1073741875, 4147, 8243, 12339, 16435, 20531, 1073762355, 24627, 28723, 33554483, 33558579, 33562675, 33566771, 33570867, 33574963, 33579059, 33583155, 15, 115, 1048691]
def code (k : Nat) : Nat := codesL.getD k 0
theorem code_lt (k : Nat) : code k < 4294967296 := by
  by_cases h : k < 49
  · have : ∀ k, k < 49 → code k < 4294967296 := by decide
    exact this k h
  · unfold code
    rw [List.getD_eq_getElem?_getD, List.getElem?_eq_none (by show 49 ≤ k; omega)]
    decide

/-- The table of the package, as a walk reads it. -/
def Codes (w : World) : Prop := ∀ k, k < 49 → w.cell? ⟨0, k, none⟩ = some (.int .u32 (code k))
theorem Codes.kept {w w' : World} (h : Codes w) (hb : Below w.heap.size w w') : Codes w' := fun k hk => (hb.cell (lt_of_cell (h k hk))).trans (h k hk)

def mtch (x k : Nat) : Bool := (x &&& fixedOf (formOf k)) == code k
def opFrom (x : Nat) : Nat → Nat → Nat
  | 0, _ => 0
  | n + 1, k => if mtch x k then k else opFrom x n (k + 1)
/-- The number of the instruction that a word tells; 0: none. -/
def opOf (x : Nat) : Nat := opFrom x 48 1
def noSI : SI := ⟨0, 0, 0, 0, 0⟩
def decN (x : Nat) : SI := if opOf x = 0 then noSI else readN (opOf x) x
def decE (x : Nat) : Nat := if opOf x = 0 then 20 else 0

theorem opFrom_le (x : Nat) : ∀ n k, opFrom x n k = 0 ∨ (k ≤ opFrom x n k ∧ opFrom x n k < k + n ∧ mtch x (opFrom x n k) = true ∧ ∀ j, k ≤ j → j < opFrom x n k → mtch x j = false)
  | 0, k => .inl rfl
  | n + 1, k => by
    unfold opFrom
    split
    · exact .inr ⟨by omega, by omega, by assumption, fun j h1 h2 => absurd h2 (by omega)⟩
    · rename_i hm
      rcases opFrom_le x n (k + 1) with h | ⟨h1, h2, h3, h4⟩
      · exact .inl h
      · refine .inr ⟨by omega, by omega, h3, fun j hj1 hj2 => ?_⟩
        by_cases e : j = k
        · subst e; simpa using hm
        · exact h4 j (by omega) hj2
theorem opFrom_zero (x : Nat) : ∀ n k, 1 ≤ k → opFrom x n k = 0 → ∀ j, k ≤ j → j < k + n → mtch x j = false
  | 0, k, _, _, j, h1, h2 => absurd h2 (by omega)
  | n + 1, k, hk, h, j, h1, h2 => by
    unfold opFrom at h
    split at h
    · omega
    · rename_i hm
      by_cases e : j = k
      · subst e; simpa using hm
      · exact opFrom_zero x n (k + 1) (by omega) h j (by omega) (by omega)
theorem opFrom_is (x : Nat) : ∀ n k j, k ≤ j → j < k + n → mtch x j = true → (∀ i, k ≤ i → i < j → mtch x i = false) → opFrom x n k = j
  | 0, k, j, h1, h2, _, _ => absurd h2 (by omega)
  | n + 1, k, j, h1, h2, hj, hn => by
    unfold opFrom
    by_cases e : j = k
    · subst e; rw [if_pos hj]
    · rw [if_neg (by rw [hn k (by omega) (by omega)]; simp)]
      exact opFrom_is x n (k + 1) j (by omega) (by omega) hj (fun i hi => hn i (by omega))
theorem opFrom_no (x : Nat) : ∀ n k, (∀ j, k ≤ j → j < k + n → mtch x j = false) → opFrom x n k = 0
  | 0, _, _ => rfl
  | n + 1, k, h => by
    unfold opFrom
    rw [if_neg (by rw [h k (by omega) (by omega)]; simp)]
    exact opFrom_no x n (k + 1) (fun j h1 h2 => h j (by omega) (by omega))
theorem opOf_le (x : Nat) : opOf x ≤ 48 := by
  rcases opFrom_le x 48 1 with h | h
  · unfold opOf; omega
  · unfold opOf; omega

theorem fixedOf_lt (f : Nat) : fixedOf f < 4294967296 := by
  unfold fixedOf
  split <;> omega

end Go.Proofs.Ytckjihpdjefpgaa
