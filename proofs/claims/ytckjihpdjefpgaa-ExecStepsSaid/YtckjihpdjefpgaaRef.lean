
/- The reference's number of a word's instruction is the one that the masks tell. -/
import Derived.Test.YtckjihpdjefpgaaBits2
namespace Go.Proofs.Ytckjihpdjefpgaa
open Go.RowKit

/-! ### The reference's number of an instruction -/
def pickN (l : List Nat) (n : Nat) : Nat := l.getD n 0
def regR (f3 f7 : Nat) : Nat :=
  if f7 = 0 then pickN [28, 30, 31, 32, 33, 34, 36, 37] f3 else if f7 = 1 then pickN [38, 39, 40, 41, 42, 43, 44, 45] f3 else if f7 = 32 ∧ f3 = 0 then 29 else if f7 = 32 ∧ f3 = 5 then 35 else 0
def immR (f3 f7 : Nat) : Nat :=
  if f3 = 1 then (if f7 = 0 then 25 else 0) else if f3 = 5 then (if f7 = 0 then 26 else if f7 = 32 then 27 else 0) else pickN [19, 0, 20, 21, 22, 0, 23, 24] f3
def refTab (o f3 f7 : Nat) : Nat :=
  if o = 55 then 1 else if o = 23 then 2 else if o = 111 then 3 else if o = 103 then pickN [4] f3 else if o = 99 then pickN [5, 6, 0, 0, 7, 8, 9, 10] f3
  else if o = 3 then pickN [11, 12, 13, 0, 14, 15] f3 else if o = 35 then pickN [16, 17, 18] f3 else if o = 19 then immR f3 f7 else if o = 51 then regR f3 f7 else 0
def refOp (x : Nat) : Nat := if x = 15 then 46 else if x = 115 then 47 else if x = 1048691 then 48 else refTab (field x 0 7) (field x 12 3) (field x 25 7)

theorem and_127 (x : Nat) : x &&& 127 = x % 128 := Nat.and_two_pow_sub_one_eq_mod x 7
theorem and_shl (x a s : Nat) : x &&& ((2 ^ s - 1) * 2 ^ a) = (x / 2 ^ a % 2 ^ s) * 2 ^ a := by
  apply Nat.eq_of_testBit_eq
  intro j
  rw [Nat.testBit_and, Nat.testBit_mul_two_pow, Nat.testBit_mul_two_pow, Nat.testBit_two_pow_sub_one, Nat.testBit_mod_two_pow, Nat.testBit_div_two_pow]
  by_cases h : a ≤ j
  · rw [show j - a + a = j by omega]
    simp [h, Bool.and_comm]
  · simp [h]
theorem and_28799 (x : Nat) : x &&& 28799 = x % 128 + x / 4096 % 8 * 4096 := by
  have h : (28799 : Nat) = 127 ||| ((2 ^ 3 - 1) * 2 ^ 12) := by decide
  rw [h, Nat.and_or_distrib_left, and_127, and_shl, Nat.or_comm, Nat.mul_comm, ← Nat.two_pow_add_eq_or_of_lt (by omega)]
  omega
theorem and_F7 (x : Nat) (hx : x < 4294967296) : x &&& 4261441663 = x % 128 + x / 4096 % 8 * 4096 + x / 33554432 * 33554432 := by
  have h : (4261441663 : Nat) = 28799 ||| ((2 ^ 7 - 1) * 2 ^ 25) := by decide
  rw [h, Nat.and_or_distrib_left, and_28799, and_shl, Nat.or_comm, Nat.mul_comm (x / 2 ^ 25 % 2 ^ 7), ← Nat.two_pow_add_eq_or_of_lt (by omega)]
  omega
theorem and_all (x : Nat) (hx : x < 4294967296) : x &&& 4294967295 = x := by
  have := Nat.and_two_pow_sub_one_eq_mod x 32
  rw [show (2 : Nat) ^ 32 - 1 = 4294967295 by decide] at this
  rw [this]
  omega
/-- What a word must be to be matched by an instruction, by fields. -/
def shapeF (x f : Nat) : Nat :=
  if f = 6 ∨ f = 7 then field x 0 7
  else if f = 1 ∨ f = 3 then field x 0 7 + field x 12 3 * 4096 + field x 25 7 * 33554432
  else if f = 8 then x else field x 0 7 + field x 12 3 * 4096
theorem mask_shape (x f : Nat) (hx : x < 4294967296) (hk : 1 ≤ f ∧ f ≤ 8) : x &&& fixedOf f = shapeF x f := by
  have e7 : field x 25 7 = x / 33554432 := by unfold field; omega
  have e3 : field x 12 3 = x / 4096 % 8 := by unfold field; omega
  have e0 : field x 0 7 = x % 128 := by unfold field; omega
  have hc : f = 1 ∨ f = 2 ∨ f = 3 ∨ f = 4 ∨ f = 5 ∨ f = 6 ∨ f = 7 ∨ f = 8 := by omega
  rcases hc with rfl | rfl | rfl | rfl | rfl | rfl | rfl | rfl
  · show x &&& 4261441663 = field x 0 7 + field x 12 3 * 4096 + field x 25 7 * 33554432
    rw [and_F7 x hx, e7, e3, e0]
  · show x &&& 28799 = field x 0 7 + field x 12 3 * 4096
    rw [and_28799, e3, e0]
  · show x &&& 4261441663 = field x 0 7 + field x 12 3 * 4096 + field x 25 7 * 33554432
    rw [and_F7 x hx, e7, e3, e0]
  · show x &&& 28799 = field x 0 7 + field x 12 3 * 4096
    rw [and_28799, e3, e0]
  · show x &&& 28799 = field x 0 7 + field x 12 3 * 4096
    rw [and_28799, e3, e0]
  · show x &&& 127 = field x 0 7
    rw [and_127, e0]
  · show x &&& 127 = field x 0 7
    rw [and_127, e0]
  · show x &&& 4294967295 = x
    exact and_all x hx
theorem field_0 (x : Nat) : field x 0 7 = x % 128 := by unfold field; omega
theorem pick_lt {l : List Nat} {n k : Nat} (h : pickN l n = k) (hk : k ≠ 0) : n < l.length := by
  unfold pickN at h
  by_cases hn : n < l.length
  · exact hn
  · rw [List.getD_eq_getElem?_getD, List.getElem?_eq_none (by omega)] at h
    exact absurd h.symm hk
def shapeT (o f3 f7 k : Nat) : Nat :=
  if formOf k = 6 ∨ formOf k = 7 then o else if formOf k = 1 ∨ formOf k = 3 then o + f3 * 4096 + f7 * 33554432 else o + f3 * 4096
theorem tab_shape (o f3 f7 : Nat) (h : refTab o f3 f7 ≠ 0) : refTab o f3 f7 < 46 ∧ shapeT o f3 f7 (refTab o f3 f7) = code (refTab o f3 f7) := by
  revert h
  have p8 : ∀ (l : List Nat) (P : Nat → Prop), l.length ≤ 8 → (∀ n, n < l.length → pickN l n ≠ 0 → P n) → pickN l f3 ≠ 0 → P f3 := fun l P _ hP h => hP f3 (pick_lt rfl h) h
  unfold refTab
  split
  · subst o; intro _; exact ⟨by decide, rfl⟩
  split
  · subst o; intro _; exact ⟨by decide, rfl⟩
  split
  · subst o; intro _; exact ⟨by decide, rfl⟩
  split
  · subst o; exact p8 [4] (fun n => pickN [4] n < 46 ∧ shapeT 103 n f7 (pickN [4] n) = code (pickN [4] n)) (by decide) (fun n hn => by
      have hn' : n < 1 := hn
      have hc : n = 0 := by omega
      rcases hc with rfl <;> intro h <;> first | exact absurd rfl h | exact ⟨by decide, rfl⟩)
  split
  · subst o; exact p8 [5, 6, 0, 0, 7, 8, 9, 10] (fun n => pickN [5, 6, 0, 0, 7, 8, 9, 10] n < 46 ∧ shapeT 99 n f7 (pickN [5, 6, 0, 0, 7, 8, 9, 10] n) = code (pickN [5, 6, 0, 0, 7, 8, 9, 10] n)) (by decide) (fun n hn => by
      have hn' : n < 8 := hn
      have hc : n = 0 ∨ n = 1 ∨ n = 2 ∨ n = 3 ∨ n = 4 ∨ n = 5 ∨ n = 6 ∨ n = 7 := by omega
      rcases hc with rfl | rfl | rfl | rfl | rfl | rfl | rfl | rfl <;> intro h <;> first | exact absurd rfl h | exact ⟨by decide, rfl⟩)
  split
  · subst o; exact p8 [11, 12, 13, 0, 14, 15] (fun n => pickN [11, 12, 13, 0, 14, 15] n < 46 ∧ shapeT 3 n f7 (pickN [11, 12, 13, 0, 14, 15] n) = code (pickN [11, 12, 13, 0, 14, 15] n)) (by decide) (fun n hn => by
      have hn' : n < 6 := hn
      have hc : n = 0 ∨ n = 1 ∨ n = 2 ∨ n = 3 ∨ n = 4 ∨ n = 5 := by omega
      rcases hc with rfl | rfl | rfl | rfl | rfl | rfl <;> intro h <;> first | exact absurd rfl h | exact ⟨by decide, rfl⟩)
  split
  · subst o; exact p8 [16, 17, 18] (fun n => pickN [16, 17, 18] n < 46 ∧ shapeT 35 n f7 (pickN [16, 17, 18] n) = code (pickN [16, 17, 18] n)) (by decide) (fun n hn => by
      have hn' : n < 3 := hn
      have hc : n = 0 ∨ n = 1 ∨ n = 2 := by omega
      rcases hc with rfl | rfl | rfl <;> intro h <;> first | exact absurd rfl h | exact ⟨by decide, rfl⟩)
  split
  · subst o
    unfold immR
    split
    · subst f3
      split
      · subst f7; intro _; exact ⟨by decide, rfl⟩
      · intro h; exact absurd rfl h
    split
    · subst f3
      split
      · subst f7; intro _; exact ⟨by decide, rfl⟩
      split
      · subst f7; intro _; exact ⟨by decide, rfl⟩
      · intro h; exact absurd rfl h
    · exact p8 [19, 0, 20, 21, 22, 0, 23, 24] (fun n => pickN [19, 0, 20, 21, 22, 0, 23, 24] n < 46 ∧ shapeT 19 n f7 (pickN [19, 0, 20, 21, 22, 0, 23, 24] n) = code (pickN [19, 0, 20, 21, 22, 0, 23, 24] n)) (by decide) (fun n hn => by
        have hn' : n < 8 := hn
        have hc : n = 0 ∨ n = 1 ∨ n = 2 ∨ n = 3 ∨ n = 4 ∨ n = 5 ∨ n = 6 ∨ n = 7 := by omega
        rcases hc with rfl | rfl | rfl | rfl | rfl | rfl | rfl | rfl <;> intro h <;> first | exact absurd rfl h | exact ⟨by decide, rfl⟩)
  split
  · subst o
    unfold regR
    split
    · subst f7; exact p8 [28, 30, 31, 32, 33, 34, 36, 37] (fun n => pickN [28, 30, 31, 32, 33, 34, 36, 37] n < 46 ∧ shapeT 51 n 0 (pickN [28, 30, 31, 32, 33, 34, 36, 37] n) = code (pickN [28, 30, 31, 32, 33, 34, 36, 37] n)) (by decide) (fun n hn => by
        have hn' : n < 8 := hn
        have hc : n = 0 ∨ n = 1 ∨ n = 2 ∨ n = 3 ∨ n = 4 ∨ n = 5 ∨ n = 6 ∨ n = 7 := by omega
        rcases hc with rfl | rfl | rfl | rfl | rfl | rfl | rfl | rfl <;> intro h <;> first | exact absurd rfl h | exact ⟨by decide, rfl⟩)
    split
    · subst f7; exact p8 [38, 39, 40, 41, 42, 43, 44, 45] (fun n => pickN [38, 39, 40, 41, 42, 43, 44, 45] n < 46 ∧ shapeT 51 n 1 (pickN [38, 39, 40, 41, 42, 43, 44, 45] n) = code (pickN [38, 39, 40, 41, 42, 43, 44, 45] n)) (by decide) (fun n hn => by
        have hn' : n < 8 := hn
        have hc : n = 0 ∨ n = 1 ∨ n = 2 ∨ n = 3 ∨ n = 4 ∨ n = 5 ∨ n = 6 ∨ n = 7 := by omega
        rcases hc with rfl | rfl | rfl | rfl | rfl | rfl | rfl | rfl <;> intro h <;> first | exact absurd rfl h | exact ⟨by decide, rfl⟩)
    split
    · rename_i h; obtain ⟨rfl, rfl⟩ := h; intro _; exact ⟨by decide, rfl⟩
    split
    · rename_i h; obtain ⟨rfl, rfl⟩ := h; intro _; exact ⟨by decide, rfl⟩
    · intro h; exact absurd rfl h
  · intro h; exact absurd rfl h
theorem ref_of_shape (x k : Nat) (hx : x < 4294967296) (h1 : 1 ≤ k) (h2 : k ≤ 48) (h : shapeF x (formOf k) = code k) : refOp x = k := by
  have e0 := field_0 x
  have b3 : field x 12 3 < 8 := field_lt x 12 3
  have b7 : field x 25 7 < 128 := field_lt x 25 7
  have hc : k = 1 ∨ k = 2 ∨ k = 3 ∨ k = 4 ∨ k = 5 ∨ k = 6 ∨ k = 7 ∨ k = 8 ∨ k = 9 ∨ k = 10 ∨ k = 11 ∨ k = 12 ∨ k = 13 ∨ k = 14 ∨ k = 15 ∨ k = 16 ∨ k = 17 ∨ k = 18 ∨ k = 19 ∨ k = 20 ∨ k = 21 ∨ k = 22 ∨ k = 23 ∨ k = 24 ∨ k = 25 ∨ k = 26 ∨ k = 27 ∨ k = 28 ∨ k = 29 ∨ k = 30 ∨ k = 31 ∨ k = 32 ∨ k = 33 ∨ k = 34 ∨ k = 35 ∨ k = 36 ∨ k = 37 ∨ k = 38 ∨ k = 39 ∨ k = 40 ∨ k = 41 ∨ k = 42 ∨ k = 43 ∨ k = 44 ∨ k = 45 ∨ k = 46 ∨ k = 47 ∨ k = 48 := by omega
  rcases hc with rfl | rfl | rfl | rfl | rfl | rfl | rfl | rfl | rfl | rfl | rfl | rfl | rfl | rfl | rfl | rfl | rfl | rfl | rfl | rfl | rfl | rfl | rfl | rfl | rfl | rfl | rfl | rfl | rfl | rfl | rfl | rfl | rfl | rfl | rfl | rfl | rfl | rfl | rfl | rfl | rfl | rfl | rfl | rfl | rfl | rfl | rfl | rfl
  · have h' : field x 0 7 = 55 := h
    have a1 : field x 0 7 = 55 := by omega
    unfold refOp
    rw [if_neg (by omega), if_neg (by omega), if_neg (by omega), a1]
    rfl
  · have h' : field x 0 7 = 23 := h
    have a1 : field x 0 7 = 23 := by omega
    unfold refOp
    rw [if_neg (by omega), if_neg (by omega), if_neg (by omega), a1]
    rfl
  · have h' : field x 0 7 = 111 := h
    have a1 : field x 0 7 = 111 := by omega
    unfold refOp
    rw [if_neg (by omega), if_neg (by omega), if_neg (by omega), a1]
    rfl
  · have h' : field x 0 7 + field x 12 3 * 4096 = 103 := h
    have a1 : field x 0 7 = 103 := by omega
    have a2 : field x 12 3 = 0 := by omega
    unfold refOp
    rw [if_neg (by omega), if_neg (by omega), if_neg (by omega), a1, a2]
    rfl
  · have h' : field x 0 7 + field x 12 3 * 4096 = 99 := h
    have a1 : field x 0 7 = 99 := by omega
    have a2 : field x 12 3 = 0 := by omega
    unfold refOp
    rw [if_neg (by omega), if_neg (by omega), if_neg (by omega), a1, a2]
    rfl
  · have h' : field x 0 7 + field x 12 3 * 4096 = 4195 := h
    have a1 : field x 0 7 = 99 := by omega
    have a2 : field x 12 3 = 1 := by omega
    unfold refOp
    rw [if_neg (by omega), if_neg (by omega), if_neg (by omega), a1, a2]
    rfl
  · have h' : field x 0 7 + field x 12 3 * 4096 = 16483 := h
    have a1 : field x 0 7 = 99 := by omega
    have a2 : field x 12 3 = 4 := by omega
    unfold refOp
    rw [if_neg (by omega), if_neg (by omega), if_neg (by omega), a1, a2]
    rfl
  · have h' : field x 0 7 + field x 12 3 * 4096 = 20579 := h
    have a1 : field x 0 7 = 99 := by omega
    have a2 : field x 12 3 = 5 := by omega
    unfold refOp
    rw [if_neg (by omega), if_neg (by omega), if_neg (by omega), a1, a2]
    rfl
  · have h' : field x 0 7 + field x 12 3 * 4096 = 24675 := h
    have a1 : field x 0 7 = 99 := by omega
    have a2 : field x 12 3 = 6 := by omega
    unfold refOp
    rw [if_neg (by omega), if_neg (by omega), if_neg (by omega), a1, a2]
    rfl
  · have h' : field x 0 7 + field x 12 3 * 4096 = 28771 := h
    have a1 : field x 0 7 = 99 := by omega
    have a2 : field x 12 3 = 7 := by omega
    unfold refOp
    rw [if_neg (by omega), if_neg (by omega), if_neg (by omega), a1, a2]
    rfl
  · have h' : field x 0 7 + field x 12 3 * 4096 = 3 := h
    have a1 : field x 0 7 = 3 := by omega
    have a2 : field x 12 3 = 0 := by omega
    unfold refOp
    rw [if_neg (by omega), if_neg (by omega), if_neg (by omega), a1, a2]
    rfl
  · have h' : field x 0 7 + field x 12 3 * 4096 = 4099 := h
    have a1 : field x 0 7 = 3 := by omega
    have a2 : field x 12 3 = 1 := by omega
    unfold refOp
    rw [if_neg (by omega), if_neg (by omega), if_neg (by omega), a1, a2]
    rfl
  · have h' : field x 0 7 + field x 12 3 * 4096 = 8195 := h
    have a1 : field x 0 7 = 3 := by omega
    have a2 : field x 12 3 = 2 := by omega
    unfold refOp
    rw [if_neg (by omega), if_neg (by omega), if_neg (by omega), a1, a2]
    rfl
  · have h' : field x 0 7 + field x 12 3 * 4096 = 16387 := h
    have a1 : field x 0 7 = 3 := by omega
    have a2 : field x 12 3 = 4 := by omega
    unfold refOp
    rw [if_neg (by omega), if_neg (by omega), if_neg (by omega), a1, a2]
    rfl
  · have h' : field x 0 7 + field x 12 3 * 4096 = 20483 := h
    have a1 : field x 0 7 = 3 := by omega
    have a2 : field x 12 3 = 5 := by omega
    unfold refOp
    rw [if_neg (by omega), if_neg (by omega), if_neg (by omega), a1, a2]
    rfl
  · have h' : field x 0 7 + field x 12 3 * 4096 = 35 := h
    have a1 : field x 0 7 = 35 := by omega
    have a2 : field x 12 3 = 0 := by omega
    unfold refOp
    rw [if_neg (by omega), if_neg (by omega), if_neg (by omega), a1, a2]
    rfl
  · have h' : field x 0 7 + field x 12 3 * 4096 = 4131 := h
    have a1 : field x 0 7 = 35 := by omega
    have a2 : field x 12 3 = 1 := by omega
    unfold refOp
    rw [if_neg (by omega), if_neg (by omega), if_neg (by omega), a1, a2]
    rfl
  · have h' : field x 0 7 + field x 12 3 * 4096 = 8227 := h
    have a1 : field x 0 7 = 35 := by omega
    have a2 : field x 12 3 = 2 := by omega
    unfold refOp
    rw [if_neg (by omega), if_neg (by omega), if_neg (by omega), a1, a2]
    rfl
  · have h' : field x 0 7 + field x 12 3 * 4096 = 19 := h
    have a1 : field x 0 7 = 19 := by omega
    have a2 : field x 12 3 = 0 := by omega
    unfold refOp
    rw [if_neg (by omega), if_neg (by omega), if_neg (by omega), a1, a2]
    rfl
  · have h' : field x 0 7 + field x 12 3 * 4096 = 8211 := h
    have a1 : field x 0 7 = 19 := by omega
    have a2 : field x 12 3 = 2 := by omega
    unfold refOp
    rw [if_neg (by omega), if_neg (by omega), if_neg (by omega), a1, a2]
    rfl
  · have h' : field x 0 7 + field x 12 3 * 4096 = 12307 := h
    have a1 : field x 0 7 = 19 := by omega
    have a2 : field x 12 3 = 3 := by omega
    unfold refOp
    rw [if_neg (by omega), if_neg (by omega), if_neg (by omega), a1, a2]
    rfl
  · have h' : field x 0 7 + field x 12 3 * 4096 = 16403 := h
    have a1 : field x 0 7 = 19 := by omega
    have a2 : field x 12 3 = 4 := by omega
    unfold refOp
    rw [if_neg (by omega), if_neg (by omega), if_neg (by omega), a1, a2]
    rfl
  · have h' : field x 0 7 + field x 12 3 * 4096 = 24595 := h
    have a1 : field x 0 7 = 19 := by omega
    have a2 : field x 12 3 = 6 := by omega
    unfold refOp
    rw [if_neg (by omega), if_neg (by omega), if_neg (by omega), a1, a2]
    rfl
  · have h' : field x 0 7 + field x 12 3 * 4096 = 28691 := h
    have a1 : field x 0 7 = 19 := by omega
    have a2 : field x 12 3 = 7 := by omega
    unfold refOp
    rw [if_neg (by omega), if_neg (by omega), if_neg (by omega), a1, a2]
    rfl
  · have h' : field x 0 7 + field x 12 3 * 4096 + field x 25 7 * 33554432 = 4115 := h
    have a1 : field x 0 7 = 19 := by omega
    have a2 : field x 12 3 = 1 := by omega
    have a3 : field x 25 7 = 0 := by omega
    unfold refOp
    rw [if_neg (by omega), if_neg (by omega), if_neg (by omega), a1, a2, a3]
    rfl
  · have h' : field x 0 7 + field x 12 3 * 4096 + field x 25 7 * 33554432 = 20499 := h
    have a1 : field x 0 7 = 19 := by omega
    have a2 : field x 12 3 = 5 := by omega
    have a3 : field x 25 7 = 0 := by omega
    unfold refOp
    rw [if_neg (by omega), if_neg (by omega), if_neg (by omega), a1, a2, a3]
    rfl
  · have h' : field x 0 7 + field x 12 3 * 4096 + field x 25 7 * 33554432 = 1073762323 := h
    have a1 : field x 0 7 = 19 := by omega
    have a2 : field x 12 3 = 5 := by omega
    have a3 : field x 25 7 = 32 := by omega
    unfold refOp
    rw [if_neg (by omega), if_neg (by omega), if_neg (by omega), a1, a2, a3]
    rfl
  · have h' : field x 0 7 + field x 12 3 * 4096 + field x 25 7 * 33554432 = 51 := h
    have a1 : field x 0 7 = 51 := by omega
    have a2 : field x 12 3 = 0 := by omega
    have a3 : field x 25 7 = 0 := by omega
    unfold refOp
    rw [if_neg (by omega), if_neg (by omega), if_neg (by omega), a1, a2, a3]
    rfl
  · have h' : field x 0 7 + field x 12 3 * 4096 + field x 25 7 * 33554432 = 1073741875 := h
    have a1 : field x 0 7 = 51 := by omega
    have a2 : field x 12 3 = 0 := by omega
    have a3 : field x 25 7 = 32 := by omega
    unfold refOp
    rw [if_neg (by omega), if_neg (by omega), if_neg (by omega), a1, a2, a3]
    rfl
  · have h' : field x 0 7 + field x 12 3 * 4096 + field x 25 7 * 33554432 = 4147 := h
    have a1 : field x 0 7 = 51 := by omega
    have a2 : field x 12 3 = 1 := by omega
    have a3 : field x 25 7 = 0 := by omega
    unfold refOp
    rw [if_neg (by omega), if_neg (by omega), if_neg (by omega), a1, a2, a3]
    rfl
  · have h' : field x 0 7 + field x 12 3 * 4096 + field x 25 7 * 33554432 = 8243 := h
    have a1 : field x 0 7 = 51 := by omega
    have a2 : field x 12 3 = 2 := by omega
    have a3 : field x 25 7 = 0 := by omega
    unfold refOp
    rw [if_neg (by omega), if_neg (by omega), if_neg (by omega), a1, a2, a3]
    rfl
  · have h' : field x 0 7 + field x 12 3 * 4096 + field x 25 7 * 33554432 = 12339 := h
    have a1 : field x 0 7 = 51 := by omega
    have a2 : field x 12 3 = 3 := by omega
    have a3 : field x 25 7 = 0 := by omega
    unfold refOp
    rw [if_neg (by omega), if_neg (by omega), if_neg (by omega), a1, a2, a3]
    rfl
  · have h' : field x 0 7 + field x 12 3 * 4096 + field x 25 7 * 33554432 = 16435 := h
    have a1 : field x 0 7 = 51 := by omega
    have a2 : field x 12 3 = 4 := by omega
    have a3 : field x 25 7 = 0 := by omega
    unfold refOp
    rw [if_neg (by omega), if_neg (by omega), if_neg (by omega), a1, a2, a3]
    rfl
  · have h' : field x 0 7 + field x 12 3 * 4096 + field x 25 7 * 33554432 = 20531 := h
    have a1 : field x 0 7 = 51 := by omega
    have a2 : field x 12 3 = 5 := by omega
    have a3 : field x 25 7 = 0 := by omega
    unfold refOp
    rw [if_neg (by omega), if_neg (by omega), if_neg (by omega), a1, a2, a3]
    rfl
  · have h' : field x 0 7 + field x 12 3 * 4096 + field x 25 7 * 33554432 = 1073762355 := h
    have a1 : field x 0 7 = 51 := by omega
    have a2 : field x 12 3 = 5 := by omega
    have a3 : field x 25 7 = 32 := by omega
    unfold refOp
    rw [if_neg (by omega), if_neg (by omega), if_neg (by omega), a1, a2, a3]
    rfl
  · have h' : field x 0 7 + field x 12 3 * 4096 + field x 25 7 * 33554432 = 24627 := h
    have a1 : field x 0 7 = 51 := by omega
    have a2 : field x 12 3 = 6 := by omega
    have a3 : field x 25 7 = 0 := by omega
    unfold refOp
    rw [if_neg (by omega), if_neg (by omega), if_neg (by omega), a1, a2, a3]
    rfl
  · have h' : field x 0 7 + field x 12 3 * 4096 + field x 25 7 * 33554432 = 28723 := h
    have a1 : field x 0 7 = 51 := by omega
    have a2 : field x 12 3 = 7 := by omega
    have a3 : field x 25 7 = 0 := by omega
    unfold refOp
    rw [if_neg (by omega), if_neg (by omega), if_neg (by omega), a1, a2, a3]
    rfl
  · have h' : field x 0 7 + field x 12 3 * 4096 + field x 25 7 * 33554432 = 33554483 := h
    have a1 : field x 0 7 = 51 := by omega
    have a2 : field x 12 3 = 0 := by omega
    have a3 : field x 25 7 = 1 := by omega
    unfold refOp
    rw [if_neg (by omega), if_neg (by omega), if_neg (by omega), a1, a2, a3]
    rfl
  · have h' : field x 0 7 + field x 12 3 * 4096 + field x 25 7 * 33554432 = 33558579 := h
    have a1 : field x 0 7 = 51 := by omega
    have a2 : field x 12 3 = 1 := by omega
    have a3 : field x 25 7 = 1 := by omega
    unfold refOp
    rw [if_neg (by omega), if_neg (by omega), if_neg (by omega), a1, a2, a3]
    rfl
  · have h' : field x 0 7 + field x 12 3 * 4096 + field x 25 7 * 33554432 = 33562675 := h
    have a1 : field x 0 7 = 51 := by omega
    have a2 : field x 12 3 = 2 := by omega
    have a3 : field x 25 7 = 1 := by omega
    unfold refOp
    rw [if_neg (by omega), if_neg (by omega), if_neg (by omega), a1, a2, a3]
    rfl
  · have h' : field x 0 7 + field x 12 3 * 4096 + field x 25 7 * 33554432 = 33566771 := h
    have a1 : field x 0 7 = 51 := by omega
    have a2 : field x 12 3 = 3 := by omega
    have a3 : field x 25 7 = 1 := by omega
    unfold refOp
    rw [if_neg (by omega), if_neg (by omega), if_neg (by omega), a1, a2, a3]
    rfl
  · have h' : field x 0 7 + field x 12 3 * 4096 + field x 25 7 * 33554432 = 33570867 := h
    have a1 : field x 0 7 = 51 := by omega
    have a2 : field x 12 3 = 4 := by omega
    have a3 : field x 25 7 = 1 := by omega
    unfold refOp
    rw [if_neg (by omega), if_neg (by omega), if_neg (by omega), a1, a2, a3]
    rfl
  · have h' : field x 0 7 + field x 12 3 * 4096 + field x 25 7 * 33554432 = 33574963 := h
    have a1 : field x 0 7 = 51 := by omega
    have a2 : field x 12 3 = 5 := by omega
    have a3 : field x 25 7 = 1 := by omega
    unfold refOp
    rw [if_neg (by omega), if_neg (by omega), if_neg (by omega), a1, a2, a3]
    rfl
  · have h' : field x 0 7 + field x 12 3 * 4096 + field x 25 7 * 33554432 = 33579059 := h
    have a1 : field x 0 7 = 51 := by omega
    have a2 : field x 12 3 = 6 := by omega
    have a3 : field x 25 7 = 1 := by omega
    unfold refOp
    rw [if_neg (by omega), if_neg (by omega), if_neg (by omega), a1, a2, a3]
    rfl
  · have h' : field x 0 7 + field x 12 3 * 4096 + field x 25 7 * 33554432 = 33583155 := h
    have a1 : field x 0 7 = 51 := by omega
    have a2 : field x 12 3 = 7 := by omega
    have a3 : field x 25 7 = 1 := by omega
    unfold refOp
    rw [if_neg (by omega), if_neg (by omega), if_neg (by omega), a1, a2, a3]
    rfl
  · have h' : x = 15 := h
    subst h'
    rfl
  · have h' : x = 115 := h
    subst h'
    rfl
  · have h' : x = 1048691 := h
    subst h'
    rfl

theorem form_not8 : ∀ k : Nat, k < 46 → formOf k ≠ 8 := by decide
theorem shape_of_ref (x : Nat) (h : refOp x ≠ 0) : refOp x ≤ 48 ∧ shapeF x (formOf (refOp x)) = code (refOp x) := by
  revert h
  unfold refOp
  split
  · subst x; intro _; exact ⟨by decide, rfl⟩
  split
  · subst x; intro _; exact ⟨by decide, rfl⟩
  split
  · subst x; intro _; exact ⟨by decide, rfl⟩
  intro h
  obtain ⟨h1, h2⟩ := tab_shape _ _ _ h
  refine ⟨by omega, ?_⟩
  have h8 := form_not8 _ h1
  rw [← h2]
  unfold shapeF shapeT
  rw [if_neg h8]

theorem ref_is (x : Nat) (hx : x < 4294967296) : opOf x = refOp x := by
  by_cases h0 : opOf x = 0
  · by_cases hr : refOp x = 0
    · rw [h0, hr]
    · obtain ⟨h1, h2⟩ := shape_of_ref x hr
      refine opOf_is x _ ⟨by omega, h1⟩ ?_
      unfold mtch
      rw [mask_shape x _ hx ⟨formOf_pos _ ⟨by omega, by omega⟩, formOf_le _⟩]
      exact beq_iff_eq.2 h2
  · obtain ⟨h1, h2, h3⟩ := opOf_mtch x h0
    have h4 : x &&& fixedOf (formOf (opOf x)) = code (opOf x) := beq_iff_eq.1 h3
    rw [mask_shape x _ hx ⟨formOf_pos _ ⟨by omega, by omega⟩, formOf_le _⟩] at h4
    exact (ref_of_shape x _ hx h1 h2 h4).symm
end Go.Proofs.Ytckjihpdjefpgaa
