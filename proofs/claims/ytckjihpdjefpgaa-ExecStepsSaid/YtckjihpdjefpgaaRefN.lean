
/- The reference's words bit by bit, and its numbers, in plain terms. -/
import Derived.Test.YtckjihpdjefpgaaRef
namespace Go.Proofs.Ytckjihpdjefpgaa
open Go.RowKit

def ofN (l : List Nat) : Nat := l.foldr (fun b v => 2 * v + b) 0
theorem ofN_cons (b : Nat) (l : List Nat) : ofN (b :: l) = 2 * ofN l + b := rfl
theorem ofN_lt : ∀ (l : List Nat), (∀ b ∈ l, b < 2) → ofN l < 2 ^ l.length
  | [], _ => by simp [ofN]
  | b :: l, h => by
    have h1 := ofN_lt l fun c hc => h c (by simp [hc])
    have h2 := h b (by simp)
    rw [ofN_cons, List.length_cons, Nat.pow_succ]
    omega
theorem tb_ofN : ∀ (l : List Nat), (∀ b ∈ l, b < 2) → ∀ j, (ofN l).testBit j = decide (l.getD j 0 = 1)
  | [], _, j => by simp [ofN]
  | b :: l, hl, 0 => by
    have h1 := hl b (by simp)
    rw [ofN_cons, tb_one]
    simp only [Nat.pow_zero, Nat.div_one, List.getD_cons_zero]
    congr 1
    rw [show (2 * ofN l + b) % 2 = b by omega]
  | b :: l, hl, j + 1 => by
    have h1 := hl b (by simp)
    rw [ofN_cons, Nat.testBit_succ, show (2 * ofN l + b) / 2 = ofN l by omega, tb_ofN l (fun c hc => hl c (by simp [hc])) j, List.getD_cons_succ]
def bitsN (x a size : Nat) : List Nat := (List.range size).map fun i => x / 2 ^ (a + i) % 2
theorem bitsN_lt (x a size : Nat) : ∀ b ∈ bitsN x a size, b < 2 := by
  intro b hb
  obtain ⟨i, -, rfl⟩ := List.mem_map.1 hb
  exact Nat.mod_lt _ (by decide)
theorem bitsN_len (x a size : Nat) : (bitsN x a size).length = size := by simp [bitsN]
theorem bitsN_succ (x a size : Nat) : bitsN x a (size + 1) = bitsN x a size ++ [x / 2 ^ (a + size) % 2] := by
  unfold bitsN
  rw [List.range_succ, List.map_append]
  rfl
theorem of_bits (x a size : Nat) : ofN (bitsN x a size) = field x a size := by
  apply Nat.eq_of_testBit_eq
  intro j
  rw [tb_ofN _ (bitsN_lt x a size), tb_field]
  by_cases h : j < size
  · have : (bitsN x a size).getD j 0 = x / 2 ^ (a + j) % 2 := by
      unfold bitsN
      rw [List.getD_eq_getElem?_getD, List.getElem?_map, List.getElem?_range h]
      rfl
    rw [this, tb_one, Nat.add_comm j a]
    simp [h]
  · have : (bitsN x a size).getD j 0 = 0 := by
      rw [List.getD_eq_getElem?_getD, List.getElem?_eq_none (by rw [bitsN_len]; omega)]
      rfl
    rw [this]
    simp [h]
def sextB (x size i : Nat) : Nat := if i < size then x / 2 ^ i % 2 else x / 2 ^ (size - 1) % 2
def sextL (x size n : Nat) : List Nat := (List.range n).map (sextB x size)
theorem sextB_lt (x size i : Nat) : sextB x size i < 2 := by
  unfold sextB
  split <;> exact Nat.mod_lt _ (by decide)
theorem sextL_lt (x size n : Nat) : ∀ b ∈ sextL x size n, b < 2 := by
  intro b hb
  obtain ⟨i, -, rfl⟩ := List.mem_map.1 hb
  exact sextB_lt x size i
theorem sextL_len (x size n : Nat) : (sextL x size n).length = n := by simp [sextL]
theorem sextL_succ (x size n : Nat) : sextL x size (n + 1) = sextL x size n ++ [sextB x size n] := by
  unfold sextL
  rw [List.range_succ, List.map_append]
  rfl
theorem sext_lt32 (x s : Nat) (h2 : s ≤ 32) : sext x s < 4294967296 := sext_lt x s h2
theorem of_sext (x s : Nat) (h1 : 1 ≤ s) (h2 : s ≤ 32) : ofN (sextL x s 32) = sext x s := by
  have hl := ofN_lt _ (sextL_lt x s 32)
  rw [sextL_len] at hl
  refine eq32 hl (sext_lt32 x s h2) fun j hj => ?_
  rw [tb_ofN _ (sextL_lt x s 32), tb_sext x s j h1 h2]
  have : (sextL x s 32).getD j 0 = sextB x s j := by
    unfold sextL
    rw [List.getD_eq_getElem?_getD, List.getElem?_map, List.getElem?_range hj]
    rfl
  rw [this]
  unfold sextB
  by_cases h : j < s
  · rw [if_pos h, if_pos h, tb_one]
  · rw [if_neg h, if_neg h, tb_one]
    simp [hj]

/-- The reference's number, by form (of the code's numbers of forms). -/
def numR (x f : Nat) : Nat :=
  if f = 2 then sext (field x 20 12) 12
  else if f = 4 then sext (field x 7 5 + 32 * field x 25 7) 12
  else if f = 5 then sext (2 * field x 8 4 + 32 * field x 25 6 + 2048 * field x 7 1 + 4096 * field x 31 1) 13
  else if f = 6 then 4096 * field x 12 20
  else if f = 7 then sext (2 * field x 21 10 + 2048 * field x 20 1 + 4096 * field x 12 8 + 1048576 * field x 31 1) 21
  else if f = 3 then field x 20 5 else 0
theorem setf_over (x a s v : Nat) (hx : x < 2 ^ a) (hv : v < 2 ^ s) : setf x a s v = x + 2 ^ a * v := by
  unfold setf
  rw [Nat.div_eq_of_lt (Nat.lt_of_lt_of_le hx (Nat.pow_le_pow_right (by omega) (by omega))), Nat.mod_eq_of_lt hx, Nat.mod_eq_of_lt hv, Nat.mul_zero, Nat.zero_add, Nat.add_comm]
theorem num_is (x f : Nat) (hf : f ≤ 8) : immOf f x = numR x f := by
  have hc : f = 0 ∨ f = 1 ∨ f = 2 ∨ f = 3 ∨ f = 4 ∨ f = 5 ∨ f = 6 ∨ f = 7 ∨ f = 8 := by omega
  rcases hc with rfl | rfl | rfl | rfl | rfl | rfl | rfl | rfl | rfl
  · simp [immOf, numR, gatherN, partsOf, sizes, lowOf, sext]
  · rfl
  · have l1 := field_lt x 20 12
    show sext ((setf 0 0 12 (field x 20 12)) * 2 ^ 0 % 4294967296) 12 = sext (field x 20 12) 12
    rw [setf_over _ _ _ _ (by omega) l1]
    congr 1
    omega
  · have l1 := field_lt x 20 5
    show (setf 0 0 5 (field x 20 5)) * 2 ^ 0 % 4294967296 = field x 20 5
    rw [setf_over _ _ _ _ (by omega) l1]
    omega
  · have l1 := field_lt x 7 5
    have l2 := field_lt x 25 7
    show sext ((setf (setf 0 0 5 (field x 7 5)) 5 7 (field x 25 7)) * 2 ^ 0 % 4294967296) 12 = sext (field x 7 5 + 32 * field x 25 7) 12
    rw [setf_over 0 0 5 _ (by omega) l1, setf_over _ 5 7 _ (by omega) l2]
    congr 1
    omega
  · have l1 := field_lt x 8 4
    have l2 := field_lt x 25 6
    have l3 := field_lt x 7 1
    have l4 := field_lt x 31 1
    show sext ((setf (setf (setf (setf 0 0 4 (field x 8 4)) 4 6 (field x 25 6)) 10 1 (field x 7 1)) 11 1 (field x 31 1)) * 2 ^ 1 % 4294967296) 13 = sext (2 * field x 8 4 + 32 * field x 25 6 + 2048 * field x 7 1 + 4096 * field x 31 1) 13
    rw [setf_over 0 0 4 _ (by omega) l1, setf_over _ 4 6 _ (by omega) l2, setf_over _ 10 1 _ (by omega) l3, setf_over _ 11 1 _ (by omega) l4]
    congr 1
    omega
  · have l1 := field_lt x 12 20
    show sext ((setf 0 0 20 (field x 12 20)) * 2 ^ 12 % 4294967296) 32 = 4096 * field x 12 20
    rw [setf_over 0 0 20 _ (by omega) l1]
    have : sext ((0 + 2 ^ 0 * field x 12 20) * 2 ^ 12 % 4294967296) 32 = (0 + 2 ^ 0 * field x 12 20) * 2 ^ 12 % 4294967296 := by
      unfold sext
      rw [Nat.mod_eq_of_lt (show (0 + 2 ^ 0 * field x 12 20) * 2 ^ 12 % 4294967296 < 2 ^ 32 by omega)]
      split <;> omega
    rw [this]
    omega
  · have l1 := field_lt x 21 10
    have l2 := field_lt x 20 1
    have l3 := field_lt x 12 8
    have l4 := field_lt x 31 1
    show sext ((setf (setf (setf (setf 0 0 10 (field x 21 10)) 10 1 (field x 20 1)) 11 8 (field x 12 8)) 19 1 (field x 31 1)) * 2 ^ 1 % 4294967296) 21 = sext (2 * field x 21 10 + 2048 * field x 20 1 + 4096 * field x 12 8 + 1048576 * field x 31 1) 21
    rw [setf_over 0 0 10 _ (by omega) l1, setf_over _ 10 1 _ (by omega) l2, setf_over _ 11 8 _ (by omega) l3, setf_over _ 19 1 _ (by omega) l4]
    congr 1
    omega
  · rfl
end Go.Proofs.Ytckjihpdjefpgaa
