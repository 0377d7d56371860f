
/- Words bit by bit: what is decoded, encoded, is the word. -/
import Derived.Test.YtckjihpdjefpgaaInst5
namespace Go.Proofs.Ytckjihpdjefpgaa
open Go.RowKit

theorem tb_setf (x a s v j : Nat) : (setf x a s v).testBit j = if j < a then x.testBit j else if j - a < s then v.testBit (j - a) else x.testBit j := by
  unfold setf
  rw [Nat.testBit_two_pow_mul_add _ (Nat.mod_lt _ (Nat.two_pow_pos _))]
  by_cases h1 : j < a
  · rw [if_pos h1, if_pos h1, Nat.testBit_mod_two_pow]
    simp [h1]
  · rw [if_neg h1, if_neg h1, Nat.testBit_two_pow_mul_add _ (Nat.mod_lt _ (Nat.two_pow_pos _))]
    by_cases h2 : j - a < s
    · rw [if_pos h2, if_pos h2, Nat.testBit_mod_two_pow]
      simp [h2]
    · rw [if_neg h2, if_neg h2, Nat.testBit_div_two_pow]
      congr 1
      omega
theorem tb_field (x a s j : Nat) : (field x a s).testBit j = (decide (j < s) && x.testBit (j + a)) := by
  unfold field
  rw [Nat.testBit_mod_two_pow, Nat.testBit_div_two_pow, Nat.add_comm]
theorem tb_one (x n : Nat) : x.testBit n = decide (x / 2 ^ n % 2 = 1) := by
  rw [Nat.testBit_eq_decide_div_mod_eq]
theorem tb_sext (x s j : Nat) (h1 : 1 ≤ s) (h2 : s ≤ 32) : (sext x s).testBit j = if j < s then x.testBit j else (decide (j < 32) && x.testBit (s - 1)) := by
  unfold sext
  have hp := pow_le32 h2
  have hb := tb_one x (s - 1)
  have hsplit : 4294967296 - 2 ^ s = 2 ^ s * (2 ^ (32 - s) - 1) := by
    rw [Nat.mul_sub, Nat.mul_one, ← Nat.pow_add, show s + (32 - s) = 32 by omega]
  by_cases hb1 : x / 2 ^ (s - 1) % 2 = 1
  · rw [if_pos hb1, hb, hsplit, Nat.add_comm, Nat.testBit_two_pow_mul_add _ (Nat.mod_lt _ (Nat.two_pow_pos _)), Nat.testBit_mod_two_pow, Nat.testBit_two_pow_sub_one]
    by_cases h3 : j < s
    · simp [h3]
    · rw [if_neg h3, if_neg h3]
      by_cases h4 : j < 32
      · have : j - s < 32 - s := by omega
        simp [this, h4, hb1]
      · have : ¬ j - s < 32 - s := by omega
        simp [this, h4]
  · rw [if_neg hb1, hb, Nat.testBit_mod_two_pow]
    by_cases h3 : j < s
    · simp [h3]
    · simp [h3, hb1]
theorem tb_shl (v low j : Nat) : (v * 2 ^ low % 4294967296).testBit j = (decide (j < 32) && (decide (low ≤ j) && v.testBit (j - low))) := by
  rw [show (4294967296 : Nat) = 2 ^ 32 by decide, Nat.testBit_mod_two_pow, Nat.testBit_mul_two_pow]
theorem tb_shr (v low j : Nat) : (v / 2 ^ low).testBit j = v.testBit (j + low) := by
  rw [Nat.testBit_div_two_pow, Nat.add_comm]

def encW (i : SI) : Nat :=
  let f := formOf i.op
  let w0 := code i.op.toNat ||| (scatterN (i.imm / 2 ^ lowOf f) (partsOf f)).1
  let w1 := if hasRd f then setf w0 7 5 (i.rd % 4294967296).toNat else w0
  let w2 := if hasRs1 f then setf w1 15 5 (i.rs1 % 4294967296).toNat else w1
  if hasRs2 f then setf w2 20 5 (i.rs2 % 4294967296).toNat else w2

theorem reg_nat (n : Nat) (h : n < 32) : ((n : Int) % 4294967296).toNat = n := by omega
theorem eq32 {a b : Nat} (ha : a < 4294967296) (hb : b < 4294967296) (h : ∀ j, j < 32 → a.testBit j = b.testBit j) : a = b := by
  apply Nat.eq_of_testBit_eq
  intro j
  by_cases hj : j < 32
  · exact h j hj
  · have h32 : 4294967296 ≤ 2 ^ j := Nat.le_trans (by decide : 4294967296 ≤ 2 ^ 32) (Nat.pow_le_pow_right (by omega) (by omega))
    rw [Nat.testBit_lt_two_pow (Nat.lt_of_lt_of_le ha h32), Nat.testBit_lt_two_pow (Nat.lt_of_lt_of_le hb h32)]
theorem all32 {P : Nat → Prop} (h : P 0 ∧ P 1 ∧ P 2 ∧ P 3 ∧ P 4 ∧ P 5 ∧ P 6 ∧ P 7 ∧ P 8 ∧ P 9 ∧ P 10 ∧ P 11 ∧ P 12 ∧ P 13 ∧ P 14 ∧ P 15 ∧ P 16 ∧ P 17 ∧ P 18 ∧ P 19 ∧ P 20 ∧ P 21 ∧ P 22 ∧ P 23 ∧ P 24 ∧ P 25 ∧ P 26 ∧ P 27 ∧ P 28 ∧ P 29 ∧ P 30 ∧ P 31) : ∀ j, j < 32 → P j := by
  obtain ⟨h0, h1, h2, h3, h4, h5, h6, h7, h8, h9, h10, h11, h12, h13, h14, h15, h16, h17, h18, h19, h20, h21, h22, h23, h24, h25, h26, h27, h28, h29, h30, h31⟩ := h
  intro j hj
  have hc : j = 0 ∨ j = 1 ∨ j = 2 ∨ j = 3 ∨ j = 4 ∨ j = 5 ∨ j = 6 ∨ j = 7 ∨ j = 8 ∨ j = 9 ∨ j = 10 ∨ j = 11 ∨ j = 12 ∨ j = 13 ∨ j = 14 ∨ j = 15 ∨ j = 16 ∨ j = 17 ∨ j = 18 ∨ j = 19 ∨ j = 20 ∨ j = 21 ∨ j = 22 ∨ j = 23 ∨ j = 24 ∨ j = 25 ∨ j = 26 ∨ j = 27 ∨ j = 28 ∨ j = 29 ∨ j = 30 ∨ j = 31 := by omega
  rcases hc with rfl | rfl | rfl | rfl | rfl | rfl | rfl | rfl | rfl | rfl | rfl | rfl | rfl | rfl | rfl | rfl | rfl | rfl | rfl | rfl | rfl | rfl | rfl | rfl | rfl | rfl | rfl | rfl | rfl | rfl | rfl | rfl
  · exact h0
  · exact h1
  · exact h2
  · exact h3
  · exact h4
  · exact h5
  · exact h6
  · exact h7
  · exact h8
  · exact h9
  · exact h10
  · exact h11
  · exact h12
  · exact h13
  · exact h14
  · exact h15
  · exact h16
  · exact h17
  · exact h18
  · exact h19
  · exact h20
  · exact h21
  · exact h22
  · exact h23
  · exact h24
  · exact h25
  · exact h26
  · exact h27
  · exact h28
  · exact h29
  · exact h30
  · exact h31

theorem r_nat (x a : Nat) : (((field x a 5 : Nat) : Int) % 4294967296).toNat = field x a 5 := reg_nat _ (field_lt x a 5)
theorem tb_mod (v j : Nat) : (v % 4294967296).testBit j = (decide (j < 32) && v.testBit j) := by
  rw [show (4294967296 : Nat) = 2 ^ 32 by decide, Nat.testBit_mod_two_pow]

theorem mask1 : ∀ j, j < 32 → Nat.testBit 4261441663 j = (decide (j < 7) || (decide (12 ≤ j) && decide (j < 15)) || decide (25 ≤ j)) := by decide
theorem enc1 (x k : Nat) (hf : formOf k = 1) : encW (readN k x) = (setf (setf (setf (code k ||| 0) 7 5 (field x 7 5)) 15 5 (field x 15 5)) 20 5 (field x 20 5)) := by
  simp only [encW, readN, hf, immOf, hasRd, hasRs1, hasRs2, lowOf, partsOf, scatterN, List.foldl, r_nat, Int.toNat_natCast, Nat.reduceBEq, Bool.or_false, ↓reduceIte, Nat.reduceEqDiff, true_or]
set_option maxRecDepth 100000 in
set_option maxHeartbeats 4000000 in
theorem bits1 (x k : Nat) (hf : formOf k = 1) (hm : x &&& 4261441663 = code k) : ∀ j, j < 32 → (encW (readN k x)).testBit j = x.testBit j := by
  have hc : ∀ j, j < 32 → (code k).testBit j = (x.testBit j && (decide (j < 7) || (decide (12 ≤ j) && decide (j < 15)) || decide (25 ≤ j))) := fun j hj => by rw [← hm, Nat.testBit_and, mask1 j hj]
  rw [enc1 x k hf]
  refine all32 ?_
  simp only [Nat.testBit_or, tb_setf, tb_field, hc, Nat.zero_testBit, Nat.reduceLT, Nat.reduceLeDiff, Nat.reduceSub, Nat.reduceAdd, ↓reduceIte, decide_true, decide_false, Bool.true_and, Bool.and_true, Bool.and_false, Bool.or_false, Bool.or_true, Bool.or_self, and_self, Nat.lt_irrefl, Nat.le_refl]

theorem mask2 : ∀ j, j < 32 → Nat.testBit 28799 j = (decide (j < 7) || (decide (12 ≤ j) && decide (j < 15))) := by decide
theorem enc2 (x k : Nat) (hf : formOf k = 2) : encW (readN k x) = (setf (setf (code k ||| (setf 0 20 12 ((sext ((setf 0 0 12 (field x 20 12)) * 2 ^ 0 % 4294967296) 12) / 2 ^ 0))) 7 5 (field x 7 5)) 15 5 (field x 15 5)) := by
  simp only [encW, readN, hf, immOf, hasRd, hasRs1, hasRs2, lowOf, partsOf, sizes, gatherN, gstep, scatterN, sstep, List.foldl, r_nat, Int.toNat_natCast, List.map, List.sum_cons, List.sum_nil, Nat.reduceAdd, Nat.reduceBEq, Bool.or_false, Bool.or_true, ↓reduceIte, Nat.reduceEqDiff, or_self, Bool.false_eq_true]
set_option maxRecDepth 100000 in
set_option maxHeartbeats 4000000 in
theorem bits2 (x k : Nat) (hf : formOf k = 2) (hm : x &&& 28799 = code k) : ∀ j, j < 32 → (encW (readN k x)).testBit j = x.testBit j := by
  have hc : ∀ j, j < 32 → (code k).testBit j = (x.testBit j && (decide (j < 7) || (decide (12 ≤ j) && decide (j < 15)))) := fun j hj => by rw [← hm, Nat.testBit_and, mask2 j hj]
  rw [enc2 x k hf]
  refine all32 ?_
  simp only [Nat.testBit_or, tb_setf, tb_field, Nat.testBit_mul_two_pow, tb_shr, tb_mod, hc, Nat.zero_testBit, tb_sext, Nat.reduceLT, Nat.reduceLeDiff, Nat.reduceSub, Nat.reduceAdd, ↓reduceIte, decide_true, decide_false, Bool.true_and, Bool.and_true, Bool.and_false, Bool.or_false, Bool.false_or, Bool.or_true, Bool.or_self, and_self, Nat.lt_irrefl, Nat.le_refl]

theorem mask3 : ∀ j, j < 32 → Nat.testBit 4261441663 j = (decide (j < 7) || (decide (12 ≤ j) && decide (j < 15)) || decide (25 ≤ j)) := by decide
theorem enc3 (x k : Nat) (hf : formOf k = 3) : encW (readN k x) = (setf (setf (code k ||| (setf 0 20 5 (((setf 0 0 5 (field x 20 5)) * 2 ^ 0 % 4294967296) / 2 ^ 0))) 7 5 (field x 7 5)) 15 5 (field x 15 5)) := by
  simp only [encW, readN, hf, immOf, hasRd, hasRs1, hasRs2, lowOf, partsOf, gatherN, gstep, scatterN, sstep, List.foldl, r_nat, Int.toNat_natCast, Nat.reduceAdd, Nat.reduceBEq, Bool.or_false, Bool.or_true, ↓reduceIte, Bool.false_eq_true]
set_option maxRecDepth 100000 in
set_option maxHeartbeats 4000000 in
theorem bits3 (x k : Nat) (hf : formOf k = 3) (hm : x &&& 4261441663 = code k) : ∀ j, j < 32 → (encW (readN k x)).testBit j = x.testBit j := by
  have hc : ∀ j, j < 32 → (code k).testBit j = (x.testBit j && (decide (j < 7) || (decide (12 ≤ j) && decide (j < 15)) || decide (25 ≤ j))) := fun j hj => by rw [← hm, Nat.testBit_and, mask3 j hj]
  rw [enc3 x k hf]
  refine all32 ?_
  simp only [Nat.testBit_or, tb_setf, tb_field, Nat.testBit_mul_two_pow, tb_shr, tb_mod, hc, Nat.zero_testBit, Nat.reduceLT, Nat.reduceLeDiff, Nat.reduceSub, Nat.reduceAdd, ↓reduceIte, decide_true, decide_false, Bool.true_and, Bool.and_true, Bool.and_false, Bool.or_false, Bool.false_or, Bool.or_true, Bool.or_self, and_self, Nat.lt_irrefl, Nat.le_refl]

theorem mask4 : ∀ j, j < 32 → Nat.testBit 28799 j = (decide (j < 7) || (decide (12 ≤ j) && decide (j < 15))) := by decide
theorem enc4 (x k : Nat) (hf : formOf k = 4) : encW (readN k x) = (setf (setf (code k ||| (setf (setf 0 7 5 ((sext ((setf (setf 0 0 5 (field x 7 5)) 5 7 (field x 25 7)) * 2 ^ 0 % 4294967296) 12) / 2 ^ 0)) 25 7 (((sext ((setf (setf 0 0 5 (field x 7 5)) 5 7 (field x 25 7)) * 2 ^ 0 % 4294967296) 12) / 2 ^ 0) / 2 ^ 5))) 15 5 (field x 15 5)) 20 5 (field x 20 5)) := by
  simp only [encW, readN, hf, immOf, hasRd, hasRs1, hasRs2, lowOf, partsOf, sizes, gatherN, gstep, scatterN, sstep, List.foldl, r_nat, Int.toNat_natCast, List.map, List.sum_cons, List.sum_nil, Nat.reduceAdd, Nat.reduceBEq, Bool.or_false, Bool.or_true, ↓reduceIte, Nat.reduceEqDiff, or_self, Bool.false_eq_true]
set_option maxRecDepth 100000 in
set_option maxHeartbeats 4000000 in
theorem bits4 (x k : Nat) (hf : formOf k = 4) (hm : x &&& 28799 = code k) : ∀ j, j < 32 → (encW (readN k x)).testBit j = x.testBit j := by
  have hc : ∀ j, j < 32 → (code k).testBit j = (x.testBit j && (decide (j < 7) || (decide (12 ≤ j) && decide (j < 15)))) := fun j hj => by rw [← hm, Nat.testBit_and, mask4 j hj]
  rw [enc4 x k hf]
  refine all32 ?_
  simp only [Nat.testBit_or, tb_setf, tb_field, Nat.testBit_mul_two_pow, tb_shr, tb_mod, hc, Nat.zero_testBit, tb_sext, Nat.reduceLT, Nat.reduceLeDiff, Nat.reduceSub, Nat.reduceAdd, ↓reduceIte, decide_true, decide_false, Bool.true_and, Bool.and_true, Bool.and_false, Bool.or_false, Bool.false_or, Bool.or_true, Bool.or_self, and_self, Nat.lt_irrefl, Nat.le_refl]

theorem mask5 : ∀ j, j < 32 → Nat.testBit 28799 j = (decide (j < 7) || (decide (12 ≤ j) && decide (j < 15))) := by decide
theorem enc5 (x k : Nat) (hf : formOf k = 5) : encW (readN k x) = (setf (setf (code k ||| (setf (setf (setf (setf 0 8 4 ((sext ((setf (setf (setf (setf 0 0 4 (field x 8 4)) 4 6 (field x 25 6)) 10 1 (field x 7 1)) 11 1 (field x 31 1)) * 2 ^ 1 % 4294967296) 13) / 2 ^ 1)) 25 6 (((sext ((setf (setf (setf (setf 0 0 4 (field x 8 4)) 4 6 (field x 25 6)) 10 1 (field x 7 1)) 11 1 (field x 31 1)) * 2 ^ 1 % 4294967296) 13) / 2 ^ 1) / 2 ^ 4)) 7 1 ((((sext ((setf (setf (setf (setf 0 0 4 (field x 8 4)) 4 6 (field x 25 6)) 10 1 (field x 7 1)) 11 1 (field x 31 1)) * 2 ^ 1 % 4294967296) 13) / 2 ^ 1) / 2 ^ 4) / 2 ^ 6)) 31 1 (((((sext ((setf (setf (setf (setf 0 0 4 (field x 8 4)) 4 6 (field x 25 6)) 10 1 (field x 7 1)) 11 1 (field x 31 1)) * 2 ^ 1 % 4294967296) 13) / 2 ^ 1) / 2 ^ 4) / 2 ^ 6) / 2 ^ 1))) 15 5 (field x 15 5)) 20 5 (field x 20 5)) := by
  simp only [encW, readN, hf, immOf, hasRd, hasRs1, hasRs2, lowOf, partsOf, sizes, gatherN, gstep, scatterN, sstep, List.foldl, r_nat, Int.toNat_natCast, List.map, List.sum_cons, List.sum_nil, Nat.reduceAdd, Nat.reduceBEq, Bool.or_false, Bool.or_true, ↓reduceIte, Nat.reduceEqDiff, or_self, Bool.false_eq_true]
set_option maxRecDepth 100000 in
set_option maxHeartbeats 4000000 in
theorem bits5 (x k : Nat) (hf : formOf k = 5) (hm : x &&& 28799 = code k) : ∀ j, j < 32 → (encW (readN k x)).testBit j = x.testBit j := by
  have hc : ∀ j, j < 32 → (code k).testBit j = (x.testBit j && (decide (j < 7) || (decide (12 ≤ j) && decide (j < 15)))) := fun j hj => by rw [← hm, Nat.testBit_and, mask5 j hj]
  rw [enc5 x k hf]
  refine all32 ?_
  simp only [Nat.testBit_or, tb_setf, tb_field, Nat.testBit_mul_two_pow, tb_shr, tb_mod, hc, Nat.zero_testBit, tb_sext, Nat.reduceLT, Nat.reduceLeDiff, Nat.reduceSub, Nat.reduceAdd, ↓reduceIte, decide_true, decide_false, Bool.true_and, Bool.and_true, Bool.and_false, Bool.or_false, Bool.false_or, Bool.or_true, Bool.or_self, and_self, Nat.lt_irrefl, Nat.le_refl]

theorem mask6 : ∀ j, j < 32 → Nat.testBit 127 j = (decide (j < 7)) := by decide
theorem enc6 (x k : Nat) (hf : formOf k = 6) : encW (readN k x) = (setf (code k ||| (setf 0 12 20 ((sext ((setf 0 0 20 (field x 12 20)) * 2 ^ 12 % 4294967296) 32) / 2 ^ 12))) 7 5 (field x 7 5)) := by
  simp only [encW, readN, hf, immOf, hasRd, hasRs1, hasRs2, lowOf, partsOf, sizes, gatherN, gstep, scatterN, sstep, List.foldl, r_nat, Int.toNat_natCast, List.map, List.sum_cons, List.sum_nil, Nat.reduceAdd, Nat.reduceBEq, Bool.or_false, Bool.or_true, ↓reduceIte, Nat.reduceEqDiff, or_self, Bool.false_eq_true]
set_option maxRecDepth 100000 in
set_option maxHeartbeats 4000000 in
theorem bits6 (x k : Nat) (hf : formOf k = 6) (hm : x &&& 127 = code k) : ∀ j, j < 32 → (encW (readN k x)).testBit j = x.testBit j := by
  have hc : ∀ j, j < 32 → (code k).testBit j = (x.testBit j && (decide (j < 7))) := fun j hj => by rw [← hm, Nat.testBit_and, mask6 j hj]
  rw [enc6 x k hf]
  refine all32 ?_
  simp only [Nat.testBit_or, tb_setf, tb_field, Nat.testBit_mul_two_pow, tb_shr, tb_mod, hc, Nat.zero_testBit, tb_sext, Nat.reduceLT, Nat.reduceLeDiff, Nat.reduceSub, Nat.reduceAdd, ↓reduceIte, decide_true, decide_false, Bool.true_and, Bool.and_true, Bool.and_false, Bool.or_false, Bool.false_or, and_self, Nat.lt_irrefl, Nat.le_refl]

theorem mask7 : ∀ j, j < 32 → Nat.testBit 127 j = (decide (j < 7)) := by decide
theorem enc7 (x k : Nat) (hf : formOf k = 7) : encW (readN k x) = (setf (code k ||| (setf (setf (setf (setf 0 21 10 ((sext ((setf (setf (setf (setf 0 0 10 (field x 21 10)) 10 1 (field x 20 1)) 11 8 (field x 12 8)) 19 1 (field x 31 1)) * 2 ^ 1 % 4294967296) 21) / 2 ^ 1)) 20 1 (((sext ((setf (setf (setf (setf 0 0 10 (field x 21 10)) 10 1 (field x 20 1)) 11 8 (field x 12 8)) 19 1 (field x 31 1)) * 2 ^ 1 % 4294967296) 21) / 2 ^ 1) / 2 ^ 10)) 12 8 ((((sext ((setf (setf (setf (setf 0 0 10 (field x 21 10)) 10 1 (field x 20 1)) 11 8 (field x 12 8)) 19 1 (field x 31 1)) * 2 ^ 1 % 4294967296) 21) / 2 ^ 1) / 2 ^ 10) / 2 ^ 1)) 31 1 (((((sext ((setf (setf (setf (setf 0 0 10 (field x 21 10)) 10 1 (field x 20 1)) 11 8 (field x 12 8)) 19 1 (field x 31 1)) * 2 ^ 1 % 4294967296) 21) / 2 ^ 1) / 2 ^ 10) / 2 ^ 1) / 2 ^ 8))) 7 5 (field x 7 5)) := by
  simp only [encW, readN, hf, immOf, hasRd, hasRs1, hasRs2, lowOf, partsOf, sizes, gatherN, gstep, scatterN, sstep, List.foldl, r_nat, Int.toNat_natCast, List.map, List.sum_cons, List.sum_nil, Nat.reduceAdd, Nat.reduceBEq, Bool.or_false, Bool.or_true, ↓reduceIte, Nat.reduceEqDiff, or_self, Bool.false_eq_true]
set_option maxRecDepth 100000 in
set_option maxHeartbeats 4000000 in
theorem bits7 (x k : Nat) (hf : formOf k = 7) (hm : x &&& 127 = code k) : ∀ j, j < 32 → (encW (readN k x)).testBit j = x.testBit j := by
  have hc : ∀ j, j < 32 → (code k).testBit j = (x.testBit j && (decide (j < 7))) := fun j hj => by rw [← hm, Nat.testBit_and, mask7 j hj]
  rw [enc7 x k hf]
  refine all32 ?_
  simp only [Nat.testBit_or, tb_setf, tb_field, Nat.testBit_mul_two_pow, tb_shr, tb_mod, hc, Nat.zero_testBit, tb_sext, Nat.reduceLT, Nat.reduceLeDiff, Nat.reduceSub, Nat.reduceAdd, ↓reduceIte, decide_true, decide_false, Bool.true_and, Bool.and_true, Bool.and_false, Bool.or_false, Bool.false_or, and_self, Nat.lt_irrefl, Nat.le_refl]

theorem mask8 : ∀ j, j < 32 → Nat.testBit 4294967295 j = (true) := by decide
theorem enc8 (x k : Nat) (hf : formOf k = 8) : encW (readN k x) = (code k ||| 0) := by
  simp only [encW, readN, hf, immOf, hasRd, hasRs1, hasRs2, lowOf, partsOf, scatterN, List.foldl, Int.toNat_natCast, Nat.reduceBEq, Bool.or_false, ↓reduceIte, Nat.reduceEqDiff, or_true, Bool.false_eq_true]
set_option maxRecDepth 100000 in
set_option maxHeartbeats 4000000 in
theorem bits8 (x k : Nat) (hf : formOf k = 8) (hm : x &&& 4294967295 = code k) : ∀ j, j < 32 → (encW (readN k x)).testBit j = x.testBit j := by
  have hc : ∀ j, j < 32 → (code k).testBit j = (x.testBit j && (true)) := fun j hj => by rw [← hm, Nat.testBit_and, mask8 j hj]
  rw [enc8 x k hf]
  refine all32 ?_
  simp only [Nat.testBit_or, hc, Nat.zero_testBit, Nat.reduceLT, Bool.and_true, Bool.or_false, and_self]

theorem scatter_lt (v : Nat) (f : Nat) (hv : v < 4294967296) : (scatterN v (partsOf f)).1 < 4294967296 :=
  (scatter_inv (partsOf f) (0, v) (by show 0 < 4294967296; omega) hv (partsOf_ok f).1).1

theorem encW_lt (i : SI) (hi : i.imm < 4294967296) : encW i < 4294967296 := by
  unfold encW
  have h0 : code i.op.toNat ||| (scatterN (i.imm / 2 ^ lowOf (formOf i.op)) (partsOf (formOf i.op))).1 < 4294967296 :=
    Nat.or_lt_two_pow (n := 32) (code_lt _) (scatter_lt _ _ (Nat.lt_of_le_of_lt (Nat.div_le_self _ _) hi))
  have hs : ∀ w a v, w < 4294967296 → a + 5 ≤ 32 → setf w a 5 v < 4294967296 := fun w a v hw ha => setf_lt w a 5 v ha hw
  dsimp only
  repeat' (first | assumption | refine hs _ _ _ ?_ (by omega) | split)

theorem immOf_lt' (f x : Nat) (hf : f ≤ 8) : immOf f x < 4294967296 := by
  have hc : f = 0 ∨ f = 1 ∨ f = 2 ∨ f = 3 ∨ f = 4 ∨ f = 5 ∨ f = 6 ∨ f = 7 ∨ f = 8 := by omega
  unfold immOf
  split
  · exact Nat.mod_lt _ (by omega)
  · split
    · omega
    · refine sext_lt _ _ ?_
      rcases hc with rfl | rfl | rfl | rfl | rfl | rfl | rfl | rfl | rfl <;> decide

theorem formOf_pos (op : Int) (hop : 1 ≤ op ∧ op ≤ 48) : 1 ≤ formOf op := by
  unfold formOf
  repeat' (split <;> try omega)

/-- What is decoded, encoded, is the word. -/
theorem enc_read (x k : Nat) (hk : 1 ≤ k ∧ k ≤ 48) (hm : mtch x k = true) (hx : x < 4294967296) : encW (readN k x) = x := by
  have hm' : x &&& fixedOf (formOf k) = code k := by unfold mtch at hm; exact beq_iff_eq.1 hm
  refine eq32 (encW_lt _ (immOf_lt' _ _ (formOf_le _))) hx ?_
  have h1 := formOf_le (k : Int)
  have h2 := formOf_pos (k : Int) ⟨by omega, by omega⟩
  have hc : formOf k = 1 ∨ formOf k = 2 ∨ formOf k = 3 ∨ formOf k = 4 ∨ formOf k = 5 ∨ formOf k = 6 ∨ formOf k = 7 ∨ formOf k = 8 := by omega
  rcases hc with h | h | h | h | h | h | h | h <;> rw [h] at hm'
  · exact bits1 x k h hm'
  · exact bits2 x k h hm'
  · exact bits3 x k h hm'
  · exact bits4 x k h hm'
  · exact bits5 x k h hm'
  · exact bits6 x k h hm'
  · exact bits7 x k h hm'
  · exact bits8 x k h hm'

theorem opOf_mtch (x : Nat) (h : opOf x ≠ 0) : 1 ≤ opOf x ∧ opOf x ≤ 48 ∧ mtch x (opOf x) = true := by
  rcases opFrom_le x 48 1 with h' | ⟨h1, h2, h3, -⟩
  · exact absurd h' h
  · exact ⟨h1, by unfold opOf; omega, h3⟩
theorem enc_dec (x : Nat) (h : opOf x ≠ 0) (hx : x < 4294967296) : encW (decN x) = x := by
  obtain ⟨h1, h2, h3⟩ := opOf_mtch x h
  unfold decN
  rw [if_neg h]
  exact enc_read x _ ⟨h1, h2⟩ h3 hx
theorem dec_inj (x y : Nat) (h : opOf x ≠ 0) (h' : opOf y ≠ 0) (hx : x < 4294967296) (hy : y < 4294967296) (e : decN x = decN y) : x = y := by
  rw [← enc_dec x h hx, ← enc_dec y h' hy, e]

end Go.Proofs.Ytckjihpdjefpgaa
