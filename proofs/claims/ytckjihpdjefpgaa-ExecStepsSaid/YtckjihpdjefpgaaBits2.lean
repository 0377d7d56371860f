
/- Words bit by bit: what is encoded is matched by its own instruction alone. -/
import Derived.Test.YtckjihpdjefpgaaBits
namespace Go.Proofs.Ytckjihpdjefpgaa
open Go.RowKit

theorem code_fixed : ∀ k : Nat, k < 49 → 1 ≤ k → code k &&& fixedOf (formOf k) = code k := by decide
theorem code_apart : ∀ k : Nat, k < 49 → 1 ≤ k → ∀ m : Nat, m < 49 → 1 ≤ m → code k &&& fixedOf (formOf m) = code m &&& fixedOf (formOf k) → k = m := by decide +kernel
theorem mtch_one (x k m : Nat) (hk : 1 ≤ k ∧ k ≤ 48) (hm : 1 ≤ m ∧ m ≤ 48) (h1 : mtch x k = true) (h2 : mtch x m = true) : k = m := by
  have e1 : x &&& fixedOf (formOf k) = code k := beq_iff_eq.1 h1
  have e2 : x &&& fixedOf (formOf m) = code m := beq_iff_eq.1 h2
  refine code_apart k (by omega) hk.1 m (by omega) hm.1 ?_
  rw [← e1, ← e2, Nat.and_assoc, Nat.and_assoc, Nat.and_comm (fixedOf _)]

theorem encf1 (k : Nat) (rd rs1 rs2 : Int) (imm : Nat) (hf : formOf k = 1) : encW ⟨k, rd, rs1, rs2, imm⟩ = (setf (setf (setf (code k ||| 0) 7 5 (rd % 4294967296).toNat) 15 5 (rs1 % 4294967296).toNat) 20 5 (rs2 % 4294967296).toNat) := by
  simp only [encW, hf, hasRd, hasRs1, hasRs2, lowOf, partsOf, scatterN, List.foldl, Int.toNat_natCast, Nat.reduceBEq, Bool.or_false, ↓reduceIte]
set_option maxRecDepth 100000 in
set_option maxHeartbeats 4000000 in
theorem keeps1 (k : Nat) (rd rs1 rs2 : Int) (imm : Nat) (hf : formOf k = 1) (hm : code k &&& 4261441663 = code k) : ∀ j, j < 32 → (encW ⟨k, rd, rs1, rs2, imm⟩ &&& 4261441663).testBit j = (code k).testBit j := by
  obtain ⟨C, hC⟩ : ∃ C : Nat → Bool, ∀ j, j < 32 → (code k).testBit j = (C j && (decide (j < 7) || (decide (12 ≤ j) && decide (j < 15)) || decide (25 ≤ j))) := ⟨(code k).testBit, fun j hj => by rw [← mask1 j hj, ← Nat.testBit_and, hm]⟩
  rw [encf1 k rd rs1 rs2 imm hf]
  refine all32 ?_
  simp only [Nat.testBit_or, Nat.testBit_and, mask1, tb_setf, hC, Nat.zero_testBit, Nat.reduceLT, Nat.reduceLeDiff, Nat.reduceSub, ↓reduceIte, decide_true, decide_false, Bool.and_true, Bool.and_false, Bool.or_false, Bool.or_true, Bool.or_self, and_self, Nat.lt_irrefl, Nat.le_refl]

theorem encf2 (k : Nat) (rd rs1 rs2 : Int) (imm : Nat) (hf : formOf k = 2) : encW ⟨k, rd, rs1, rs2, imm⟩ = (setf (setf (code k ||| (setf 0 20 12 (imm / 2 ^ 0))) 7 5 (rd % 4294967296).toNat) 15 5 (rs1 % 4294967296).toNat) := by
  simp only [encW, hf, hasRd, hasRs1, hasRs2, lowOf, partsOf, scatterN, sstep, List.foldl, Int.toNat_natCast, Nat.reduceBEq, Bool.or_false, Bool.or_true, ↓reduceIte, Bool.false_eq_true]
set_option maxRecDepth 100000 in
set_option maxHeartbeats 4000000 in
theorem keeps2 (k : Nat) (rd rs1 rs2 : Int) (imm : Nat) (hf : formOf k = 2) (hm : code k &&& 28799 = code k) : ∀ j, j < 32 → (encW ⟨k, rd, rs1, rs2, imm⟩ &&& 28799).testBit j = (code k).testBit j := by
  obtain ⟨C, hC⟩ : ∃ C : Nat → Bool, ∀ j, j < 32 → (code k).testBit j = (C j && (decide (j < 7) || (decide (12 ≤ j) && decide (j < 15)))) := ⟨(code k).testBit, fun j hj => by rw [← mask2 j hj, ← Nat.testBit_and, hm]⟩
  rw [encf2 k rd rs1 rs2 imm hf]
  refine all32 ?_
  simp only [Nat.testBit_or, Nat.testBit_and, mask2, tb_setf, tb_shr, hC, Nat.zero_testBit, Nat.reduceLT, Nat.reduceLeDiff, Nat.reduceSub, Nat.reduceAdd, ↓reduceIte, decide_true, decide_false, Bool.and_true, Bool.and_false, Bool.or_false, Bool.false_or, Bool.or_true, Bool.or_self, and_self, Nat.lt_irrefl, Nat.le_refl]

theorem encf3 (k : Nat) (rd rs1 rs2 : Int) (imm : Nat) (hf : formOf k = 3) : encW ⟨k, rd, rs1, rs2, imm⟩ = (setf (setf (code k ||| (setf 0 20 5 (imm / 2 ^ 0))) 7 5 (rd % 4294967296).toNat) 15 5 (rs1 % 4294967296).toNat) := by
  simp only [encW, hf, hasRd, hasRs1, hasRs2, lowOf, partsOf, scatterN, sstep, List.foldl, Int.toNat_natCast, Nat.reduceBEq, Bool.or_false, Bool.or_true, ↓reduceIte, Bool.false_eq_true]
set_option maxRecDepth 100000 in
set_option maxHeartbeats 4000000 in
theorem keeps3 (k : Nat) (rd rs1 rs2 : Int) (imm : Nat) (hf : formOf k = 3) (hm : code k &&& 4261441663 = code k) : ∀ j, j < 32 → (encW ⟨k, rd, rs1, rs2, imm⟩ &&& 4261441663).testBit j = (code k).testBit j := by
  obtain ⟨C, hC⟩ : ∃ C : Nat → Bool, ∀ j, j < 32 → (code k).testBit j = (C j && (decide (j < 7) || (decide (12 ≤ j) && decide (j < 15)) || decide (25 ≤ j))) := ⟨(code k).testBit, fun j hj => by rw [← mask3 j hj, ← Nat.testBit_and, hm]⟩
  rw [encf3 k rd rs1 rs2 imm hf]
  refine all32 ?_
  simp only [Nat.testBit_or, Nat.testBit_and, mask3, tb_setf, tb_shr, hC, Nat.zero_testBit, Nat.reduceLT, Nat.reduceLeDiff, Nat.reduceSub, Nat.reduceAdd, ↓reduceIte, decide_true, decide_false, Bool.and_true, Bool.and_false, Bool.or_false, Bool.false_or, Bool.or_true, Bool.or_self, and_self, Nat.lt_irrefl, Nat.le_refl]

theorem encf4 (k : Nat) (rd rs1 rs2 : Int) (imm : Nat) (hf : formOf k = 4) : encW ⟨k, rd, rs1, rs2, imm⟩ = (setf (setf (code k ||| (setf (setf 0 7 5 (imm / 2 ^ 0)) 25 7 ((imm / 2 ^ 0) / 2 ^ 5))) 15 5 (rs1 % 4294967296).toNat) 20 5 (rs2 % 4294967296).toNat) := by
  simp only [encW, hf, hasRd, hasRs1, hasRs2, lowOf, partsOf, scatterN, sstep, List.foldl, Int.toNat_natCast, Nat.reduceBEq, Bool.or_false, Bool.or_true, ↓reduceIte, Bool.false_eq_true]
set_option maxRecDepth 100000 in
set_option maxHeartbeats 4000000 in
theorem keeps4 (k : Nat) (rd rs1 rs2 : Int) (imm : Nat) (hf : formOf k = 4) (hm : code k &&& 28799 = code k) : ∀ j, j < 32 → (encW ⟨k, rd, rs1, rs2, imm⟩ &&& 28799).testBit j = (code k).testBit j := by
  obtain ⟨C, hC⟩ : ∃ C : Nat → Bool, ∀ j, j < 32 → (code k).testBit j = (C j && (decide (j < 7) || (decide (12 ≤ j) && decide (j < 15)))) := ⟨(code k).testBit, fun j hj => by rw [← mask4 j hj, ← Nat.testBit_and, hm]⟩
  rw [encf4 k rd rs1 rs2 imm hf]
  refine all32 ?_
  simp only [Nat.testBit_or, Nat.testBit_and, mask4, tb_setf, tb_shr, hC, Nat.zero_testBit, Nat.reduceLT, Nat.reduceLeDiff, Nat.reduceSub, Nat.reduceAdd, ↓reduceIte, decide_true, decide_false, Bool.and_true, Bool.and_false, Bool.or_false, Bool.false_or, Bool.or_true, Bool.or_self, and_self, Nat.lt_irrefl, Nat.le_refl]

theorem encf5 (k : Nat) (rd rs1 rs2 : Int) (imm : Nat) (hf : formOf k = 5) : encW ⟨k, rd, rs1, rs2, imm⟩ = (setf (setf (code k ||| (setf (setf (setf (setf 0 8 4 (imm / 2 ^ 1)) 25 6 ((imm / 2 ^ 1) / 2 ^ 4)) 7 1 (((imm / 2 ^ 1) / 2 ^ 4) / 2 ^ 6)) 31 1 ((((imm / 2 ^ 1) / 2 ^ 4) / 2 ^ 6) / 2 ^ 1))) 15 5 (rs1 % 4294967296).toNat) 20 5 (rs2 % 4294967296).toNat) := by
  simp only [encW, hf, hasRd, hasRs1, hasRs2, lowOf, partsOf, scatterN, sstep, List.foldl, Int.toNat_natCast, Nat.reduceBEq, Bool.or_false, Bool.or_true, ↓reduceIte, Bool.false_eq_true]
set_option maxRecDepth 100000 in
set_option maxHeartbeats 4000000 in
theorem keeps5 (k : Nat) (rd rs1 rs2 : Int) (imm : Nat) (hf : formOf k = 5) (hm : code k &&& 28799 = code k) : ∀ j, j < 32 → (encW ⟨k, rd, rs1, rs2, imm⟩ &&& 28799).testBit j = (code k).testBit j := by
  obtain ⟨C, hC⟩ : ∃ C : Nat → Bool, ∀ j, j < 32 → (code k).testBit j = (C j && (decide (j < 7) || (decide (12 ≤ j) && decide (j < 15)))) := ⟨(code k).testBit, fun j hj => by rw [← mask5 j hj, ← Nat.testBit_and, hm]⟩
  rw [encf5 k rd rs1 rs2 imm hf]
  refine all32 ?_
  simp only [Nat.testBit_or, Nat.testBit_and, mask5, tb_setf, tb_shr, hC, Nat.zero_testBit, Nat.reduceLT, Nat.reduceLeDiff, Nat.reduceSub, Nat.reduceAdd, ↓reduceIte, decide_true, decide_false, Bool.and_true, Bool.and_false, Bool.or_false, Bool.false_or, Bool.or_true, Bool.or_self, and_self, Nat.lt_irrefl, Nat.le_refl]

theorem encf6 (k : Nat) (rd rs1 rs2 : Int) (imm : Nat) (hf : formOf k = 6) : encW ⟨k, rd, rs1, rs2, imm⟩ = (setf (code k ||| (setf 0 12 20 (imm / 2 ^ 12))) 7 5 (rd % 4294967296).toNat) := by
  simp only [encW, hf, hasRd, hasRs1, hasRs2, lowOf, partsOf, scatterN, sstep, List.foldl, Int.toNat_natCast, Nat.reduceBEq, Bool.or_false, Bool.or_true, ↓reduceIte, Bool.false_eq_true]
set_option maxRecDepth 100000 in
set_option maxHeartbeats 4000000 in
theorem keeps6 (k : Nat) (rd rs1 rs2 : Int) (imm : Nat) (hf : formOf k = 6) (hm : code k &&& 127 = code k) : ∀ j, j < 32 → (encW ⟨k, rd, rs1, rs2, imm⟩ &&& 127).testBit j = (code k).testBit j := by
  obtain ⟨C, hC⟩ : ∃ C : Nat → Bool, ∀ j, j < 32 → (code k).testBit j = (C j && (decide (j < 7))) := ⟨(code k).testBit, fun j hj => by rw [← mask6 j hj, ← Nat.testBit_and, hm]⟩
  rw [encf6 k rd rs1 rs2 imm hf]
  refine all32 ?_
  simp only [Nat.testBit_or, Nat.testBit_and, mask6, tb_setf, tb_shr, hC, Nat.zero_testBit, Nat.reduceLT, Nat.reduceSub, Nat.reduceAdd, ↓reduceIte, decide_true, decide_false, Bool.and_true, Bool.and_false, Bool.or_false, Bool.false_or, and_self, Nat.lt_irrefl]

theorem encf7 (k : Nat) (rd rs1 rs2 : Int) (imm : Nat) (hf : formOf k = 7) : encW ⟨k, rd, rs1, rs2, imm⟩ = (setf (code k ||| (setf (setf (setf (setf 0 21 10 (imm / 2 ^ 1)) 20 1 ((imm / 2 ^ 1) / 2 ^ 10)) 12 8 (((imm / 2 ^ 1) / 2 ^ 10) / 2 ^ 1)) 31 1 ((((imm / 2 ^ 1) / 2 ^ 10) / 2 ^ 1) / 2 ^ 8))) 7 5 (rd % 4294967296).toNat) := by
  simp only [encW, hf, hasRd, hasRs1, hasRs2, lowOf, partsOf, scatterN, sstep, List.foldl, Int.toNat_natCast, Nat.reduceBEq, Bool.or_false, Bool.or_true, ↓reduceIte, Bool.false_eq_true]
set_option maxRecDepth 100000 in
set_option maxHeartbeats 4000000 in
theorem keeps7 (k : Nat) (rd rs1 rs2 : Int) (imm : Nat) (hf : formOf k = 7) (hm : code k &&& 127 = code k) : ∀ j, j < 32 → (encW ⟨k, rd, rs1, rs2, imm⟩ &&& 127).testBit j = (code k).testBit j := by
  obtain ⟨C, hC⟩ : ∃ C : Nat → Bool, ∀ j, j < 32 → (code k).testBit j = (C j && (decide (j < 7))) := ⟨(code k).testBit, fun j hj => by rw [← mask7 j hj, ← Nat.testBit_and, hm]⟩
  rw [encf7 k rd rs1 rs2 imm hf]
  refine all32 ?_
  simp only [Nat.testBit_or, Nat.testBit_and, mask7, tb_setf, tb_shr, hC, Nat.zero_testBit, Nat.reduceLT, Nat.reduceSub, Nat.reduceAdd, ↓reduceIte, decide_true, decide_false, Bool.and_true, Bool.and_false, Bool.or_false, Bool.false_or, and_self, Nat.lt_irrefl]

theorem encf8 (k : Nat) (rd rs1 rs2 : Int) (imm : Nat) (hf : formOf k = 8) : encW ⟨k, rd, rs1, rs2, imm⟩ = (code k ||| 0) := by
  simp only [encW, hf, hasRd, hasRs1, hasRs2, lowOf, partsOf, scatterN, List.foldl, Int.toNat_natCast, Nat.reduceBEq, Bool.or_false, ↓reduceIte, Bool.false_eq_true]
set_option maxRecDepth 100000 in
set_option maxHeartbeats 4000000 in
theorem keeps8 (k : Nat) (rd rs1 rs2 : Int) (imm : Nat) (hf : formOf k = 8) (hm : code k &&& 4294967295 = code k) : ∀ j, j < 32 → (encW ⟨k, rd, rs1, rs2, imm⟩ &&& 4294967295).testBit j = (code k).testBit j := by
  obtain ⟨C, hC⟩ : ∃ C : Nat → Bool, ∀ j, j < 32 → (code k).testBit j = (C j && (true)) := ⟨(code k).testBit, fun j hj => by rw [← mask8 j hj, ← Nat.testBit_and, hm]⟩
  rw [encf8 k rd rs1 rs2 imm hf]
  refine all32 ?_
  simp only [Nat.testBit_or, Nat.testBit_and, mask8, hC, Nat.zero_testBit, Nat.reduceLT, Bool.and_true, Bool.or_false, and_self]

theorem opOf_is (x k : Nat) (hk : 1 ≤ k ∧ k ≤ 48) (h : mtch x k = true) : opOf x = k := by
  have h0 : opOf x ≠ 0 := fun e => by
    have := opFrom_zero x 48 1 (Nat.le_refl _) e k hk.1 (by omega)
    rw [this] at h
    cases h
  obtain ⟨h1, h2, h3⟩ := opOf_mtch x h0
  exact mtch_one x _ k ⟨h1, h2⟩ hk h3 h

theorem mtch_enc (k : Nat) (rd rs1 rs2 : Int) (imm : Nat) (hk : 1 ≤ k ∧ k ≤ 48) (hi : imm < 4294967296) : mtch (encW ⟨k, rd, rs1, rs2, imm⟩) k = true := by
  have hcf := code_fixed k (by omega) hk.1
  have h1 := formOf_le (k : Int)
  have h2 := formOf_pos (k : Int) ⟨by omega, by omega⟩
  have hc : formOf k = 1 ∨ formOf k = 2 ∨ formOf k = 3 ∨ formOf k = 4 ∨ formOf k = 5 ∨ formOf k = 6 ∨ formOf k = 7 ∨ formOf k = 8 := by omega
  unfold mtch
  refine beq_iff_eq.2 (eq32 (Nat.lt_of_le_of_lt Nat.and_le_left (encW_lt _ hi)) (code_lt k) ?_)
  rcases hc with h | h | h | h | h | h | h | h <;> rw [h] at hcf ⊢
  · exact keeps1 k rd rs1 rs2 imm h hcf
  · exact keeps2 k rd rs1 rs2 imm h hcf
  · exact keeps3 k rd rs1 rs2 imm h hcf
  · exact keeps4 k rd rs1 rs2 imm h hcf
  · exact keeps5 k rd rs1 rs2 imm h hcf
  · exact keeps6 k rd rs1 rs2 imm h hcf
  · exact keeps7 k rd rs1 rs2 imm h hcf
  · exact keeps8 k rd rs1 rs2 imm h hcf

/-- What is encoded is read as its own instruction. -/
theorem dec_enc (k : Nat) (rd rs1 rs2 : Int) (imm : Nat) (hk : 1 ≤ k ∧ k ≤ 48) (hi : imm < 4294967296) : opOf (encW ⟨k, rd, rs1, rs2, imm⟩) = k ∧ decN (encW ⟨k, rd, rs1, rs2, imm⟩) = readN k (encW ⟨k, rd, rs1, rs2, imm⟩) := by
  have h := opOf_is _ k hk (mtch_enc k rd rs1 rs2 imm hk hi)
  refine ⟨h, ?_⟩
  unfold decN
  rw [h, if_neg (by omega)]
end Go.Proofs.Ytckjihpdjefpgaa
