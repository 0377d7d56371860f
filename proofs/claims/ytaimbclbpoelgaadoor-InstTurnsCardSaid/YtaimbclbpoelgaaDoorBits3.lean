/- Words with another register's number in them tell the same instruction of another register. -/
import Derived.Test.YtaimbclbpoelgaaDoorBits2
namespace Go.Proofs.YtaimbclbpoelgaaDoor
open Go.RowKit

theorem setf_hi (x v : Nat) : setf x 7 5 v / 4096 = x / 4096 := by
  unfold setf
  omega
theorem setf_lo (x v : Nat) : setf x 7 5 v % 128 = x % 128 := by
  unfold setf
  omega
theorem field_hi (x v a s : Nat) (ha : 12 ≤ a) : field (setf x 7 5 v) a s = field x a s := by
  unfold field
  have h : ∀ y : Nat, y / 2 ^ a = y / 4096 / 2 ^ (a - 12) := fun y => by
    rw [Nat.div_div_eq_div_mul, show (4096 : Nat) = 2 ^ 12 by decide, ← Nat.pow_add, show 12 + (a - 12) = a by omega]
  rw [h, h x, setf_hi]
theorem field_own (x v : Nat) (hv : v < 32) : field (setf x 7 5 v) 7 5 = v := by
  unfold field setf
  omega
theorem tb_hi (x v j : Nat) (h : ¬ (7 ≤ j ∧ j < 12)) : (setf x 7 5 v).testBit j = x.testBit j := by
  rw [tb_setf]
  by_cases h1 : j < 7
  · rw [if_pos h1]
  · rw [if_neg h1, if_neg (by omega)]
theorem mask_turn (x v m : Nat) (hm : ∀ j, 7 ≤ j ∧ j < 12 → m.testBit j = false) : setf x 7 5 v &&& m = x &&& m := by
  apply Nat.eq_of_testBit_eq
  intro j
  rw [Nat.testBit_and, Nat.testBit_and]
  by_cases h : 7 ≤ j ∧ j < 12
  · rw [hm j h, Bool.and_false, Bool.and_false]
  · rw [tb_hi x v j h]
theorem five {P : Nat → Prop} (h : P 7 ∧ P 8 ∧ P 9 ∧ P 10 ∧ P 11) : ∀ j, 7 ≤ j ∧ j < 12 → P j := by
  obtain ⟨h7, h8, h9, h10, h11⟩ := h
  intro j hj
  have hc : j = 7 ∨ j = 8 ∨ j = 9 ∨ j = 10 ∨ j = 11 := by omega
  rcases hc with rfl | rfl | rfl | rfl | rfl
  · exact h7
  · exact h8
  · exact h9
  · exact h10
  · exact h11
theorem fixed_rd (f : Nat) (h : hasRd f = true) : ∀ j, 7 ≤ j ∧ j < 12 → (fixedOf f).testBit j = false := by
  have hc : f = 1 ∨ f = 2 ∨ f = 3 ∨ f = 6 ∨ f = 7 := by
    unfold hasRd at h
    simp only [Bool.or_eq_true, beq_iff_eq] at h
    omega
  rcases hc with rfl | rfl | rfl | rfl | rfl <;> exact five (by decide)
theorem imm_rd (x v f : Nat) (h : hasRd f = true) : immOf f (setf x 7 5 v) = immOf f x := by
  have hc : f = 1 ∨ f = 2 ∨ f = 3 ∨ f = 6 ∨ f = 7 := by
    unfold hasRd at h
    simp only [Bool.or_eq_true, beq_iff_eq] at h
    omega
  have hg : ∀ (parts : List (Nat × Nat)), (∀ p ∈ parts, 12 ≤ p.1) → ∀ s, parts.foldl (gstep (setf x 7 5 v)) s = parts.foldl (gstep x) s := by
    intro parts
    induction parts with
    | nil => intro _ s; rfl
    | cons p l ih =>
      intro hp s
      have h1 : gstep (setf x 7 5 v) s p = gstep x s p := by
        unfold gstep
        rw [field_hi x v p.1 p.2 (hp p (by simp))]
      rw [List.foldl_cons, List.foldl_cons, h1]
      exact ih (fun q hq => hp q (by simp [hq])) _
  have hp : ∀ p ∈ partsOf f, 12 ≤ p.1 := by
    rcases hc with rfl | rfl | rfl | rfl | rfl <;> decide
  have : gatherN (setf x 7 5 v) (partsOf f) = gatherN x (partsOf f) := hg _ hp _
  unfold immOf
  rw [this]
theorem turn_dec (x v : Nat) (hk : opOf x ≠ 0) (hr : hasRd (formOf (opOf x)) = true) (hv : v < 32) :
    opOf (setf x 7 5 v) = opOf x ∧ decN (setf x 7 5 v) = { decN x with rd := (v : Int) } := by
  obtain ⟨h1, h2, h3⟩ := opOf_mtch x hk
  have hm : mtch (setf x 7 5 v) (opOf x) = true := by
    unfold mtch at h3 ⊢
    rw [mask_turn x v _ (fixed_rd _ hr)]
    exact h3
  have ho : opOf (setf x 7 5 v) = opOf x := opOf_is _ _ ⟨h1, h2⟩ hm
  refine ⟨ho, ?_⟩
  have hd : decN x = readN (opOf x) x := by unfold decN; rw [if_neg hk]
  have hd' : decN (setf x 7 5 v) = readN (opOf x) (setf x 7 5 v) := by unfold decN; rw [ho, if_neg hk]
  rw [hd', hd]
  unfold readN
  rw [field_own x v hv, field_hi x v 15 5 (by omega), field_hi x v 20 5 (by omega), imm_rd x v _ hr, hr]
  rfl
theorem sh_mask : ∀ v : Nat, v < 32 → (v * 2 ^ 7 % 4294967296) &&& 3968 = v * 128 := by decide
theorem turn_word (x v : Nat) (hx : x < 4294967296) (hv : v < 32) : (x &&& (4294967295 - 3968)) ||| (v * 128) = setf x 7 5 v := by
  rw [← sh_mask v hv]
  exact set_nat x 7 5 v (by decide) hx
theorem and31 (r : Int) : ∃ v : Nat, v < 32 ∧ bits .and .i64 r 31 = v := by
  refine ⟨(BitVec.ofInt 64 r).toNat % 32, Nat.mod_lt _ (by decide), ?_⟩
  show IntKind.i64.wrap ((BitVec.ofInt 64 r &&& BitVec.ofInt 64 (31 : Int)).toNat : Int) = _
  rw [BitVec.toNat_and, show (BitVec.ofInt 64 (31 : Int)).toNat = 2 ^ 5 - 1 by decide, Nat.and_two_pow_sub_one_eq_mod]
  have h := Nat.mod_lt (BitVec.ofInt 64 r).toNat (show 0 < 2 ^ 5 by decide)
  simp [IntKind.wrap, IntKind.bits, IntKind.signed]
  omega
/-- The instructions that write have a register there. -/
theorem rd_of (k : Nat) (h1 : 1 ≤ k) (h2 : k ≤ 48) : hasRd (formOf k) = (decide (k < 46) && !(decide (16 ≤ k) && decide (k ≤ 18)) && !(decide (5 ≤ k) && decide (k ≤ 10))) := by
  have : ∀ k : Nat, k < 49 → 1 ≤ k → hasRd (formOf k) = (decide (k < 46) && !(decide (16 ≤ k) && decide (k ≤ 18)) && !(decide (5 ≤ k) && decide (k ≤ 10))) := by decide
  exact this k (by omega) h1
end Go.Proofs.YtaimbclbpoelgaaDoor
