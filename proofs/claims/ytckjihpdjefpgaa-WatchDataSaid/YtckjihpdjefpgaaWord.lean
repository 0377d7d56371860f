
/- The contracts of package word's fields: words as natural numbers below 2^32. -/
import Derived.Test.YtckjihpdjefpgaaBase
import Derived.Test.YtckjihpdjefpgaaProg
namespace Go.Proofs.Ytckjihpdjefpgaa
open Go.RowKit

def field (x at' size : Nat) : Nat := x / 2 ^ at' % 2 ^ size
/-- x with the lowest bits of v in a field. -/
def setf (x at' size v : Nat) : Nat := 2 ^ at' * (2 ^ size * (x / 2 ^ (at' + size)) + v % 2 ^ size) + x % 2 ^ at'
def sext (x size : Nat) : Nat := if x / 2 ^ (size - 1) % 2 = 1 then x % 2 ^ size + (4294967296 - 2 ^ size) else x % 2 ^ size

theorem field_lt (x at' size : Nat) : field x at' size < 2 ^ size := Nat.mod_lt _ (Nat.two_pow_pos _)

theorem pow_le32 {n : Nat} (h : n ≤ 32) : 2 ^ n ≤ 4294967296 := Nat.le_trans (Nat.pow_le_pow_right (by omega) h) (by decide)

theorem mask_eq (at' size : Nat) (h : at' + size ≤ 32) : (((2 ^ size - 1 : Nat) : Int) * 2 ^ at' % 4294967296) = (((2 ^ size - 1) * 2 ^ at' : Nat) : Int) ∧ (2 ^ size - 1) * 2 ^ at' < 4294967296 := by
  have h1 : (2 ^ size - 1) * 2 ^ at' < 4294967296 := by
    have e : 2 ^ size * 2 ^ at' = 2 ^ (at' + size) := by rw [← Nat.pow_add, Nat.add_comm]
    have := pow_le32 h
    have h2 : (2 ^ size - 1) * 2 ^ at' = 2 ^ size * 2 ^ at' - 2 ^ at' := by rw [Nat.sub_mul, Nat.one_mul]
    have h3 := Nat.two_pow_pos at'
    have h4 := Nat.two_pow_pos size
    have h5 : 2 ^ at' ≤ 2 ^ size * 2 ^ at' := Nat.le_mul_of_pos_left _ h4
    omega
  refine ⟨?_, h1⟩
  have h3 : (((2 ^ size - 1 : Nat) : Int) * 2 ^ at') = (((2 ^ size - 1) * 2 ^ at' : Nat) : Int) := by simp
  rw [h3]
  omega

theorem testBit_mask (at' size j : Nat) : ((2 ^ size - 1) * 2 ^ at').testBit j = (decide (at' ≤ j) && decide (j - at' < size)) := by
  rw [Nat.testBit_mul_two_pow, Nat.testBit_two_pow_sub_one]

theorem set_nat (x at' size v : Nat) (h2 : at' + size ≤ 32) (hx : x < 4294967296) :
    (x &&& (4294967295 - (2 ^ size - 1) * 2 ^ at')) ||| ((v * 2 ^ at' % 4294967296) &&& ((2 ^ size - 1) * 2 ^ at')) = setf x at' size v := by
  have hM := (mask_eq at' size h2).2
  apply Nat.eq_of_testBit_eq
  intro j
  have e1 : (4294967295 - (2 ^ size - 1) * 2 ^ at').testBit j = (decide (j < 32) && !((2 ^ size - 1) * 2 ^ at').testBit j) := by
    have := Nat.testBit_two_pow_sub_succ (n := 32) hM j
    rw [show (2 : Nat) ^ 32 = 4294967296 by decide] at this
    rw [show 4294967295 - (2 ^ size - 1) * 2 ^ at' = 4294967296 - ((2 ^ size - 1) * 2 ^ at' + 1) by omega]
    exact this
  have e2 : (v * 2 ^ at' % 4294967296).testBit j = (decide (j < 32) && (decide (at' ≤ j) && v.testBit (j - at'))) := by
    rw [show (4294967296 : Nat) = 2 ^ 32 by decide, Nat.testBit_mod_two_pow, Nat.testBit_mul_two_pow]
  rw [Nat.testBit_or, Nat.testBit_and, Nat.testBit_and, e1, e2, testBit_mask]
  unfold setf
  rw [Nat.testBit_two_pow_mul_add _ (Nat.mod_lt _ (Nat.two_pow_pos _)), Nat.testBit_two_pow_mul_add _ (Nat.mod_lt _ (Nat.two_pow_pos _))]
  have hx32 : 32 ≤ j → x.testBit j = false := fun h => Nat.testBit_lt_two_pow (Nat.lt_of_lt_of_le hx (Nat.le_trans (by decide : 4294967296 ≤ 2 ^ 32) (Nat.pow_le_pow_right (by omega) h)))
  by_cases h1 : j < at'
  · rw [if_pos h1, Nat.testBit_mod_two_pow]
    have : ¬ at' ≤ j := by omega
    have : j < 32 := by omega
    simp [*]
  · rw [if_neg h1]
    by_cases h3 : j - at' < size
    · rw [if_pos h3, Nat.testBit_mod_two_pow]
      have : at' ≤ j := by omega
      have : j < 32 := by omega
      simp [*]
    · rw [if_neg h3, Nat.testBit_div_two_pow]
      have h4 : j - at' - size + (at' + size) = j := by omega
      have h5 : at' + size + (j - at' - size) = j := by omega
      have h6 : at' ≤ j := by omega
      by_cases h7 : j < 32
      · simp [h3, h4, h6, h7]
      · simp [h3, h4, h6, h7, hx32 (by omega)]

theorem setf_lt (x at' size v : Nat) (h2 : at' + size ≤ 32) (hx : x < 4294967296) : setf x at' size v < 4294967296 := by
  rw [← set_nat x at' size v h2 hx]
  have h1 : (x &&& (4294967295 - (2 ^ size - 1) * 2 ^ at')) < 2 ^ 32 := Nat.lt_of_le_of_lt Nat.and_le_left hx
  have h3 : ((v * 2 ^ at' % 4294967296) &&& ((2 ^ size - 1) * 2 ^ at')) < 2 ^ 32 := Nat.lt_of_le_of_lt Nat.and_le_left (Nat.mod_lt _ (by decide))
  exact Nat.or_lt_two_pow h1 h3

theorem sext_nat (x size : Nat) (h2 : size ≤ 32) : (x % 2 ^ size) ||| (4294967295 ^^^ (2 ^ size - 1)) = x % 2 ^ size + (4294967296 - 2 ^ size) := by
  have hp := pow_le32 h2
  have hpos := Nat.two_pow_pos size
  have hx : 4294967295 ^^^ (2 ^ size - 1) = 2 ^ size * (2 ^ (32 - size) - 1) := by
    apply Nat.eq_of_testBit_eq
    intro j
    rw [Nat.testBit_xor, show (4294967295 : Nat) = 2 ^ 32 - 1 by decide, Nat.testBit_two_pow_sub_one, Nat.testBit_two_pow_sub_one, Nat.mul_comm, Nat.testBit_mul_two_pow, Nat.testBit_two_pow_sub_one]
    by_cases h1 : j < size
    · have : ¬ size ≤ j := by omega
      have : j < 32 := by omega
      simp [*]
    · have : size ≤ j := by omega
      by_cases h3 : j < 32
      · have : j - size < 32 - size := by omega
        simp [*]
      · have : ¬ j - size < 32 - size := by omega
        simp [*]
  rw [hx, Nat.or_comm, ← Nat.two_pow_add_eq_or_of_lt (Nat.mod_lt _ hpos)]
  have : 2 ^ size * (2 ^ (32 - size) - 1) = 4294967296 - 2 ^ size := by
    rw [Nat.mul_sub, Nat.mul_one, ← Nat.pow_add, show size + (32 - size) = 32 by omega]
  omega

theorem ones_eq (size : Nat) (h : size ≤ 32) : ((2 : Int) ^ size % 4294967296 - 1) % 4294967296 = ((2 ^ size - 1 : Nat) : Int) := by
  have h1 := pow_le32 h
  have h2 := Nat.two_pow_pos size
  have h3 : ((2 : Int) ^ size) = ((2 ^ size : Nat) : Int) := by simp
  rw [h3]
  omega

theorem ones_any (size : Nat) (w : World) (h : size ≤ 32) : Calls Try.prog 98 #[.int .i64 size] w fun e w' => e = .returned (.int .u32 (2 ^ size - 1 : Nat)) ∧ w = w' := by
  have hE := Lib.hid (ones_eq size h)
  go_enter Try.func98, Try.ntmps98
  go_wp2
  go_ret
  exact ⟨by rw [← hE.out]; rfl, rfl⟩

theorem sext_any (x size : Nat) (w : World) (h1 : 1 ≤ size) (h2 : size ≤ 32) (hx : x < 4294967296) : Calls Try.prog 71 #[.int .u32 x, .int .i64 size] w fun e w' => e = .returned (.int .u32 (sext x size)) ∧ Below w.heap.size w w' := by
  have d1 : decide ((size : Int) < 1) = false := by simp; omega
  have d2 : decide ((32 : Int) < size) = false := by simp; omega
  have hp := pow_le32 h2
  have hpos := Nat.two_pow_pos size
  have e1 : Hid (bits .and .u32 (x : Int) ((2 ^ size - 1 : Nat) : Int) = ((x % 2 ^ size : Nat) : Int)) := by
    show _ = _
    rw [u32_and_nat _ _ hx (by omega), Nat.and_two_pow_sub_one_eq_mod]
  have e2 : bits .and .u32 ((x : Int) / 2 ^ (size - 1)) 1 = ((x / 2 ^ (size - 1) % 2 : Nat) : Int) := by
    have h3 : x / 2 ^ (size - 1) < 4294967296 := Nat.lt_of_le_of_lt (Nat.div_le_self _ _) hx
    have := u32_and_nat (x / 2 ^ (size - 1)) 1 h3 (by omega)
    rw [Nat.and_one_is_mod] at this
    have e3 : ((x : Int) / 2 ^ (size - 1)) = ((x / 2 ^ (size - 1) : Nat) : Int) := by simp
    rw [e3]
    exact this
  have e4 : Hid (bits .xor .u32 IntKind.u32.max ((2 ^ size - 1 : Nat) : Int) = ((4294967295 ^^^ (2 ^ size - 1) : Nat) : Int)) := by
    show _ = _
    have := u32_xor_nat 4294967295 (2 ^ size - 1) (by omega) (by omega)
    exact this
  have e5 : (4294967295 ^^^ (2 ^ size - 1) : Nat) < 4294967296 := Nat.xor_lt_two_pow (n := 32) (by decide) (by omega)
  clear hp hpos
  by_cases hb : x / 2 ^ (size - 1) % 2 = 1
  · have e6 : (bits .and .u32 ((x : Int) / 2 ^ (size - 1)) 1 == 1) = true := by rw [e2, hb]; rfl
    have hv : Hid (sext x size = x % 2 ^ size + (4294967296 - 2 ^ size)) := by show _ = _; simp [sext, hb]
    clear e2 hb
    go_enter Try.func71, Try.ntmps71
    go_wp2_with (go_at_call 98; refine (ones_any size _ (by omega)).mono ?_; rintro e w' ⟨rfl, rfl⟩)
    go_ret
    refine ⟨?_, below_self _⟩
    have e7 : bits .or .u32 (bits .and .u32 (x : Int) ((2 ^ size - 1 : Nat) : Int)) (bits .xor .u32 IntKind.u32.max ((2 ^ size - 1 : Nat) : Int)) = ((sext x size : Nat) : Int) := by
      rw [hv.out, ← sext_nat x size h2, e1.out, e4.out, u32_or_nat _ _ (Nat.lt_of_le_of_lt (Nat.mod_le _ _) hx) e5]
    rw [← e7]
    rfl
  · have e6 : (bits .and .u32 ((x : Int) / 2 ^ (size - 1)) 1 == 1) = false := by rw [e2]; simp only [beq_eq_false_iff_ne]; omega
    have hv : Hid (sext x size = x % 2 ^ size) := by show _ = _; simp [sext, hb]
    clear e2 hb
    go_enter Try.func71, Try.ntmps71
    go_wp2_with (go_at_call 98; refine (ones_any size _ (by omega)).mono ?_; rintro e w' ⟨rfl, rfl⟩)
    go_ret
    refine ⟨?_, below_self _⟩
    rw [hv.out, ← e1.out]
    rfl
end Go.Proofs.Ytckjihpdjefpgaa
