/- The contract of word.Sext. -/
import Derived.Test.YtckjihpdjefpgaaBase
import Derived.Test.YtckjihpdjefpgaaProg
namespace Go.Proofs.Ytckjihpdjefpgaa
open Go.RowKit

def sext (x size : Nat) : Nat := if x / 2 ^ (size - 1) % 2 = 1 then x % 2 ^ size + (4294967296 - 2 ^ size) else x % 2 ^ size
theorem pow_le32 {n : Nat} (h : n ≤ 32) : 2 ^ n ≤ 4294967296 := Nat.le_trans (Nat.pow_le_pow_right (by omega) h) (by decide)

theorem sext_nat (x size : Nat) (h2 : size ≤ 32) : (x % 2 ^ size) ||| (4294967295 ^^^ (2 ^ size - 1)) = x % 2 ^ size + (4294967296 - 2 ^ size) := by
  have hp := pow_le32 h2
  have hpos := Nat.two_pow_pos size
  have hx : 4294967295 ^^^ (2 ^ size - 1) = 2 ^ size * (2 ^ (32 - size) - 1) := by
    apply Nat.eq_of_testBit_eq
    intro j
    rw [Nat.testBit_xor, show (4294967295 : Nat) = 2 ^ 32 - 1 by decide, Nat.testBit_two_pow_sub_one, Nat.testBit_two_pow_sub_one, Nat.mul_comm, Nat.testBit_mul_two_pow, Nat.testBit_two_pow_sub_one]
    by_cases h1 : j < size
    · have : ¬ size ≤ j := by omega
      have : j < 32 := by omega
      simp [*]
    · have : size ≤ j := by omega
      by_cases h3 : j < 32
      · have : j - size < 32 - size := by omega
        simp [*]
      · have : ¬ j - size < 32 - size := by omega
        simp [*]
  rw [hx, Nat.or_comm, ← Nat.two_pow_add_eq_or_of_lt (Nat.mod_lt _ hpos)]
  have : 2 ^ size * (2 ^ (32 - size) - 1) = 4294967296 - 2 ^ size := by
    rw [Nat.mul_sub, Nat.mul_one, ← Nat.pow_add, show size + (32 - size) = 32 by omega]
  omega

theorem ones_eq (size : Nat) (h : size ≤ 32) : ((2 : Int) ^ size % 4294967296 - 1) % 4294967296 = ((2 ^ size - 1 : Nat) : Int) := by
  have h1 := pow_le32 h
  have h2 := Nat.two_pow_pos size
  have h3 : ((2 : Int) ^ size) = ((2 ^ size : Nat) : Int) := by simp
  rw [h3]
  omega

theorem ones_any (size : Nat) (w : World) (h : size ≤ 32) : Calls Try.prog 98 #[.int .i64 size] w fun e w' => e = .returned (.int .u32 (2 ^ size - 1 : Nat)) ∧ w = w' := by
  have hE := Lib.hid (ones_eq size h)
  go_enter Try.func98, Try.ntmps98
  go_wp2
  go_ret
  exact ⟨by rw [← hE.out]; rfl, rfl⟩

theorem sext_any (x size : Nat) (w : World) (h1 : 1 ≤ size) (h2 : size ≤ 32) (hx : x < 4294967296) : Calls Try.prog 71 #[.int .u32 x, .int .i64 size] w fun e w' => e = .returned (.int .u32 (sext x size)) ∧ Below w.heap.size w w' := by
  have d1 : decide ((size : Int) < 1) = false := by simp; omega
  have d2 : decide ((32 : Int) < size) = false := by simp; omega
  have hp := pow_le32 h2
  have hpos := Nat.two_pow_pos size
  have e1 : Hid (bits .and .u32 (x : Int) ((2 ^ size - 1 : Nat) : Int) = ((x % 2 ^ size : Nat) : Int)) := by
    show _ = _
    rw [u32_and_nat _ _ hx (by omega), Nat.and_two_pow_sub_one_eq_mod]
  have e2 : bits .and .u32 ((x : Int) / 2 ^ (size - 1)) 1 = ((x / 2 ^ (size - 1) % 2 : Nat) : Int) := by
    have h3 : x / 2 ^ (size - 1) < 4294967296 := Nat.lt_of_le_of_lt (Nat.div_le_self _ _) hx
    have := u32_and_nat (x / 2 ^ (size - 1)) 1 h3 (by omega)
    rw [Nat.and_one_is_mod] at this
    have e3 : ((x : Int) / 2 ^ (size - 1)) = ((x / 2 ^ (size - 1) : Nat) : Int) := by simp
    rw [e3]
    exact this
  have e4 : Hid (bits .xor .u32 IntKind.u32.max ((2 ^ size - 1 : Nat) : Int) = ((4294967295 ^^^ (2 ^ size - 1) : Nat) : Int)) := by
    show _ = _
    have := u32_xor_nat 4294967295 (2 ^ size - 1) (by omega) (by omega)
    exact this
  have e5 : (4294967295 ^^^ (2 ^ size - 1) : Nat) < 4294967296 := Nat.xor_lt_two_pow (n := 32) (by decide) (by omega)
  clear hp hpos
  by_cases hb : x / 2 ^ (size - 1) % 2 = 1
  · have e6 : (bits .and .u32 ((x : Int) / 2 ^ (size - 1)) 1 == 1) = true := by rw [e2, hb]; rfl
    have hv : Hid (sext x size = x % 2 ^ size + (4294967296 - 2 ^ size)) := by show _ = _; simp [sext, hb]
    clear e2 hb
    go_enter Try.func71, Try.ntmps71
    go_wp2_with (go_at_call 98; refine (ones_any size _ (by omega)).mono ?_; rintro e w' ⟨rfl, rfl⟩)
    go_ret
    refine ⟨?_, below_self _⟩
    have e7 : bits .or .u32 (bits .and .u32 (x : Int) ((2 ^ size - 1 : Nat) : Int)) (bits .xor .u32 IntKind.u32.max ((2 ^ size - 1 : Nat) : Int)) = ((sext x size : Nat) : Int) := by
      rw [hv.out, ← sext_nat x size h2, e1.out, e4.out, u32_or_nat _ _ (Nat.lt_of_le_of_lt (Nat.mod_le _ _) hx) e5]
    rw [← e7]
    rfl
  · have e6 : (bits .and .u32 ((x : Int) / 2 ^ (size - 1)) 1 == 1) = false := by rw [e2]; simp only [beq_eq_false_iff_ne]; omega
    have hv : Hid (sext x size = x % 2 ^ size) := by show _ = _; simp [sext, hb]
    clear e2 hb
    go_enter Try.func71, Try.ntmps71
    go_wp2_with (go_at_call 98; refine (ones_any size _ (by omega)).mono ?_; rintro e w' ⟨rfl, rfl⟩)
    go_ret
    refine ⟨?_, below_self _⟩
    rw [hv.out, ← e1.out]
    rfl
theorem sext_lt (x n : Nat) (h2 : n ≤ 32) : sext x n < 4294967296 := by
  have hp := pow_le32 h2
  have := Nat.mod_lt x (Nat.two_pow_pos n)
  unfold sext
  split <;> omega
end Go.Proofs.Ytckjihpdjefpgaa
