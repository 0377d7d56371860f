
/- The contracts of package divide: sizes, quotients, how long a division takes. -/
import Derived.Test.YtckjihpdjefpgaaAlu
import Derived.Test.YtckjihpdjefpgaaLen
import Derived.Lib.ItoaNum
import Derived.Test.YtckjihpdjefpgaaMine
namespace Go.Proofs.Ytckjihpdjefpgaa
open Go.RowKit

def sizeP (op : Int) (x : Nat) : Nat := if (op = 42 ∨ op = 44) ∧ 2147483648 ≤ x then 4294967296 - x else x
def backP (op : Int) (s x : Nat) : Nat := if (op = 42 ∨ op = 44) ∧ 2147483648 ≤ x then (4294967296 - s) % 4294967296 else s
def divP (op : Int) (a b : Nat) : Nat :=
  if op = 42 ∨ op = 43 then (if b = 0 then 4294967295 else backP op (sizeP op a / sizeP op b) (a ^^^ b))
  else if op = 44 ∨ op = 45 then (if b = 0 then a else backP op (sizeP op a % sizeP op b) a) else 0
def lenP (x : Nat) : Nat := Lib.bitLen x
def tookP (op : Int) (a b : Nat) : Nat :=
  if op < 42 ∨ 45 < op then 0 else if b = 0 ∨ sizeP op a < sizeP op b then 2 else 3 + lenP (sizeP op a) - lenP (sizeP op b)

theorem sizeP_lt (op : Int) (x : Nat) (h : x < 4294967296) : sizeP op x < 4294967296 := by unfold sizeP; split <;> omega
theorem sizeP_pos (op : Int) (x : Nat) (h : x < 4294967296) (h0 : x ≠ 0) : 0 < sizeP op x := by unfold sizeP; split <;> omega

set_option maxHeartbeats 4000000 in
theorem size_w (op : Int) (x : Nat) (w : World) (hx : x < 4294967296) : Calls Try.prog 67 #[.int .i64 op, .int .u32 x] w fun e w' => e = .returned (.int .u32 (sizeP op x)) ∧ w = w' := by
  have wx := i32_wrap x hx
  have hc : (op = 42 ∧ 2147483648 ≤ x) ∨ (op = 42 ∧ x < 2147483648) ∨ (op = 44 ∧ 2147483648 ≤ x) ∨ (op = 44 ∧ x < 2147483648) ∨ (op ≠ 42 ∧ op ≠ 44) := by omega
  have hs : (2147483648 ≤ x → decide (sgn x < 0) = true) ∧ (x < 2147483648 → decide (sgn x < 0) = false) := by
    unfold sgn
    constructor
    · intro h; rw [if_neg (by omega)]; simp; omega
    · intro h; rw [if_pos (by omega)]; simp
  have hb := Lib.hid hs
  clear hs
  rcases hc with ⟨rfl, h⟩ | ⟨rfl, h⟩ | ⟨rfl, h⟩ | ⟨rfl, h⟩ | ⟨h1, h2⟩
  · have hd := hb.out.1 h
    go_enter Try.func67, Try.ntmps67
    go_wp2_with fail
    go_ret
    refine ⟨ret_u32 ?_, rfl⟩
    rw [show sizeP 42 x = 4294967296 - x by simp [sizeP, h]]
    omega
  · have hd := hb.out.2 h
    go_enter Try.func67, Try.ntmps67
    go_wp2_with fail
    go_ret
    refine ⟨ret_u32 ?_, rfl⟩
    rw [show sizeP 42 x = x by unfold sizeP; rw [if_neg (by omega)]]
  · have hd := hb.out.1 h
    go_enter Try.func67, Try.ntmps67
    go_wp2_with fail
    go_ret
    refine ⟨ret_u32 ?_, rfl⟩
    rw [show sizeP 44 x = 4294967296 - x by simp [sizeP, h]]
    omega
  · have hd := hb.out.2 h
    go_enter Try.func67, Try.ntmps67
    go_wp2_with fail
    go_ret
    refine ⟨ret_u32 ?_, rfl⟩
    rw [show sizeP 44 x = x by unfold sizeP; rw [if_neg (by omega)]]
  · have m1 : (op == (42 : Int)) = false := by simpa using h1
    have m2 : (op == (44 : Int)) = false := by simpa using h2
    have hv : Hid (sizeP op x = x) := by show _ = _; unfold sizeP; rw [if_neg (by omega)]
    clear h1 h2
    go_enter Try.func67, Try.ntmps67
    go_wp2_with fail
    go_ret
    exact ⟨by rw [hv.out]; rfl, rfl⟩

theorem lenP_le (x : Nat) (h : x < 4294967296) : lenP x ≤ 32 := Lib.bitLen_le x 32 (by decide) h
theorem lenP_pos (x : Nat) (h : x < 4294967296) (h0 : x ≠ 0) : 1 ≤ lenP x := (Lib.bitLenAux_bounds 64 x (Nat.lt_trans h (by decide)) h0).1
theorem lenP_mono (x y : Nat) (hx : x < 4294967296) (hy : y < 4294967296) (h : x ≤ y) (h0 : x ≠ 0) : lenP x ≤ lenP y := by
  obtain ⟨a1, a2, a3⟩ := Lib.bitLenAux_bounds 64 x (Nat.lt_trans hx (by decide)) h0
  obtain ⟨b1, b2, b3⟩ := Lib.bitLenAux_bounds 64 y (Nat.lt_trans hy (by decide)) (by omega)
  have h1 : 2 ^ (Lib.bitLenAux 64 x - 1) < 2 ^ Lib.bitLenAux 64 y := Nat.lt_of_le_of_lt a2 (Nat.lt_of_le_of_lt h b3)
  have h2 : Lib.bitLenAux 64 x - 1 < Lib.bitLenAux 64 y := (Nat.pow_lt_pow_iff_right (by decide)).1 h1
  show Lib.bitLenAux 64 x ≤ Lib.bitLenAux 64 y
  omega

theorem bits_any (x : Nat) (w : World) (hx : x < 4294967296) : Calls Try.prog 68 #[.int .u32 x] w fun e w' => e = .returned (.int .i64 (lenP x)) ∧ w = w' := by
  go_enter Try.func68, Try.ntmps68
  go_wp2_with (go_at_call 96; refine (len32_any x _ hx).mono ?_; rintro e w' ⟨rfl, rfl⟩)
  go_ret
  exact ⟨rfl, rfl⟩

theorem tookP_bounds (op : Int) (a b : Nat) (ha : a < 4294967296) (hb : b < 4294967296) (h1 : 42 ≤ op) (h2 : op ≤ 45) : 2 ≤ tookP op a b ∧ tookP op a b ≤ 34 := by
  unfold tookP
  rw [if_neg (by omega)]
  by_cases hc : b = 0 ∨ sizeP op a < sizeP op b
  · rw [if_pos hc]; omega
  · rw [if_neg hc]
    have hb0 : b ≠ 0 := fun h => hc (.inl h)
    have p := sizeP_pos op b hb hb0
    have l1 := lenP_le _ (sizeP_lt op a ha)
    have l2 := lenP_pos _ (sizeP_lt op b hb) (by omega)
    have l3 := lenP_mono _ _ (sizeP_lt op b hb) (sizeP_lt op a ha) (by omega) (by omega)
    omega

set_option maxHeartbeats 4000000 in
theorem took_any (op : Int) (a b : Nat) (w : World) (ha : a < 4294967296) (hb : b < 4294967296) : Calls Try.prog 30 #[.int .i64 op, .int .u32 a, .int .u32 b] w fun e w' => e = .returned (.int .i64 (tookP op a b)) ∧ w = w' := by
  by_cases h1 : op < 42
  · have hv : Hid (tookP op a b = 0) := by show _ = _; unfold tookP; rw [if_pos (.inl h1)]
    go_enter Try.func30, Try.ntmps30
    go_wp2_with fail
    go_ret
    exact ⟨by rw [hv.out]; rfl, rfl⟩
  by_cases h2 : 45 < op
  · have hv : Hid (tookP op a b = 0) := by show _ = _; unfold tookP; rw [if_pos (.inr h2)]
    have d1 : decide (op < 42) = false := by simp; omega
    go_enter Try.func30, Try.ntmps30
    go_wp2_with fail
    go_ret
    exact ⟨by rw [hv.out]; rfl, rfl⟩
  have d1 : decide (op < 42) = false := by simp; omega
  have d2 : decide (45 < op) = false := by simp; omega
  have ca := fun w => size_w op a w ha
  have cb := fun w => size_w op b w hb
  have la := sizeP_lt op a ha
  have lb := sizeP_lt op b hb
  have pb := sizeP_pos op b hb
  have hv : tookP op a b = if b = 0 ∨ sizeP op a < sizeP op b then 2 else 3 + lenP (sizeP op a) - lenP (sizeP op b) := by unfold tookP; rw [if_neg (by omega)]
  generalize sizeP op a = x at *
  generalize sizeP op b = y at *
  generalize tookP op a b = t at *
  by_cases hb0 : b = 0
  · rw [if_pos (.inl hb0)] at hv
    subst hv hb0
    go_enter Try.func30, Try.ntmps30
    go_wp2_with fail
    refine (ca _).mono ?_; rintro e w' ⟨rfl, rfl⟩
    go_wp2_with fail
    refine (cb _).mono ?_; rintro e w' ⟨rfl, rfl⟩
    go_wp2_with fail
    go_ret
    exact ⟨rfl, rfl⟩
  by_cases hxy : x < y
  · rw [if_pos (.inr hxy)] at hv
    subst hv
    have m1 : ((b : Int) == 0) = false := by simp; omega
    go_enter Try.func30, Try.ntmps30
    go_wp2_with fail
    refine (ca _).mono ?_; rintro e w' ⟨rfl, rfl⟩
    go_wp2_with fail
    refine (cb _).mono ?_; rintro e w' ⟨rfl, rfl⟩
    go_wp2_with fail
    go_ret
    exact ⟨rfl, rfl⟩
  · rw [if_neg (by omega)] at hv
    have m1 : ((b : Int) == 0) = false := by simp; omega
    have m2 : decide ((x : Int) < y) = false := by simp; omega
    have m3 : y ≤ x := by omega
    have cx := fun w => bits_any x w la
    have cy := fun w => bits_any y w lb
    have hy0 := pb hb0
    have l1 := lenP_le x la
    have l2 := lenP_le y lb
    have l3 := lenP_mono y x lb la (by omega) (by omega)
    generalize lenP x = m at *
    generalize lenP y = n at *
    have hq : Hid ((2 : Int) + m - n + 1 = (t : Int)) := by show _ = _; omega
    clear hv pb hxy
    go_enter Try.func30, Try.ntmps30
    go_wp2_with fail
    refine (ca _).mono ?_; rintro e w' ⟨rfl, rfl⟩
    go_wp2_with fail
    refine (cb _).mono ?_; rintro e w' ⟨rfl, rfl⟩
    go_wp2_with fail
    refine (cx _).mono ?_; rintro e w' ⟨rfl, rfl⟩
    go_wp2_with fail
    refine (cy _).mono ?_; rintro e w' ⟨rfl, rfl⟩
    go_wp2_with fail
    go_ret
    exact ⟨by rw [← hq.out]; rfl, rfl⟩
end Go.Proofs.Ytckjihpdjefpgaa
