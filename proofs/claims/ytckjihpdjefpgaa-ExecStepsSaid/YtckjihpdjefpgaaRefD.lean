
/- The walk of the reference's Decode (printed by wip/bin/refdgen.py). -/
import Derived.Test.YtckjihpdjefpgaaRefO
import Derived.Test.YtckjihpdjefpgaaMine
import Derived.Deep.DeepCutAuto
namespace Go.Proofs.Ytckjihpdjefpgaa
open Go.RowKit

def letter (f : Nat) : Nat := if f = 1 then 82 else if f = 2 then 73 else if f = 3 then 84 else if f = 4 then 83 else if f = 5 then 66 else if f = 6 then 85 else if f = 7 then 74 else if f = 8 then 87 else 0

set_option maxHeartbeats 8000000 in
theorem rForm_any (k : Nat) (w : World) (h1 : 1 ≤ k) (h2 : k ≤ 48) : Calls Try.prog 32 #[.int .i64 k] w fun e w' => e = .returned (.int .u8 (letter (formOf k) : Nat)) ∧ w = w' := by
  have hc : k = 1 ∨ k = 2 ∨ k = 3 ∨ k = 4 ∨ k = 5 ∨ k = 6 ∨ k = 7 ∨ k = 8 ∨ k = 9 ∨ k = 10 ∨ k = 11 ∨ k = 12 ∨ k = 13 ∨ k = 14 ∨ k = 15 ∨ k = 16 ∨ k = 17 ∨ k = 18 ∨ k = 19 ∨ k = 20 ∨ k = 21 ∨ k = 22 ∨ k = 23 ∨ k = 24 ∨ k = 25 ∨ k = 26 ∨ k = 27 ∨ k = 28 ∨ k = 29 ∨ k = 30 ∨ k = 31 ∨ k = 32 ∨ k = 33 ∨ k = 34 ∨ k = 35 ∨ k = 36 ∨ k = 37 ∨ k = 38 ∨ k = 39 ∨ k = 40 ∨ k = 41 ∨ k = 42 ∨ k = 43 ∨ k = 44 ∨ k = 45 ∨ k = 46 ∨ k = 47 ∨ k = 48 := by omega
  rcases hc with rfl | rfl | rfl | rfl | rfl | rfl | rfl | rfl | rfl | rfl | rfl | rfl | rfl | rfl | rfl | rfl | rfl | rfl | rfl | rfl | rfl | rfl | rfl | rfl | rfl | rfl | rfl | rfl | rfl | rfl | rfl | rfl | rfl | rfl | rfl | rfl | rfl | rfl | rfl | rfl | rfl | rfl | rfl | rfl | rfl | rfl | rfl | rfl
  all_goals
    clear h1 h2
    go_enter Try.func32, Try.ntmps32
    go_wp2
    go_ret
    exact ⟨rfl, rfl⟩

set_option maxHeartbeats 2000000 in
theorem rnumber_1 (x : Nat) (w : World) : Calls Try.prog 38 #[.int .u32 x, .int .u8 82] w fun e w' => e = .returned (.int .u32 (numR x 1 : Nat)) ∧ Below w.heap.size w w' := by
  have ct : ∀ w, Calls Try.prog 39 #[.int .u32 x, .int .i64 31, .int .i64 31] w fun e w' => e = .returned (.int .u32 (field x 31 1)) ∧ Below w.heap.size w w' := fun w => rF_any x 31 31 w (by decide) (by decide)
  have lt : field x 31 1 < 2 := field_lt x 31 1
  obtain ⟨R, hR⟩ : ∃ R, R = numR x 1 := ⟨_, rfl⟩
  rw [← hR]
  have hR2 : R = 0 := hR
  clear hR
  generalize field x 31 1 = t at *
  have HR := Lib.hid hR2
  clear hR2
  go_enter Try.func38, Try.ntmps38
  go_wp2_with fail
  refine (ct _).mono ?_; rintro e w1 ⟨rfl, hb⟩
  go_wp2_with fail
  go_ret
  exact ⟨by rw [HR.out]; rfl, hb⟩

set_option maxHeartbeats 2000000 in
theorem rnumber_2 (x : Nat) (w : World) : Calls Try.prog 38 #[.int .u32 x, .int .u8 73] w fun e w' => e = .returned (.int .u32 (numR x 2 : Nat)) ∧ Below w.heap.size w w' := by
  have ct : ∀ w, Calls Try.prog 39 #[.int .u32 x, .int .i64 31, .int .i64 31] w fun e w' => e = .returned (.int .u32 (field x 31 1)) ∧ Below w.heap.size w w' := fun w => rF_any x 31 31 w (by decide) (by decide)
  have lt : field x 31 1 < 2 := field_lt x 31 1
  have ca : ∀ w, Calls Try.prog 39 #[.int .u32 x, .int .i64 20, .int .i64 31] w fun e w' => e = .returned (.int .u32 (field x 20 12)) ∧ Below w.heap.size w w' := fun w => rF_any x 20 31 w (by decide) (by decide)
  have la : field x 20 12 < 4096 := field_lt x 20 12
  obtain ⟨R, hR⟩ : ∃ R, R = numR x 2 := ⟨_, rfl⟩
  rw [← hR]
  have hR2 : R = sext (field x 20 12) 12 := hR
  clear hR
  generalize field x 31 1 = t at *
  generalize field x 20 12 = a at *
  have HR := Lib.hid hR2
  clear hR2
  go_enter Try.func38, Try.ntmps38
  go_wp2_with fail
  refine (ct _).mono ?_; rintro e w1 ⟨rfl, hb⟩
  go_wp2_with fail
  refine (ca _).mono ?_; rintro e w2 ⟨rfl, b2⟩; replace hb := hb.and b2; clear b2
  go_wp2_with fail
  refine (rsext_any (a) 12 _ (by decide) (by decide)).mono ?_; rw [← HR.out]; rintro e w2 ⟨rfl, b2⟩; replace hb := hb.and b2; clear b2
  go_wp2_with fail
  go_ret
  exact ⟨rfl, hb⟩

set_option maxHeartbeats 2000000 in
theorem rnumber_3 (x : Nat) (w : World) : Calls Try.prog 38 #[.int .u32 x, .int .u8 84] w fun e w' => e = .returned (.int .u32 (numR x 3 : Nat)) ∧ Below w.heap.size w w' := by
  have ct : ∀ w, Calls Try.prog 39 #[.int .u32 x, .int .i64 31, .int .i64 31] w fun e w' => e = .returned (.int .u32 (field x 31 1)) ∧ Below w.heap.size w w' := fun w => rF_any x 31 31 w (by decide) (by decide)
  have lt : field x 31 1 < 2 := field_lt x 31 1
  have ca : ∀ w, Calls Try.prog 39 #[.int .u32 x, .int .i64 20, .int .i64 24] w fun e w' => e = .returned (.int .u32 (field x 20 5)) ∧ Below w.heap.size w w' := fun w => rF_any x 20 24 w (by decide) (by decide)
  have la : field x 20 5 < 32 := field_lt x 20 5
  obtain ⟨R, hR⟩ : ∃ R, R = numR x 3 := ⟨_, rfl⟩
  rw [← hR]
  have hR2 : R = field x 20 5 := hR
  clear hR
  generalize field x 31 1 = t at *
  generalize field x 20 5 = a at *
  have HR := Lib.hid hR2
  clear hR2
  go_enter Try.func38, Try.ntmps38
  go_wp2_with fail
  refine (ct _).mono ?_; rintro e w1 ⟨rfl, hb⟩
  go_wp2_with fail
  refine (ca _).mono ?_; rintro e w2 ⟨rfl, b2⟩; replace hb := hb.and b2; clear b2
  go_wp2_with fail
  go_ret
  exact ⟨by rw [HR.out]; rfl, hb⟩

set_option maxHeartbeats 2000000 in
theorem rnumber_4 (x : Nat) (w : World) : Calls Try.prog 38 #[.int .u32 x, .int .u8 83] w fun e w' => e = .returned (.int .u32 (numR x 4 : Nat)) ∧ Below w.heap.size w w' := by
  have ct : ∀ w, Calls Try.prog 39 #[.int .u32 x, .int .i64 31, .int .i64 31] w fun e w' => e = .returned (.int .u32 (field x 31 1)) ∧ Below w.heap.size w w' := fun w => rF_any x 31 31 w (by decide) (by decide)
  have lt : field x 31 1 < 2 := field_lt x 31 1
  have ca : ∀ w, Calls Try.prog 39 #[.int .u32 x, .int .i64 7, .int .i64 11] w fun e w' => e = .returned (.int .u32 (field x 7 5)) ∧ Below w.heap.size w w' := fun w => rF_any x 7 11 w (by decide) (by decide)
  have la : field x 7 5 < 32 := field_lt x 7 5
  have cb : ∀ w, Calls Try.prog 39 #[.int .u32 x, .int .i64 25, .int .i64 31] w fun e w' => e = .returned (.int .u32 (field x 25 7)) ∧ Below w.heap.size w w' := fun w => rF_any x 25 31 w (by decide) (by decide)
  have lb : field x 25 7 < 128 := field_lt x 25 7
  obtain ⟨R, hR⟩ : ∃ R, R = numR x 4 := ⟨_, rfl⟩
  rw [← hR]
  have hR2 : R = sext (field x 7 5 + 32 * field x 25 7) 12 := hR
  clear hR
  generalize field x 31 1 = t at *
  generalize field x 7 5 = a at *
  generalize field x 25 7 = b at *
  have HR := Lib.hid hR2
  clear hR2
  have hy : Hid ((a : Int) + 32 * (b : Int) = ((a + 32 * b : Nat) : Int)) := by show _ = _; omega
  have hyl : a + 32 * b < 4294967296 := by omega
  go_enter Try.func38, Try.ntmps38
  go_wp2_with fail
  refine (ct _).mono ?_; rintro e w1 ⟨rfl, hb⟩
  go_wp2_with fail
  refine (ca _).mono ?_; rintro e w2 ⟨rfl, b2⟩; replace hb := hb.and b2; clear b2
  go_wp2_with fail
  refine (cb _).mono ?_; rintro e w2 ⟨rfl, b2⟩; replace hb := hb.and b2; clear b2
  go_wp2_with fail
  rw [hy.out]
  refine (rsext_any (a + 32 * b) 12 _ (by decide) (by decide)).mono ?_; rw [← HR.out]; rintro e w2 ⟨rfl, b2⟩; replace hb := hb.and b2; clear b2
  go_wp2_with fail
  go_ret
  exact ⟨rfl, hb⟩

set_option maxHeartbeats 2000000 in
theorem rnumber_5 (x : Nat) (w : World) : Calls Try.prog 38 #[.int .u32 x, .int .u8 66] w fun e w' => e = .returned (.int .u32 (numR x 5 : Nat)) ∧ Below w.heap.size w w' := by
  have ct : ∀ w, Calls Try.prog 39 #[.int .u32 x, .int .i64 31, .int .i64 31] w fun e w' => e = .returned (.int .u32 (field x 31 1)) ∧ Below w.heap.size w w' := fun w => rF_any x 31 31 w (by decide) (by decide)
  have lt : field x 31 1 < 2 := field_lt x 31 1
  have ca : ∀ w, Calls Try.prog 39 #[.int .u32 x, .int .i64 8, .int .i64 11] w fun e w' => e = .returned (.int .u32 (field x 8 4)) ∧ Below w.heap.size w w' := fun w => rF_any x 8 11 w (by decide) (by decide)
  have la : field x 8 4 < 16 := field_lt x 8 4
  have cb : ∀ w, Calls Try.prog 39 #[.int .u32 x, .int .i64 25, .int .i64 30] w fun e w' => e = .returned (.int .u32 (field x 25 6)) ∧ Below w.heap.size w w' := fun w => rF_any x 25 30 w (by decide) (by decide)
  have lb : field x 25 6 < 64 := field_lt x 25 6
  have cc : ∀ w, Calls Try.prog 39 #[.int .u32 x, .int .i64 7, .int .i64 7] w fun e w' => e = .returned (.int .u32 (field x 7 1)) ∧ Below w.heap.size w w' := fun w => rF_any x 7 7 w (by decide) (by decide)
  have lc : field x 7 1 < 2 := field_lt x 7 1
  obtain ⟨R, hR⟩ : ∃ R, R = numR x 5 := ⟨_, rfl⟩
  rw [← hR]
  have hR2 : R = sext (2 * field x 8 4 + 32 * field x 25 6 + 2048 * field x 7 1 + 4096 * field x 31 1) 13 := hR
  clear hR
  generalize field x 31 1 = t at *
  generalize field x 8 4 = a at *
  generalize field x 25 6 = b at *
  generalize field x 7 1 = c at *
  have HR := Lib.hid hR2
  clear hR2
  have hy : Hid (2 * (a : Int) + 32 * (b : Int) + 2048 * (c : Int) + 4096 * (t : Int) = ((2 * a + 32 * b + 2048 * c + 4096 * t : Nat) : Int)) := by show _ = _; omega
  have hyl : 2 * a + 32 * b + 2048 * c + 4096 * t < 4294967296 := by omega
  go_enter Try.func38, Try.ntmps38
  go_wp2_with fail
  refine (ct _).mono ?_; rintro e w1 ⟨rfl, hb⟩
  go_wp2_with fail
  refine (ca _).mono ?_; rintro e w2 ⟨rfl, b2⟩; replace hb := hb.and b2; clear b2
  go_wp2_with fail
  refine (cb _).mono ?_; rintro e w2 ⟨rfl, b2⟩; replace hb := hb.and b2; clear b2
  go_wp2_with fail
  refine (cc _).mono ?_; rintro e w2 ⟨rfl, b2⟩; replace hb := hb.and b2; clear b2
  go_wp2_with fail
  rw [hy.out]
  refine (rsext_any (2 * a + 32 * b + 2048 * c + 4096 * t) 13 _ (by decide) (by decide)).mono ?_; rw [← HR.out]; rintro e w2 ⟨rfl, b2⟩; replace hb := hb.and b2; clear b2
  go_wp2_with fail
  go_ret
  exact ⟨rfl, hb⟩

set_option maxHeartbeats 2000000 in
theorem rnumber_6 (x : Nat) (w : World) : Calls Try.prog 38 #[.int .u32 x, .int .u8 85] w fun e w' => e = .returned (.int .u32 (numR x 6 : Nat)) ∧ Below w.heap.size w w' := by
  have ct : ∀ w, Calls Try.prog 39 #[.int .u32 x, .int .i64 31, .int .i64 31] w fun e w' => e = .returned (.int .u32 (field x 31 1)) ∧ Below w.heap.size w w' := fun w => rF_any x 31 31 w (by decide) (by decide)
  have lt : field x 31 1 < 2 := field_lt x 31 1
  have ca : ∀ w, Calls Try.prog 39 #[.int .u32 x, .int .i64 12, .int .i64 31] w fun e w' => e = .returned (.int .u32 (field x 12 20)) ∧ Below w.heap.size w w' := fun w => rF_any x 12 31 w (by decide) (by decide)
  have la : field x 12 20 < 1048576 := field_lt x 12 20
  obtain ⟨R, hR⟩ : ∃ R, R = numR x 6 := ⟨_, rfl⟩
  rw [← hR]
  have hR2 : R = 4096 * field x 12 20 := hR
  clear hR
  generalize field x 31 1 = t at *
  generalize field x 12 20 = a at *
  have HR := Lib.hid hR2
  clear hR2
  go_enter Try.func38, Try.ntmps38
  go_wp2_with fail
  refine (ct _).mono ?_; rintro e w1 ⟨rfl, hb⟩
  go_wp2_with fail
  refine (ca _).mono ?_; rintro e w2 ⟨rfl, b2⟩; replace hb := hb.and b2; clear b2
  go_wp2_with fail
  go_ret
  exact ⟨by rw [HR.out]; rfl, hb⟩

set_option maxHeartbeats 2000000 in
theorem rnumber_7 (x : Nat) (w : World) : Calls Try.prog 38 #[.int .u32 x, .int .u8 74] w fun e w' => e = .returned (.int .u32 (numR x 7 : Nat)) ∧ Below w.heap.size w w' := by
  have ct : ∀ w, Calls Try.prog 39 #[.int .u32 x, .int .i64 31, .int .i64 31] w fun e w' => e = .returned (.int .u32 (field x 31 1)) ∧ Below w.heap.size w w' := fun w => rF_any x 31 31 w (by decide) (by decide)
  have lt : field x 31 1 < 2 := field_lt x 31 1
  have ca : ∀ w, Calls Try.prog 39 #[.int .u32 x, .int .i64 21, .int .i64 30] w fun e w' => e = .returned (.int .u32 (field x 21 10)) ∧ Below w.heap.size w w' := fun w => rF_any x 21 30 w (by decide) (by decide)
  have la : field x 21 10 < 1024 := field_lt x 21 10
  have cb : ∀ w, Calls Try.prog 39 #[.int .u32 x, .int .i64 20, .int .i64 20] w fun e w' => e = .returned (.int .u32 (field x 20 1)) ∧ Below w.heap.size w w' := fun w => rF_any x 20 20 w (by decide) (by decide)
  have lb : field x 20 1 < 2 := field_lt x 20 1
  have cc : ∀ w, Calls Try.prog 39 #[.int .u32 x, .int .i64 12, .int .i64 19] w fun e w' => e = .returned (.int .u32 (field x 12 8)) ∧ Below w.heap.size w w' := fun w => rF_any x 12 19 w (by decide) (by decide)
  have lc : field x 12 8 < 256 := field_lt x 12 8
  obtain ⟨R, hR⟩ : ∃ R, R = numR x 7 := ⟨_, rfl⟩
  rw [← hR]
  have hR2 : R = sext (2 * field x 21 10 + 2048 * field x 20 1 + 4096 * field x 12 8 + 1048576 * field x 31 1) 21 := hR
  clear hR
  generalize field x 31 1 = t at *
  generalize field x 21 10 = a at *
  generalize field x 20 1 = b at *
  generalize field x 12 8 = c at *
  have HR := Lib.hid hR2
  clear hR2
  have hy : Hid (2 * (a : Int) + 2048 * (b : Int) + 4096 * (c : Int) + 1048576 * (t : Int) = ((2 * a + 2048 * b + 4096 * c + 1048576 * t : Nat) : Int)) := by show _ = _; omega
  have hyl : 2 * a + 2048 * b + 4096 * c + 1048576 * t < 4294967296 := by omega
  go_enter Try.func38, Try.ntmps38
  go_wp2_with fail
  refine (ct _).mono ?_; rintro e w1 ⟨rfl, hb⟩
  go_wp2_with fail
  refine (ca _).mono ?_; rintro e w2 ⟨rfl, b2⟩; replace hb := hb.and b2; clear b2
  go_wp2_with fail
  refine (cb _).mono ?_; rintro e w2 ⟨rfl, b2⟩; replace hb := hb.and b2; clear b2
  go_wp2_with fail
  refine (cc _).mono ?_; rintro e w2 ⟨rfl, b2⟩; replace hb := hb.and b2; clear b2
  go_wp2_with fail
  rw [hy.out]
  refine (rsext_any (2 * a + 2048 * b + 4096 * c + 1048576 * t) 21 _ (by decide) (by decide)).mono ?_; rw [← HR.out]; rintro e w2 ⟨rfl, b2⟩; replace hb := hb.and b2; clear b2
  go_wp2_with fail
  go_ret
  exact ⟨rfl, hb⟩

set_option maxHeartbeats 2000000 in
theorem rnumber_8 (x : Nat) (w : World) : Calls Try.prog 38 #[.int .u32 x, .int .u8 87] w fun e w' => e = .returned (.int .u32 (numR x 8 : Nat)) ∧ Below w.heap.size w w' := by
  have ct : ∀ w, Calls Try.prog 39 #[.int .u32 x, .int .i64 31, .int .i64 31] w fun e w' => e = .returned (.int .u32 (field x 31 1)) ∧ Below w.heap.size w w' := fun w => rF_any x 31 31 w (by decide) (by decide)
  have lt : field x 31 1 < 2 := field_lt x 31 1
  obtain ⟨R, hR⟩ : ∃ R, R = numR x 8 := ⟨_, rfl⟩
  rw [← hR]
  have hR2 : R = 0 := hR
  clear hR
  generalize field x 31 1 = t at *
  have HR := Lib.hid hR2
  clear hR2
  go_enter Try.func38, Try.ntmps38
  go_wp2_with fail
  refine (ct _).mono ?_; rintro e w1 ⟨rfl, hb⟩
  go_wp2_with fail
  go_ret
  exact ⟨by rw [HR.out]; rfl, hb⟩

def zero5 : List Value := [.int .i64 0, .int .i64 0, .int .i64 0, .int .i64 0, .int .u32 0]

set_option maxRecDepth 100000 in
set_option maxHeartbeats 4000000 in
theorem rDecode_1 (x k : Nat) (w : World) (hx : x < 4294967296) (h1 : 1 ≤ k) (h2 : k ≤ 48) (ho : refOp x = k) (hf : formOf k = 1) : Calls Try.prog 16 #[.int .u32 x] w fun e w' => e = .returned (.tuple #[.agg #[.int .i64 (readN k x).op, .int .i64 (readN k x).rd, .int .i64 (readN k x).rs1, .int .i64 (readN k x).rs2, .int .u32 (readN k x).imm], .int .i64 0]) ∧ Below w.heap.size w w' := by
  have cop : ∀ w, Calls Try.prog 37 #[.int .u32 x] w fun e w' => e = .returned (.int .i64 (k : Nat)) ∧ Below w.heap.size w w' := fun w => by
    have := rop_any x w hx
    rw [ho] at this
    exact this
  have cform : ∀ w, Calls Try.prog 32 #[.int .i64 k] w fun e w' => e = .returned (.int .u8 82) ∧ w = w' := fun w => by
    have := rForm_any k w h1 h2
    rw [hf] at this
    exact this
  have hr : readN k x = ⟨k, field x 7 5, field x 15 5, field x 20 5, numR x 1⟩ := by
    unfold readN
    rw [hf, num_is x 1 (by decide)]
    rfl
  rw [hr]
  obtain ⟨V, hV⟩ : ∃ V, V = numR x 1 := ⟨_, rfl⟩
  have cnum : ∀ w, Calls Try.prog 38 #[.int .u32 x, .int .u8 82] w fun e w' => e = .returned (.int .u32 V) ∧ Below w.heap.size w w' := fun w => by
    have := rnumber_1 x w
    rw [← hV] at this
    exact this
  have hVl : V < 4294967296 := by rw [hV, ← num_is x 1 (by decide)]; exact immOf_lt' _ _ (by decide)
  rw [← hV]
  clear hV hr ho
  have hk0 : ((k : Int) == 0) = false := cast_ne (k := 0) (by omega)
  have crd : ∀ w, Calls Try.prog 39 #[.int .u32 x, .int .i64 7, .int .i64 11] w fun e w' => e = .returned (.int .u32 (field x 7 5)) ∧ Below w.heap.size w w' := fun w => rF_any x 7 11 w (by decide) (by decide)
  have lrd : field x 7 5 < 32 := field_lt x 7 5
  generalize field x 7 5 = rd at *
  have cr1 : ∀ w, Calls Try.prog 39 #[.int .u32 x, .int .i64 15, .int .i64 19] w fun e w' => e = .returned (.int .u32 (field x 15 5)) ∧ Below w.heap.size w w' := fun w => rF_any x 15 19 w (by decide) (by decide)
  have lr1 : field x 15 5 < 32 := field_lt x 15 5
  generalize field x 15 5 = r1 at *
  have cr2 : ∀ w, Calls Try.prog 39 #[.int .u32 x, .int .i64 20, .int .i64 24] w fun e w' => e = .returned (.int .u32 (field x 20 5)) ∧ Below w.heap.size w w' := fun w => rF_any x 20 24 w (by decide) (by decide)
  have lr2 : field x 20 5 < 32 := field_lt x 20 5
  generalize field x 20 5 = r2 at *
  go_enter Try.func16, Try.ntmps16
  go_wp2_with fail
  refine (cop _).mono ?_; rintro e w1 ⟨rfl, b1⟩
  have M0 : Mine w1 w.heap.size zero5 := (Mine.new w #[.int .i64 0, .int .i64 0, .int .i64 0, .int .i64 0, .int .u32 0] 24).kept b1
  have hb1 : Below w.heap.size w w1 := (below_all _).and b1
  clear b1
  go_wp2_with fail
  refine (cform _).mono ?_; rintro e w2 ⟨rfl, rfl⟩
  go_wp2_with fail
  refine (cnum _).mono ?_; rintro e w2 ⟨rfl, b2⟩
  have M2 := M0.kept b2
  have hb2 := hb1.and b2
  have hne : w.heap.size ≠ w2.heap.size := by have := M2.lt; omega
  clear hb1 b2 M0
  go_upto_region 6 with (fail)
  have N3 := Mine.new w2 #[.int .i64 k, .int .i64 0, .int .i64 0, .int .i64 0, .int .u32 V] 24
  have M3 := M2.alloc (.cells #[.int .i64 k, .int .i64 0, .int .i64 0, .int .i64 0, .int .u32 V] 24)
  have hb3 := hb2.and (below_all (.cells #[.int .i64 k, .int .i64 0, .int .i64 0, .int .i64 0, .int .u32 V] 24))
  have hle : w.heap.size ≤ w2.heap.size := by have := M2.lt; omega
  clear hb2 M2
  generalize w2.alloc _ = w3 at *
  generalize w2.heap.size = b1 at *
  clear w2 w1
  go_upto_region 10 with (go_at_call 39; refine (crd _).mono ?_; rintro e wa0 ⟨rfl, b4⟩; have ck := (N3.kept b4).c 1 _ rfl; have gk := (N3.kept b4).g 1)
  replace M3 := (M3.kept b4).set_other (k := 1) (.int .i64 rd) hne
  replace N3 := (N3.kept b4).set 1 (.int .i64 rd) (by simp)
  replace hb3 := below_set (k := 1) (v := .int .i64 rd) (hb3.and b4) hle
  clear ck gk b4
  generalize wa0.setCell _ _ = wb0 at *
  clear wa0 w3
  go_upto_region 12 with (go_at_call 39; refine (cr1 _).mono ?_; rintro e wa1 ⟨rfl, b4⟩; have ck := (N3.kept b4).c 2 _ rfl; have gk := (N3.kept b4).g 2)
  replace M3 := (M3.kept b4).set_other (k := 2) (.int .i64 r1) hne
  replace N3 := (N3.kept b4).set 2 (.int .i64 r1) (by simp)
  replace hb3 := below_set (k := 2) (v := .int .i64 r1) (hb3.and b4) hle
  clear ck gk b4
  generalize wa1.setCell _ _ = wb1 at *
  clear wa1 wb0
  go_upto_region 14 with (go_at_call 39; refine (cr2 _).mono ?_; rintro e wa2 ⟨rfl, b4⟩; have ck := (N3.kept b4).c 3 _ rfl; have gk := (N3.kept b4).g 3)
  replace M3 := (M3.kept b4).set_other (k := 3) (.int .i64 r2) hne
  replace N3 := (N3.kept b4).set 3 (.int .i64 r2) (by simp)
  replace hb3 := below_set (k := 3) (v := .int .i64 r2) (hb3.and b4) hle
  clear ck gk b4
  generalize wa2.setCell _ _ = wb2 at *
  clear wa2 wb1
  have c0 := N3.c 0 _ rfl
  have c1 := N3.c 1 _ rfl
  have c2 := N3.c 2 _ rfl
  have c3 := N3.c 3 _ rfl
  have c4 := N3.c 4 _ rfl
  have d0 := M3.c 0 _ rfl
  have d1 := M3.c 1 _ rfl
  have d2 := M3.c 2 _ rfl
  have d3 := M3.c 3 _ rfl
  have d4 := M3.c 4 _ rfl
  have f0 := M3.g 0
  have f1 := M3.g 1
  have f2 := M3.g 2
  have f3 := M3.g 3
  have f4 := M3.g 4
  clear N3 M3
  go_wp2_with fail
  refine bodyPost_ret (v := .tuple #[.agg #[.int .i64 k, .int .i64 rd, .int .i64 r1, .int .i64 r2, .int .u32 V], .int .i64 0]) (by simp [results, Try.results16, go_sem, cell_same', d0, d1, d2, d3, d4]; done) rfl ?_
  refine ⟨rfl, ?_⟩
  repeat' (first | exact hb3 | refine below_set ?_ (Nat.le_refl _))

set_option maxRecDepth 100000 in
set_option maxHeartbeats 4000000 in
theorem rDecode_2 (x k : Nat) (w : World) (hx : x < 4294967296) (h1 : 1 ≤ k) (h2 : k ≤ 48) (ho : refOp x = k) (hf : formOf k = 2) : Calls Try.prog 16 #[.int .u32 x] w fun e w' => e = .returned (.tuple #[.agg #[.int .i64 (readN k x).op, .int .i64 (readN k x).rd, .int .i64 (readN k x).rs1, .int .i64 (readN k x).rs2, .int .u32 (readN k x).imm], .int .i64 0]) ∧ Below w.heap.size w w' := by
  have cop : ∀ w, Calls Try.prog 37 #[.int .u32 x] w fun e w' => e = .returned (.int .i64 (k : Nat)) ∧ Below w.heap.size w w' := fun w => by
    have := rop_any x w hx
    rw [ho] at this
    exact this
  have cform : ∀ w, Calls Try.prog 32 #[.int .i64 k] w fun e w' => e = .returned (.int .u8 73) ∧ w = w' := fun w => by
    have := rForm_any k w h1 h2
    rw [hf] at this
    exact this
  have hr : readN k x = ⟨k, field x 7 5, field x 15 5, 0, numR x 2⟩ := by
    unfold readN
    rw [hf, num_is x 2 (by decide)]
    rfl
  rw [hr]
  obtain ⟨V, hV⟩ : ∃ V, V = numR x 2 := ⟨_, rfl⟩
  have cnum : ∀ w, Calls Try.prog 38 #[.int .u32 x, .int .u8 73] w fun e w' => e = .returned (.int .u32 V) ∧ Below w.heap.size w w' := fun w => by
    have := rnumber_2 x w
    rw [← hV] at this
    exact this
  have hVl : V < 4294967296 := by rw [hV, ← num_is x 2 (by decide)]; exact immOf_lt' _ _ (by decide)
  rw [← hV]
  clear hV hr ho
  have hk0 : ((k : Int) == 0) = false := cast_ne (k := 0) (by omega)
  have crd : ∀ w, Calls Try.prog 39 #[.int .u32 x, .int .i64 7, .int .i64 11] w fun e w' => e = .returned (.int .u32 (field x 7 5)) ∧ Below w.heap.size w w' := fun w => rF_any x 7 11 w (by decide) (by decide)
  have lrd : field x 7 5 < 32 := field_lt x 7 5
  generalize field x 7 5 = rd at *
  have cr1 : ∀ w, Calls Try.prog 39 #[.int .u32 x, .int .i64 15, .int .i64 19] w fun e w' => e = .returned (.int .u32 (field x 15 5)) ∧ Below w.heap.size w w' := fun w => rF_any x 15 19 w (by decide) (by decide)
  have lr1 : field x 15 5 < 32 := field_lt x 15 5
  generalize field x 15 5 = r1 at *
  go_enter Try.func16, Try.ntmps16
  go_wp2_with fail
  refine (cop _).mono ?_; rintro e w1 ⟨rfl, b1⟩
  have M0 : Mine w1 w.heap.size zero5 := (Mine.new w #[.int .i64 0, .int .i64 0, .int .i64 0, .int .i64 0, .int .u32 0] 24).kept b1
  have hb1 : Below w.heap.size w w1 := (below_all _).and b1
  clear b1
  go_wp2_with fail
  refine (cform _).mono ?_; rintro e w2 ⟨rfl, rfl⟩
  go_wp2_with fail
  refine (cnum _).mono ?_; rintro e w2 ⟨rfl, b2⟩
  have M2 := M0.kept b2
  have hb2 := hb1.and b2
  have hne : w.heap.size ≠ w2.heap.size := by have := M2.lt; omega
  clear hb1 b2 M0
  go_upto_region 6 with (fail)
  have N3 := Mine.new w2 #[.int .i64 k, .int .i64 0, .int .i64 0, .int .i64 0, .int .u32 V] 24
  have M3 := M2.alloc (.cells #[.int .i64 k, .int .i64 0, .int .i64 0, .int .i64 0, .int .u32 V] 24)
  have hb3 := hb2.and (below_all (.cells #[.int .i64 k, .int .i64 0, .int .i64 0, .int .i64 0, .int .u32 V] 24))
  have hle : w.heap.size ≤ w2.heap.size := by have := M2.lt; omega
  clear hb2 M2
  generalize w2.alloc _ = w3 at *
  generalize w2.heap.size = b1 at *
  clear w2 w1
  go_upto_region 10 with (go_at_call 39; refine (crd _).mono ?_; rintro e wa0 ⟨rfl, b4⟩; have ck := (N3.kept b4).c 1 _ rfl; have gk := (N3.kept b4).g 1)
  replace M3 := (M3.kept b4).set_other (k := 1) (.int .i64 rd) hne
  replace N3 := (N3.kept b4).set 1 (.int .i64 rd) (by simp)
  replace hb3 := below_set (k := 1) (v := .int .i64 rd) (hb3.and b4) hle
  clear ck gk b4
  generalize wa0.setCell _ _ = wb0 at *
  clear wa0 w3
  go_upto_region 12 with (go_at_call 39; refine (cr1 _).mono ?_; rintro e wa1 ⟨rfl, b4⟩; have ck := (N3.kept b4).c 2 _ rfl; have gk := (N3.kept b4).g 2)
  replace M3 := (M3.kept b4).set_other (k := 2) (.int .i64 r1) hne
  replace N3 := (N3.kept b4).set 2 (.int .i64 r1) (by simp)
  replace hb3 := below_set (k := 2) (v := .int .i64 r1) (hb3.and b4) hle
  clear ck gk b4
  generalize wa1.setCell _ _ = wb1 at *
  clear wa1 wb0
  have c0 := N3.c 0 _ rfl
  have c1 := N3.c 1 _ rfl
  have c2 := N3.c 2 _ rfl
  have c3 := N3.c 3 _ rfl
  have c4 := N3.c 4 _ rfl
  have d0 := M3.c 0 _ rfl
  have d1 := M3.c 1 _ rfl
  have d2 := M3.c 2 _ rfl
  have d3 := M3.c 3 _ rfl
  have d4 := M3.c 4 _ rfl
  have f0 := M3.g 0
  have f1 := M3.g 1
  have f2 := M3.g 2
  have f3 := M3.g 3
  have f4 := M3.g 4
  clear N3 M3
  go_wp2_with fail
  refine bodyPost_ret (v := .tuple #[.agg #[.int .i64 k, .int .i64 rd, .int .i64 r1, .int .i64 0, .int .u32 V], .int .i64 0]) (by simp [results, Try.results16, go_sem, cell_same', d0, d1, d2, d3, d4]; done) rfl ?_
  refine ⟨rfl, ?_⟩
  repeat' (first | exact hb3 | refine below_set ?_ (Nat.le_refl _))

set_option maxRecDepth 100000 in
set_option maxHeartbeats 4000000 in
theorem rDecode_3 (x k : Nat) (w : World) (hx : x < 4294967296) (h1 : 1 ≤ k) (h2 : k ≤ 48) (ho : refOp x = k) (hf : formOf k = 3) : Calls Try.prog 16 #[.int .u32 x] w fun e w' => e = .returned (.tuple #[.agg #[.int .i64 (readN k x).op, .int .i64 (readN k x).rd, .int .i64 (readN k x).rs1, .int .i64 (readN k x).rs2, .int .u32 (readN k x).imm], .int .i64 0]) ∧ Below w.heap.size w w' := by
  have cop : ∀ w, Calls Try.prog 37 #[.int .u32 x] w fun e w' => e = .returned (.int .i64 (k : Nat)) ∧ Below w.heap.size w w' := fun w => by
    have := rop_any x w hx
    rw [ho] at this
    exact this
  have cform : ∀ w, Calls Try.prog 32 #[.int .i64 k] w fun e w' => e = .returned (.int .u8 84) ∧ w = w' := fun w => by
    have := rForm_any k w h1 h2
    rw [hf] at this
    exact this
  have hr : readN k x = ⟨k, field x 7 5, field x 15 5, 0, numR x 3⟩ := by
    unfold readN
    rw [hf, num_is x 3 (by decide)]
    rfl
  rw [hr]
  obtain ⟨V, hV⟩ : ∃ V, V = numR x 3 := ⟨_, rfl⟩
  have cnum : ∀ w, Calls Try.prog 38 #[.int .u32 x, .int .u8 84] w fun e w' => e = .returned (.int .u32 V) ∧ Below w.heap.size w w' := fun w => by
    have := rnumber_3 x w
    rw [← hV] at this
    exact this
  have hVl : V < 4294967296 := by rw [hV, ← num_is x 3 (by decide)]; exact immOf_lt' _ _ (by decide)
  rw [← hV]
  clear hV hr ho
  have hk0 : ((k : Int) == 0) = false := cast_ne (k := 0) (by omega)
  have crd : ∀ w, Calls Try.prog 39 #[.int .u32 x, .int .i64 7, .int .i64 11] w fun e w' => e = .returned (.int .u32 (field x 7 5)) ∧ Below w.heap.size w w' := fun w => rF_any x 7 11 w (by decide) (by decide)
  have lrd : field x 7 5 < 32 := field_lt x 7 5
  generalize field x 7 5 = rd at *
  have cr1 : ∀ w, Calls Try.prog 39 #[.int .u32 x, .int .i64 15, .int .i64 19] w fun e w' => e = .returned (.int .u32 (field x 15 5)) ∧ Below w.heap.size w w' := fun w => rF_any x 15 19 w (by decide) (by decide)
  have lr1 : field x 15 5 < 32 := field_lt x 15 5
  generalize field x 15 5 = r1 at *
  go_enter Try.func16, Try.ntmps16
  go_wp2_with fail
  refine (cop _).mono ?_; rintro e w1 ⟨rfl, b1⟩
  have M0 : Mine w1 w.heap.size zero5 := (Mine.new w #[.int .i64 0, .int .i64 0, .int .i64 0, .int .i64 0, .int .u32 0] 24).kept b1
  have hb1 : Below w.heap.size w w1 := (below_all _).and b1
  clear b1
  go_wp2_with fail
  refine (cform _).mono ?_; rintro e w2 ⟨rfl, rfl⟩
  go_wp2_with fail
  refine (cnum _).mono ?_; rintro e w2 ⟨rfl, b2⟩
  have M2 := M0.kept b2
  have hb2 := hb1.and b2
  have hne : w.heap.size ≠ w2.heap.size := by have := M2.lt; omega
  clear hb1 b2 M0
  go_upto_region 6 with (fail)
  have N3 := Mine.new w2 #[.int .i64 k, .int .i64 0, .int .i64 0, .int .i64 0, .int .u32 V] 24
  have M3 := M2.alloc (.cells #[.int .i64 k, .int .i64 0, .int .i64 0, .int .i64 0, .int .u32 V] 24)
  have hb3 := hb2.and (below_all (.cells #[.int .i64 k, .int .i64 0, .int .i64 0, .int .i64 0, .int .u32 V] 24))
  have hle : w.heap.size ≤ w2.heap.size := by have := M2.lt; omega
  clear hb2 M2
  generalize w2.alloc _ = w3 at *
  generalize w2.heap.size = b1 at *
  clear w2 w1
  go_upto_region 10 with (go_at_call 39; refine (crd _).mono ?_; rintro e wa0 ⟨rfl, b4⟩; have ck := (N3.kept b4).c 1 _ rfl; have gk := (N3.kept b4).g 1)
  replace M3 := (M3.kept b4).set_other (k := 1) (.int .i64 rd) hne
  replace N3 := (N3.kept b4).set 1 (.int .i64 rd) (by simp)
  replace hb3 := below_set (k := 1) (v := .int .i64 rd) (hb3.and b4) hle
  clear ck gk b4
  generalize wa0.setCell _ _ = wb0 at *
  clear wa0 w3
  go_upto_region 12 with (go_at_call 39; refine (cr1 _).mono ?_; rintro e wa1 ⟨rfl, b4⟩; have ck := (N3.kept b4).c 2 _ rfl; have gk := (N3.kept b4).g 2)
  replace M3 := (M3.kept b4).set_other (k := 2) (.int .i64 r1) hne
  replace N3 := (N3.kept b4).set 2 (.int .i64 r1) (by simp)
  replace hb3 := below_set (k := 2) (v := .int .i64 r1) (hb3.and b4) hle
  clear ck gk b4
  generalize wa1.setCell _ _ = wb1 at *
  clear wa1 wb0
  have c0 := N3.c 0 _ rfl
  have c1 := N3.c 1 _ rfl
  have c2 := N3.c 2 _ rfl
  have c3 := N3.c 3 _ rfl
  have c4 := N3.c 4 _ rfl
  have d0 := M3.c 0 _ rfl
  have d1 := M3.c 1 _ rfl
  have d2 := M3.c 2 _ rfl
  have d3 := M3.c 3 _ rfl
  have d4 := M3.c 4 _ rfl
  have f0 := M3.g 0
  have f1 := M3.g 1
  have f2 := M3.g 2
  have f3 := M3.g 3
  have f4 := M3.g 4
  clear N3 M3
  go_wp2_with fail
  refine bodyPost_ret (v := .tuple #[.agg #[.int .i64 k, .int .i64 rd, .int .i64 r1, .int .i64 0, .int .u32 V], .int .i64 0]) (by simp [results, Try.results16, go_sem, cell_same', d0, d1, d2, d3, d4]; done) rfl ?_
  refine ⟨rfl, ?_⟩
  repeat' (first | exact hb3 | refine below_set ?_ (Nat.le_refl _))

set_option maxRecDepth 100000 in
set_option maxHeartbeats 4000000 in
theorem rDecode_4 (x k : Nat) (w : World) (hx : x < 4294967296) (h1 : 1 ≤ k) (h2 : k ≤ 48) (ho : refOp x = k) (hf : formOf k = 4) : Calls Try.prog 16 #[.int .u32 x] w fun e w' => e = .returned (.tuple #[.agg #[.int .i64 (readN k x).op, .int .i64 (readN k x).rd, .int .i64 (readN k x).rs1, .int .i64 (readN k x).rs2, .int .u32 (readN k x).imm], .int .i64 0]) ∧ Below w.heap.size w w' := by
  have cop : ∀ w, Calls Try.prog 37 #[.int .u32 x] w fun e w' => e = .returned (.int .i64 (k : Nat)) ∧ Below w.heap.size w w' := fun w => by
    have := rop_any x w hx
    rw [ho] at this
    exact this
  have cform : ∀ w, Calls Try.prog 32 #[.int .i64 k] w fun e w' => e = .returned (.int .u8 83) ∧ w = w' := fun w => by
    have := rForm_any k w h1 h2
    rw [hf] at this
    exact this
  have hr : readN k x = ⟨k, 0, field x 15 5, field x 20 5, numR x 4⟩ := by
    unfold readN
    rw [hf, num_is x 4 (by decide)]
    rfl
  rw [hr]
  obtain ⟨V, hV⟩ : ∃ V, V = numR x 4 := ⟨_, rfl⟩
  have cnum : ∀ w, Calls Try.prog 38 #[.int .u32 x, .int .u8 83] w fun e w' => e = .returned (.int .u32 V) ∧ Below w.heap.size w w' := fun w => by
    have := rnumber_4 x w
    rw [← hV] at this
    exact this
  have hVl : V < 4294967296 := by rw [hV, ← num_is x 4 (by decide)]; exact immOf_lt' _ _ (by decide)
  rw [← hV]
  clear hV hr ho
  have hk0 : ((k : Int) == 0) = false := cast_ne (k := 0) (by omega)
  have cr1 : ∀ w, Calls Try.prog 39 #[.int .u32 x, .int .i64 15, .int .i64 19] w fun e w' => e = .returned (.int .u32 (field x 15 5)) ∧ Below w.heap.size w w' := fun w => rF_any x 15 19 w (by decide) (by decide)
  have lr1 : field x 15 5 < 32 := field_lt x 15 5
  generalize field x 15 5 = r1 at *
  have cr2 : ∀ w, Calls Try.prog 39 #[.int .u32 x, .int .i64 20, .int .i64 24] w fun e w' => e = .returned (.int .u32 (field x 20 5)) ∧ Below w.heap.size w w' := fun w => rF_any x 20 24 w (by decide) (by decide)
  have lr2 : field x 20 5 < 32 := field_lt x 20 5
  generalize field x 20 5 = r2 at *
  go_enter Try.func16, Try.ntmps16
  go_wp2_with fail
  refine (cop _).mono ?_; rintro e w1 ⟨rfl, b1⟩
  have M0 : Mine w1 w.heap.size zero5 := (Mine.new w #[.int .i64 0, .int .i64 0, .int .i64 0, .int .i64 0, .int .u32 0] 24).kept b1
  have hb1 : Below w.heap.size w w1 := (below_all _).and b1
  clear b1
  go_wp2_with fail
  refine (cform _).mono ?_; rintro e w2 ⟨rfl, rfl⟩
  go_wp2_with fail
  refine (cnum _).mono ?_; rintro e w2 ⟨rfl, b2⟩
  have M2 := M0.kept b2
  have hb2 := hb1.and b2
  have hne : w.heap.size ≠ w2.heap.size := by have := M2.lt; omega
  clear hb1 b2 M0
  go_upto_region 6 with (fail)
  have N3 := Mine.new w2 #[.int .i64 k, .int .i64 0, .int .i64 0, .int .i64 0, .int .u32 V] 24
  have M3 := M2.alloc (.cells #[.int .i64 k, .int .i64 0, .int .i64 0, .int .i64 0, .int .u32 V] 24)
  have hb3 := hb2.and (below_all (.cells #[.int .i64 k, .int .i64 0, .int .i64 0, .int .i64 0, .int .u32 V] 24))
  have hle : w.heap.size ≤ w2.heap.size := by have := M2.lt; omega
  clear hb2 M2
  generalize w2.alloc _ = w3 at *
  generalize w2.heap.size = b1 at *
  clear w2 w1
  go_upto_region 12 with (go_at_call 39; refine (cr1 _).mono ?_; rintro e wa0 ⟨rfl, b4⟩; have ck := (N3.kept b4).c 2 _ rfl; have gk := (N3.kept b4).g 2)
  replace M3 := (M3.kept b4).set_other (k := 2) (.int .i64 r1) hne
  replace N3 := (N3.kept b4).set 2 (.int .i64 r1) (by simp)
  replace hb3 := below_set (k := 2) (v := .int .i64 r1) (hb3.and b4) hle
  clear ck gk b4
  generalize wa0.setCell _ _ = wb0 at *
  clear wa0 w3
  go_upto_region 14 with (go_at_call 39; refine (cr2 _).mono ?_; rintro e wa1 ⟨rfl, b4⟩; have ck := (N3.kept b4).c 3 _ rfl; have gk := (N3.kept b4).g 3)
  replace M3 := (M3.kept b4).set_other (k := 3) (.int .i64 r2) hne
  replace N3 := (N3.kept b4).set 3 (.int .i64 r2) (by simp)
  replace hb3 := below_set (k := 3) (v := .int .i64 r2) (hb3.and b4) hle
  clear ck gk b4
  generalize wa1.setCell _ _ = wb1 at *
  clear wa1 wb0
  have c0 := N3.c 0 _ rfl
  have c1 := N3.c 1 _ rfl
  have c2 := N3.c 2 _ rfl
  have c3 := N3.c 3 _ rfl
  have c4 := N3.c 4 _ rfl
  have d0 := M3.c 0 _ rfl
  have d1 := M3.c 1 _ rfl
  have d2 := M3.c 2 _ rfl
  have d3 := M3.c 3 _ rfl
  have d4 := M3.c 4 _ rfl
  have f0 := M3.g 0
  have f1 := M3.g 1
  have f2 := M3.g 2
  have f3 := M3.g 3
  have f4 := M3.g 4
  clear N3 M3
  go_wp2_with fail
  refine bodyPost_ret (v := .tuple #[.agg #[.int .i64 k, .int .i64 0, .int .i64 r1, .int .i64 r2, .int .u32 V], .int .i64 0]) (by simp [results, Try.results16, go_sem, cell_same', d0, d1, d2, d3, d4]; done) rfl ?_
  refine ⟨rfl, ?_⟩
  repeat' (first | exact hb3 | refine below_set ?_ (Nat.le_refl _))

set_option maxRecDepth 100000 in
set_option maxHeartbeats 4000000 in
theorem rDecode_5 (x k : Nat) (w : World) (hx : x < 4294967296) (h1 : 1 ≤ k) (h2 : k ≤ 48) (ho : refOp x = k) (hf : formOf k = 5) : Calls Try.prog 16 #[.int .u32 x] w fun e w' => e = .returned (.tuple #[.agg #[.int .i64 (readN k x).op, .int .i64 (readN k x).rd, .int .i64 (readN k x).rs1, .int .i64 (readN k x).rs2, .int .u32 (readN k x).imm], .int .i64 0]) ∧ Below w.heap.size w w' := by
  have cop : ∀ w, Calls Try.prog 37 #[.int .u32 x] w fun e w' => e = .returned (.int .i64 (k : Nat)) ∧ Below w.heap.size w w' := fun w => by
    have := rop_any x w hx
    rw [ho] at this
    exact this
  have cform : ∀ w, Calls Try.prog 32 #[.int .i64 k] w fun e w' => e = .returned (.int .u8 66) ∧ w = w' := fun w => by
    have := rForm_any k w h1 h2
    rw [hf] at this
    exact this
  have hr : readN k x = ⟨k, 0, field x 15 5, field x 20 5, numR x 5⟩ := by
    unfold readN
    rw [hf, num_is x 5 (by decide)]
    rfl
  rw [hr]
  obtain ⟨V, hV⟩ : ∃ V, V = numR x 5 := ⟨_, rfl⟩
  have cnum : ∀ w, Calls Try.prog 38 #[.int .u32 x, .int .u8 66] w fun e w' => e = .returned (.int .u32 V) ∧ Below w.heap.size w w' := fun w => by
    have := rnumber_5 x w
    rw [← hV] at this
    exact this
  have hVl : V < 4294967296 := by rw [hV, ← num_is x 5 (by decide)]; exact immOf_lt' _ _ (by decide)
  rw [← hV]
  clear hV hr ho
  have hk0 : ((k : Int) == 0) = false := cast_ne (k := 0) (by omega)
  have cr1 : ∀ w, Calls Try.prog 39 #[.int .u32 x, .int .i64 15, .int .i64 19] w fun e w' => e = .returned (.int .u32 (field x 15 5)) ∧ Below w.heap.size w w' := fun w => rF_any x 15 19 w (by decide) (by decide)
  have lr1 : field x 15 5 < 32 := field_lt x 15 5
  generalize field x 15 5 = r1 at *
  have cr2 : ∀ w, Calls Try.prog 39 #[.int .u32 x, .int .i64 20, .int .i64 24] w fun e w' => e = .returned (.int .u32 (field x 20 5)) ∧ Below w.heap.size w w' := fun w => rF_any x 20 24 w (by decide) (by decide)
  have lr2 : field x 20 5 < 32 := field_lt x 20 5
  generalize field x 20 5 = r2 at *
  go_enter Try.func16, Try.ntmps16
  go_wp2_with fail
  refine (cop _).mono ?_; rintro e w1 ⟨rfl, b1⟩
  have M0 : Mine w1 w.heap.size zero5 := (Mine.new w #[.int .i64 0, .int .i64 0, .int .i64 0, .int .i64 0, .int .u32 0] 24).kept b1
  have hb1 : Below w.heap.size w w1 := (below_all _).and b1
  clear b1
  go_wp2_with fail
  refine (cform _).mono ?_; rintro e w2 ⟨rfl, rfl⟩
  go_wp2_with fail
  refine (cnum _).mono ?_; rintro e w2 ⟨rfl, b2⟩
  have M2 := M0.kept b2
  have hb2 := hb1.and b2
  have hne : w.heap.size ≠ w2.heap.size := by have := M2.lt; omega
  clear hb1 b2 M0
  go_upto_region 6 with (fail)
  have N3 := Mine.new w2 #[.int .i64 k, .int .i64 0, .int .i64 0, .int .i64 0, .int .u32 V] 24
  have M3 := M2.alloc (.cells #[.int .i64 k, .int .i64 0, .int .i64 0, .int .i64 0, .int .u32 V] 24)
  have hb3 := hb2.and (below_all (.cells #[.int .i64 k, .int .i64 0, .int .i64 0, .int .i64 0, .int .u32 V] 24))
  have hle : w.heap.size ≤ w2.heap.size := by have := M2.lt; omega
  clear hb2 M2
  generalize w2.alloc _ = w3 at *
  generalize w2.heap.size = b1 at *
  clear w2 w1
  go_upto_region 12 with (go_at_call 39; refine (cr1 _).mono ?_; rintro e wa0 ⟨rfl, b4⟩; have ck := (N3.kept b4).c 2 _ rfl; have gk := (N3.kept b4).g 2)
  replace M3 := (M3.kept b4).set_other (k := 2) (.int .i64 r1) hne
  replace N3 := (N3.kept b4).set 2 (.int .i64 r1) (by simp)
  replace hb3 := below_set (k := 2) (v := .int .i64 r1) (hb3.and b4) hle
  clear ck gk b4
  generalize wa0.setCell _ _ = wb0 at *
  clear wa0 w3
  go_upto_region 14 with (go_at_call 39; refine (cr2 _).mono ?_; rintro e wa1 ⟨rfl, b4⟩; have ck := (N3.kept b4).c 3 _ rfl; have gk := (N3.kept b4).g 3)
  replace M3 := (M3.kept b4).set_other (k := 3) (.int .i64 r2) hne
  replace N3 := (N3.kept b4).set 3 (.int .i64 r2) (by simp)
  replace hb3 := below_set (k := 3) (v := .int .i64 r2) (hb3.and b4) hle
  clear ck gk b4
  generalize wa1.setCell _ _ = wb1 at *
  clear wa1 wb0
  have c0 := N3.c 0 _ rfl
  have c1 := N3.c 1 _ rfl
  have c2 := N3.c 2 _ rfl
  have c3 := N3.c 3 _ rfl
  have c4 := N3.c 4 _ rfl
  have d0 := M3.c 0 _ rfl
  have d1 := M3.c 1 _ rfl
  have d2 := M3.c 2 _ rfl
  have d3 := M3.c 3 _ rfl
  have d4 := M3.c 4 _ rfl
  have f0 := M3.g 0
  have f1 := M3.g 1
  have f2 := M3.g 2
  have f3 := M3.g 3
  have f4 := M3.g 4
  clear N3 M3
  go_wp2_with fail
  refine bodyPost_ret (v := .tuple #[.agg #[.int .i64 k, .int .i64 0, .int .i64 r1, .int .i64 r2, .int .u32 V], .int .i64 0]) (by simp [results, Try.results16, go_sem, cell_same', d0, d1, d2, d3, d4]; done) rfl ?_
  refine ⟨rfl, ?_⟩
  repeat' (first | exact hb3 | refine below_set ?_ (Nat.le_refl _))

set_option maxRecDepth 100000 in
set_option maxHeartbeats 4000000 in
theorem rDecode_6 (x k : Nat) (w : World) (hx : x < 4294967296) (h1 : 1 ≤ k) (h2 : k ≤ 48) (ho : refOp x = k) (hf : formOf k = 6) : Calls Try.prog 16 #[.int .u32 x] w fun e w' => e = .returned (.tuple #[.agg #[.int .i64 (readN k x).op, .int .i64 (readN k x).rd, .int .i64 (readN k x).rs1, .int .i64 (readN k x).rs2, .int .u32 (readN k x).imm], .int .i64 0]) ∧ Below w.heap.size w w' := by
  have cop : ∀ w, Calls Try.prog 37 #[.int .u32 x] w fun e w' => e = .returned (.int .i64 (k : Nat)) ∧ Below w.heap.size w w' := fun w => by
    have := rop_any x w hx
    rw [ho] at this
    exact this
  have cform : ∀ w, Calls Try.prog 32 #[.int .i64 k] w fun e w' => e = .returned (.int .u8 85) ∧ w = w' := fun w => by
    have := rForm_any k w h1 h2
    rw [hf] at this
    exact this
  have hr : readN k x = ⟨k, field x 7 5, 0, 0, numR x 6⟩ := by
    unfold readN
    rw [hf, num_is x 6 (by decide)]
    rfl
  rw [hr]
  obtain ⟨V, hV⟩ : ∃ V, V = numR x 6 := ⟨_, rfl⟩
  have cnum : ∀ w, Calls Try.prog 38 #[.int .u32 x, .int .u8 85] w fun e w' => e = .returned (.int .u32 V) ∧ Below w.heap.size w w' := fun w => by
    have := rnumber_6 x w
    rw [← hV] at this
    exact this
  have hVl : V < 4294967296 := by rw [hV, ← num_is x 6 (by decide)]; exact immOf_lt' _ _ (by decide)
  rw [← hV]
  clear hV hr ho
  have hk0 : ((k : Int) == 0) = false := cast_ne (k := 0) (by omega)
  have crd : ∀ w, Calls Try.prog 39 #[.int .u32 x, .int .i64 7, .int .i64 11] w fun e w' => e = .returned (.int .u32 (field x 7 5)) ∧ Below w.heap.size w w' := fun w => rF_any x 7 11 w (by decide) (by decide)
  have lrd : field x 7 5 < 32 := field_lt x 7 5
  generalize field x 7 5 = rd at *
  go_enter Try.func16, Try.ntmps16
  go_wp2_with fail
  refine (cop _).mono ?_; rintro e w1 ⟨rfl, b1⟩
  have M0 : Mine w1 w.heap.size zero5 := (Mine.new w #[.int .i64 0, .int .i64 0, .int .i64 0, .int .i64 0, .int .u32 0] 24).kept b1
  have hb1 : Below w.heap.size w w1 := (below_all _).and b1
  clear b1
  go_wp2_with fail
  refine (cform _).mono ?_; rintro e w2 ⟨rfl, rfl⟩
  go_wp2_with fail
  refine (cnum _).mono ?_; rintro e w2 ⟨rfl, b2⟩
  have M2 := M0.kept b2
  have hb2 := hb1.and b2
  have hne : w.heap.size ≠ w2.heap.size := by have := M2.lt; omega
  clear hb1 b2 M0
  go_upto_region 6 with (fail)
  have N3 := Mine.new w2 #[.int .i64 k, .int .i64 0, .int .i64 0, .int .i64 0, .int .u32 V] 24
  have M3 := M2.alloc (.cells #[.int .i64 k, .int .i64 0, .int .i64 0, .int .i64 0, .int .u32 V] 24)
  have hb3 := hb2.and (below_all (.cells #[.int .i64 k, .int .i64 0, .int .i64 0, .int .i64 0, .int .u32 V] 24))
  have hle : w.heap.size ≤ w2.heap.size := by have := M2.lt; omega
  clear hb2 M2
  generalize w2.alloc _ = w3 at *
  generalize w2.heap.size = b1 at *
  clear w2 w1
  go_upto_region 10 with (go_at_call 39; refine (crd _).mono ?_; rintro e wa0 ⟨rfl, b4⟩; have ck := (N3.kept b4).c 1 _ rfl; have gk := (N3.kept b4).g 1)
  replace M3 := (M3.kept b4).set_other (k := 1) (.int .i64 rd) hne
  replace N3 := (N3.kept b4).set 1 (.int .i64 rd) (by simp)
  replace hb3 := below_set (k := 1) (v := .int .i64 rd) (hb3.and b4) hle
  clear ck gk b4
  generalize wa0.setCell _ _ = wb0 at *
  clear wa0 w3
  have c0 := N3.c 0 _ rfl
  have c1 := N3.c 1 _ rfl
  have c2 := N3.c 2 _ rfl
  have c3 := N3.c 3 _ rfl
  have c4 := N3.c 4 _ rfl
  have d0 := M3.c 0 _ rfl
  have d1 := M3.c 1 _ rfl
  have d2 := M3.c 2 _ rfl
  have d3 := M3.c 3 _ rfl
  have d4 := M3.c 4 _ rfl
  have f0 := M3.g 0
  have f1 := M3.g 1
  have f2 := M3.g 2
  have f3 := M3.g 3
  have f4 := M3.g 4
  clear N3 M3
  go_wp2_with fail
  refine bodyPost_ret (v := .tuple #[.agg #[.int .i64 k, .int .i64 rd, .int .i64 0, .int .i64 0, .int .u32 V], .int .i64 0]) (by simp [results, Try.results16, go_sem, cell_same', d0, d1, d2, d3, d4]; done) rfl ?_
  refine ⟨rfl, ?_⟩
  repeat' (first | exact hb3 | refine below_set ?_ (Nat.le_refl _))

set_option maxRecDepth 100000 in
set_option maxHeartbeats 4000000 in
theorem rDecode_7 (x k : Nat) (w : World) (hx : x < 4294967296) (h1 : 1 ≤ k) (h2 : k ≤ 48) (ho : refOp x = k) (hf : formOf k = 7) : Calls Try.prog 16 #[.int .u32 x] w fun e w' => e = .returned (.tuple #[.agg #[.int .i64 (readN k x).op, .int .i64 (readN k x).rd, .int .i64 (readN k x).rs1, .int .i64 (readN k x).rs2, .int .u32 (readN k x).imm], .int .i64 0]) ∧ Below w.heap.size w w' := by
  have cop : ∀ w, Calls Try.prog 37 #[.int .u32 x] w fun e w' => e = .returned (.int .i64 (k : Nat)) ∧ Below w.heap.size w w' := fun w => by
    have := rop_any x w hx
    rw [ho] at this
    exact this
  have cform : ∀ w, Calls Try.prog 32 #[.int .i64 k] w fun e w' => e = .returned (.int .u8 74) ∧ w = w' := fun w => by
    have := rForm_any k w h1 h2
    rw [hf] at this
    exact this
  have hr : readN k x = ⟨k, field x 7 5, 0, 0, numR x 7⟩ := by
    unfold readN
    rw [hf, num_is x 7 (by decide)]
    rfl
  rw [hr]
  obtain ⟨V, hV⟩ : ∃ V, V = numR x 7 := ⟨_, rfl⟩
  have cnum : ∀ w, Calls Try.prog 38 #[.int .u32 x, .int .u8 74] w fun e w' => e = .returned (.int .u32 V) ∧ Below w.heap.size w w' := fun w => by
    have := rnumber_7 x w
    rw [← hV] at this
    exact this
  have hVl : V < 4294967296 := by rw [hV, ← num_is x 7 (by decide)]; exact immOf_lt' _ _ (by decide)
  rw [← hV]
  clear hV hr ho
  have hk0 : ((k : Int) == 0) = false := cast_ne (k := 0) (by omega)
  have crd : ∀ w, Calls Try.prog 39 #[.int .u32 x, .int .i64 7, .int .i64 11] w fun e w' => e = .returned (.int .u32 (field x 7 5)) ∧ Below w.heap.size w w' := fun w => rF_any x 7 11 w (by decide) (by decide)
  have lrd : field x 7 5 < 32 := field_lt x 7 5
  generalize field x 7 5 = rd at *
  go_enter Try.func16, Try.ntmps16
  go_wp2_with fail
  refine (cop _).mono ?_; rintro e w1 ⟨rfl, b1⟩
  have M0 : Mine w1 w.heap.size zero5 := (Mine.new w #[.int .i64 0, .int .i64 0, .int .i64 0, .int .i64 0, .int .u32 0] 24).kept b1
  have hb1 : Below w.heap.size w w1 := (below_all _).and b1
  clear b1
  go_wp2_with fail
  refine (cform _).mono ?_; rintro e w2 ⟨rfl, rfl⟩
  go_wp2_with fail
  refine (cnum _).mono ?_; rintro e w2 ⟨rfl, b2⟩
  have M2 := M0.kept b2
  have hb2 := hb1.and b2
  have hne : w.heap.size ≠ w2.heap.size := by have := M2.lt; omega
  clear hb1 b2 M0
  go_upto_region 6 with (fail)
  have N3 := Mine.new w2 #[.int .i64 k, .int .i64 0, .int .i64 0, .int .i64 0, .int .u32 V] 24
  have M3 := M2.alloc (.cells #[.int .i64 k, .int .i64 0, .int .i64 0, .int .i64 0, .int .u32 V] 24)
  have hb3 := hb2.and (below_all (.cells #[.int .i64 k, .int .i64 0, .int .i64 0, .int .i64 0, .int .u32 V] 24))
  have hle : w.heap.size ≤ w2.heap.size := by have := M2.lt; omega
  clear hb2 M2
  generalize w2.alloc _ = w3 at *
  generalize w2.heap.size = b1 at *
  clear w2 w1
  go_upto_region 10 with (go_at_call 39; refine (crd _).mono ?_; rintro e wa0 ⟨rfl, b4⟩; have ck := (N3.kept b4).c 1 _ rfl; have gk := (N3.kept b4).g 1)
  replace M3 := (M3.kept b4).set_other (k := 1) (.int .i64 rd) hne
  replace N3 := (N3.kept b4).set 1 (.int .i64 rd) (by simp)
  replace hb3 := below_set (k := 1) (v := .int .i64 rd) (hb3.and b4) hle
  clear ck gk b4
  generalize wa0.setCell _ _ = wb0 at *
  clear wa0 w3
  have c0 := N3.c 0 _ rfl
  have c1 := N3.c 1 _ rfl
  have c2 := N3.c 2 _ rfl
  have c3 := N3.c 3 _ rfl
  have c4 := N3.c 4 _ rfl
  have d0 := M3.c 0 _ rfl
  have d1 := M3.c 1 _ rfl
  have d2 := M3.c 2 _ rfl
  have d3 := M3.c 3 _ rfl
  have d4 := M3.c 4 _ rfl
  have f0 := M3.g 0
  have f1 := M3.g 1
  have f2 := M3.g 2
  have f3 := M3.g 3
  have f4 := M3.g 4
  clear N3 M3
  go_wp2_with fail
  refine bodyPost_ret (v := .tuple #[.agg #[.int .i64 k, .int .i64 rd, .int .i64 0, .int .i64 0, .int .u32 V], .int .i64 0]) (by simp [results, Try.results16, go_sem, cell_same', d0, d1, d2, d3, d4]; done) rfl ?_
  refine ⟨rfl, ?_⟩
  repeat' (first | exact hb3 | refine below_set ?_ (Nat.le_refl _))

set_option maxRecDepth 100000 in
set_option maxHeartbeats 4000000 in
theorem rDecode_8 (x k : Nat) (w : World) (hx : x < 4294967296) (h1 : 1 ≤ k) (h2 : k ≤ 48) (ho : refOp x = k) (hf : formOf k = 8) : Calls Try.prog 16 #[.int .u32 x] w fun e w' => e = .returned (.tuple #[.agg #[.int .i64 (readN k x).op, .int .i64 (readN k x).rd, .int .i64 (readN k x).rs1, .int .i64 (readN k x).rs2, .int .u32 (readN k x).imm], .int .i64 0]) ∧ Below w.heap.size w w' := by
  have cop : ∀ w, Calls Try.prog 37 #[.int .u32 x] w fun e w' => e = .returned (.int .i64 (k : Nat)) ∧ Below w.heap.size w w' := fun w => by
    have := rop_any x w hx
    rw [ho] at this
    exact this
  have cform : ∀ w, Calls Try.prog 32 #[.int .i64 k] w fun e w' => e = .returned (.int .u8 87) ∧ w = w' := fun w => by
    have := rForm_any k w h1 h2
    rw [hf] at this
    exact this
  have hr : readN k x = ⟨k, 0, 0, 0, numR x 8⟩ := by
    unfold readN
    rw [hf, num_is x 8 (by decide)]
    rfl
  rw [hr]
  obtain ⟨V, hV⟩ : ∃ V, V = numR x 8 := ⟨_, rfl⟩
  have cnum : ∀ w, Calls Try.prog 38 #[.int .u32 x, .int .u8 87] w fun e w' => e = .returned (.int .u32 V) ∧ Below w.heap.size w w' := fun w => by
    have := rnumber_8 x w
    rw [← hV] at this
    exact this
  have hVl : V < 4294967296 := by rw [hV, ← num_is x 8 (by decide)]; exact immOf_lt' _ _ (by decide)
  rw [← hV]
  clear hV hr ho
  have hk0 : ((k : Int) == 0) = false := cast_ne (k := 0) (by omega)
  go_enter Try.func16, Try.ntmps16
  go_wp2_with fail
  refine (cop _).mono ?_; rintro e w1 ⟨rfl, b1⟩
  have M0 : Mine w1 w.heap.size zero5 := (Mine.new w #[.int .i64 0, .int .i64 0, .int .i64 0, .int .i64 0, .int .u32 0] 24).kept b1
  have hb1 : Below w.heap.size w w1 := (below_all _).and b1
  clear b1
  go_wp2_with fail
  refine (cform _).mono ?_; rintro e w2 ⟨rfl, rfl⟩
  go_wp2_with fail
  refine (cnum _).mono ?_; rintro e w2 ⟨rfl, b2⟩
  have M2 := M0.kept b2
  have hb2 := hb1.and b2
  have hne : w.heap.size ≠ w2.heap.size := by have := M2.lt; omega
  clear hb1 b2 M0
  go_upto_region 6 with (fail)
  have N3 := Mine.new w2 #[.int .i64 k, .int .i64 0, .int .i64 0, .int .i64 0, .int .u32 V] 24
  have M3 := M2.alloc (.cells #[.int .i64 k, .int .i64 0, .int .i64 0, .int .i64 0, .int .u32 V] 24)
  have hb3 := hb2.and (below_all (.cells #[.int .i64 k, .int .i64 0, .int .i64 0, .int .i64 0, .int .u32 V] 24))
  have hle : w.heap.size ≤ w2.heap.size := by have := M2.lt; omega
  clear hb2 M2
  generalize w2.alloc _ = w3 at *
  generalize w2.heap.size = b1 at *
  clear w2 w1
  have c0 := N3.c 0 _ rfl
  have c1 := N3.c 1 _ rfl
  have c2 := N3.c 2 _ rfl
  have c3 := N3.c 3 _ rfl
  have c4 := N3.c 4 _ rfl
  have d0 := M3.c 0 _ rfl
  have d1 := M3.c 1 _ rfl
  have d2 := M3.c 2 _ rfl
  have d3 := M3.c 3 _ rfl
  have d4 := M3.c 4 _ rfl
  have f0 := M3.g 0
  have f1 := M3.g 1
  have f2 := M3.g 2
  have f3 := M3.g 3
  have f4 := M3.g 4
  clear N3 M3
  go_wp2_with fail
  refine bodyPost_ret (v := .tuple #[.agg #[.int .i64 k, .int .i64 0, .int .i64 0, .int .i64 0, .int .u32 V], .int .i64 0]) (by simp [results, Try.results16, go_sem, cell_same', d0, d1, d2, d3, d4]; done) rfl ?_
  refine ⟨rfl, ?_⟩
  repeat' (first | exact hb3 | refine below_set ?_ (Nat.le_refl _))

end Go.Proofs.Ytckjihpdjefpgaa
