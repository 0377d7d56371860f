/- The laws of layer 2: alive, InstNumbers. -/
import Derived.Test.YtaimbclbpoelgaaDoorInst5
import Derived.KernelRfl
namespace Go.Proofs.YtaimbclbpoelgaaDoor
open Go.RowKit

theorem alive02 (w : World) (hC : Codes w) : Calls Tryd.prog 12 #[] w fun e w' => e = .returned (.bool true) ∧ Below w.heap.size w w' := by
  have hd : decN 5243027 = ⟨19, 1, 0, 0, 5⟩ := by kernel_rfl
  have he : decE 5243027 = 0 := by kernel_rfl
  have cd : ∀ w, Codes w → Calls Tryd.prog 10 #[.int .u32 5243027] w fun e w' => e = .returned (.tuple #[.agg #[.int .i64 19, .int .i64 1, .int .i64 0, .int .i64 0, .int .u32 5], .int .i64 0]) ∧ Below w.heap.size w w' := fun w hC => by
    have := decode_any 5243027 w hC (by omega)
    rw [hd, he] at this
    exact this
  clear hd he
  go_enter Tryd.func12, Tryd.ntmps12
  go_wp2_with fail
  refine (cd _ hC).mono ?_; rintro e w1 ⟨rfl, B1⟩
  have hs := B1.size
  go_wp2_with fail
  go_ret
  exact ⟨rfl, B1.alloc hs _⟩

/-- A word's number as a signed one. -/
def s32 (x : Nat) : Int := if x < 2147483648 then x else (x : Int) - 4294967296

theorem s32_wrap (m : Nat) (h : m < 4294967296) : wrap64 (wrap32 (m : Int)) = s32 m := by
  unfold wrap64 wrap32 s32
  split <;> omega

theorem immOf_lt (f x : Nat) (hf : f ≤ 8) : immOf f x < 4294967296 := by
  have hc : f = 0 ∨ f = 1 ∨ f = 2 ∨ f = 3 ∨ f = 4 ∨ f = 5 ∨ f = 6 ∨ f = 7 ∨ f = 8 := by omega
  unfold immOf
  split
  · exact Nat.mod_lt _ (by omega)
  · split
    · omega
    · refine sext_lt _ _ ?_
      rcases hc with rfl | rfl | rfl | rfl | rfl | rfl | rfl | rfl | rfl <;> decide

theorem s32_12 (m : Nat) : -2048 ≤ s32 (sext m 12) ∧ s32 (sext m 12) < 2048 := by
  unfold s32 sext
  simp only [Nat.reducePow, Nat.reduceSub]
  split <;> split <;> omega
theorem s32_13 (m : Nat) (h : m % 2 = 0) : s32 (sext m 13) % 2 = 0 ∧ -4096 ≤ s32 (sext m 13) ∧ s32 (sext m 13) < 4096 := by
  unfold s32 sext
  simp only [Nat.reducePow, Nat.reduceSub]
  split <;> split <;> omega
theorem s32_21 (m : Nat) (h : m % 2 = 0) : s32 (sext m 21) % 2 = 0 ∧ -1048576 ≤ s32 (sext m 21) ∧ s32 (sext m 21) < 1048576 := by
  unfold s32 sext
  simp only [Nat.reducePow, Nat.reduceSub]
  split <;> split <;> omega
theorem s32_32 (m : Nat) (h : m % 4096 = 0) : s32 (sext m 32) % 4096 = 0 := by
  unfold s32 sext
  simp only [Nat.reducePow, Nat.reduceSub]
  split <;> split <;> omega
theorem gather3 (x : Nat) : (gatherN x (partsOf 3)).1 < 32 := by
  simp only [gatherN, partsOf, List.foldl, gstep, setf, field, Nat.reducePow, Nat.reduceAdd]
  omega

/-- What the number of an instruction keeps to, by its form. -/
theorem numbers_facts (f x : Nat) (hf : 1 ≤ f ∧ f ≤ 8) :
    (f = 5 → s32 (immOf f x) % 2 = 0 ∧ -4096 ≤ s32 (immOf f x) ∧ s32 (immOf f x) < 4096) ∧
    (f = 7 → s32 (immOf f x) % 2 = 0 ∧ -1048576 ≤ s32 (immOf f x) ∧ s32 (immOf f x) < 1048576) ∧
    (f = 6 → s32 (immOf f x) % 4096 = 0) ∧ (f = 3 → 0 ≤ s32 (immOf f x) ∧ s32 (immOf f x) < 32) ∧
    (f ≠ 5 → f ≠ 7 → f ≠ 6 → -2048 ≤ s32 (immOf f x) ∧ s32 (immOf f x) < 2048) := by
  have hc : f = 1 ∨ f = 2 ∨ f = 3 ∨ f = 4 ∨ f = 5 ∨ f = 6 ∨ f = 7 ∨ f = 8 := by omega
  rcases hc with rfl | rfl | rfl | rfl | rfl | rfl | rfl | rfl
  · refine ⟨by omega, by omega, by omega, by omega, fun _ _ _ => ?_⟩
    show -2048 ≤ s32 0 ∧ s32 0 < 2048
    decide
  · exact ⟨by omega, by omega, by omega, by omega, fun _ _ _ => s32_12 _⟩
  · have h := gather3 x
    have e : immOf 3 x = (gatherN x (partsOf 3)).1 := by
      show (gatherN x (partsOf 3)).1 * 2 ^ 0 % 4294967296 = _
      omega
    rw [e]
    generalize (gatherN x (partsOf 3)).1 = V at *
    have e2 : s32 V = V := by unfold s32; rw [if_pos (by omega)]
    rw [e2]
    refine ⟨by omega, by omega, by omega, fun _ => by omega, fun _ _ _ => by omega⟩
  · exact ⟨by omega, by omega, by omega, by omega, fun _ _ _ => s32_12 _⟩
  · refine ⟨fun _ => s32_13 _ ?_, by omega, by omega, by omega, by omega⟩
    show (gatherN x (partsOf 5)).1 * 2 ^ 1 % 4294967296 % 2 = 0
    omega
  · refine ⟨by omega, by omega, fun _ => s32_32 _ ?_, by omega, by omega⟩
    show (gatherN x (partsOf 6)).1 * 2 ^ 12 % 4294967296 % 4096 = 0
    omega
  · refine ⟨by omega, fun _ => s32_21 _ ?_, by omega, by omega, by omega⟩
    show (gatherN x (partsOf 7)).1 * 2 ^ 1 % 4294967296 % 2 = 0
    omega
  · refine ⟨by omega, by omega, by omega, by omega, fun _ _ _ => ?_⟩
    show -2048 ≤ s32 0 ∧ s32 0 < 2048
    decide

theorem formOf_cases (k : Nat) (h1 : 1 ≤ k) (h2 : k ≤ 48) : (formOf k = 5 ∧ 5 ≤ k ∧ k ≤ 10) ∨ (formOf k = 7 ∧ k = 3) ∨ (formOf k = 6 ∧ (k = 1 ∨ k = 2)) ∨ (formOf k = 3 ∧ 25 ≤ k ∧ k ≤ 27) ∨
    (formOf k ≠ 5 ∧ formOf k ≠ 7 ∧ formOf k ≠ 6 ∧ 1 ≤ formOf k ∧ formOf k ≤ 8 ∧ (k = 4 ∨ (11 ≤ k ∧ k ≤ 24) ∨ (28 ≤ k ∧ k ≤ 48))) := by
  have : ∀ k : Nat, k < 49 → 1 ≤ k → (formOf k = 5 ∧ 5 ≤ k ∧ k ≤ 10) ∨ (formOf k = 7 ∧ k = 3) ∨ (formOf k = 6 ∧ (k = 1 ∨ k = 2)) ∨ (formOf k = 3 ∧ 25 ≤ k ∧ k ≤ 27) ∨
    (formOf k ≠ 5 ∧ formOf k ≠ 7 ∧ formOf k ≠ 6 ∧ 1 ≤ formOf k ∧ formOf k ≤ 8 ∧ (k = 4 ∨ (11 ≤ k ∧ k ≤ 24) ∨ (28 ≤ k ∧ k ≤ 48))) := by
    intro k h2 h1
    obtain ⟨f, hf⟩ : ∃ f, f = formOf k := ⟨_, rfl⟩
    rw [← hf]
    unfold formOf at hf
    repeat' (split at hf <;> try omega)
  exact this k (by omega) h1

theorem tmod0 (n c : Int) (h : n % c = 0) : Int.tmod n c = 0 := Int.tmod_eq_zero_of_dvd (Int.dvd_of_emod_eq_zero h)

set_option maxRecDepth 100000 in
set_option maxHeartbeats 4000000 in
theorem numbers_walk (x : Nat) (w : World) (hC : Codes w) (hx : x < 4294967296) : Calls Tryd.prog 4 #[.int .u32 x] w fun e w' => e = .returned (.bool true) ∧ Below w.heap.size w w' := by
  by_cases hk : opOf x = 0
  · have he : decE x = 20 := by unfold decE; rw [if_pos hk]
    have cd : ∀ w, Codes w → Calls Tryd.prog 10 #[.int .u32 x] w fun e w' => e = .returned (.tuple #[.agg #[.int .i64 (decN x).op, .int .i64 (decN x).rd, .int .i64 (decN x).rs1, .int .i64 (decN x).rs2, .int .u32 (decN x).imm], .int .i64 20]) ∧ Below w.heap.size w w' := fun w hC => by
      have := decode_any x w hC hx
      rw [he] at this
      exact this
    clear he hk
    generalize decN x = r at *
    go_enter Tryd.func4, Tryd.ntmps4
    go_wp2_with fail
    refine (cd _ hC).mono ?_; rintro e w1 ⟨rfl, B1⟩
    have hs := B1.size
    go_wp2_with fail
    have hb := B1.alloc hs (.cells #[.int .i64 r.op, .int .i64 r.rd, .int .i64 r.rs1, .int .i64 r.rs2, .int .u32 r.imm] 24)
    refine (alive02 _ (hC.kept hb)).mono ?_; rintro e w2 ⟨rfl, B2⟩
    go_wp2_with fail
    go_ret
    exact ⟨rfl, hb.trans (B2.mono (by simp; omega))⟩
  · have he : decE x = 0 := by unfold decE; rw [if_neg hk]
    have hr : (decN x).op = opOf x := by unfold decN; rw [if_neg hk]; rfl
    have hle := opOf_le x
    have cd : ∀ w, Codes w → Calls Tryd.prog 10 #[.int .u32 x] w fun e w' => e = .returned (.tuple #[.agg #[.int .i64 (opOf x), .int .i64 (decN x).rd, .int .i64 (decN x).rs1, .int .i64 (decN x).rs2, .int .u32 (decN x).imm], .int .i64 0]) ∧ Below w.heap.size w w' := fun w hC => by
      have := decode_any x w hC hx
      rw [he] at this
      rw [← hr]
      exact this
    clear he hr
    have himm : (decN x).imm = immOf (formOf (opOf x)) x := by unfold decN; rw [if_neg hk]; rfl
    have hcas := formOf_cases (opOf x) (by omega) hle
    have hf18 : 1 ≤ formOf (opOf x) ∧ formOf (opOf x) ≤ 8 := by omega
    have hfx := numbers_facts (formOf (opOf x)) x hf18
    have hlt := immOf_lt (formOf (opOf x)) x hf18.2
    rw [← himm] at hfx hlt
    have HN := Lib.hid (s32_wrap (decN x).imm hlt)
    clear himm hlt hf18
    generalize decN x = r at *
    generalize s32 r.imm = n at *
    generalize formOf (opOf x) = f at *
    generalize opOf x = k at *
    obtain ⟨F5, F7, F6, F3, F0⟩ := hfx
    rcases hcas with ⟨rfl, h1, h2⟩ | ⟨rfl, rfl⟩ | ⟨rfl, hk12⟩ | ⟨rfl, h1, h2⟩ | ⟨e1, e2, e3, -, -, hkk⟩
    · obtain ⟨t1, t2, t3⟩ := F5 rfl
      have t1' := tmod0 _ _ t1
      clear F5 F7 F6 F3 F0
      have h1' : (5 : Int) ≤ k := by omega
      have h2' : (k : Int) ≤ 10 := by omega
      go_enter Tryd.func4, Tryd.ntmps4
      go_wp2_with fail
      refine (cd _ hC).mono ?_; rintro e w1 ⟨rfl, B1⟩
      have hs := B1.size
      go_wp2_with fail
      have hb := B1.alloc hs (.cells #[.int .i64 k, .int .i64 r.rd, .int .i64 r.rs1, .int .i64 r.rs2, .int .u32 r.imm] 24)
      refine (alive02 _ (hC.kept hb)).mono ?_; rintro e w2 ⟨rfl, B2⟩
      rw [HN.out]
      go_wp2_with fail
      go_ret
      exact ⟨rfl, hb.trans (B2.mono (by simp; omega))⟩
    · obtain ⟨t1, t2, t3⟩ := F7 rfl
      have t1' := tmod0 _ _ t1
      clear F5 F7 F6 F3 F0
      go_enter Tryd.func4, Tryd.ntmps4
      go_wp2_with fail
      refine (cd _ hC).mono ?_; rintro e w1 ⟨rfl, B1⟩
      have hs := B1.size
      go_wp2_with fail
      have hb := B1.alloc hs (.cells #[.int .i64 (3 : Nat), .int .i64 r.rd, .int .i64 r.rs1, .int .i64 r.rs2, .int .u32 r.imm] 24)
      refine (alive02 _ (hC.kept hb)).mono ?_; rintro e w2 ⟨rfl, B2⟩
      rw [HN.out]
      go_wp2_with fail
      go_ret
      exact ⟨rfl, hb.trans (B2.mono (by simp; omega))⟩
    · have t1' := tmod0 _ _ (F6 rfl)
      clear F5 F7 F6 F3 F0
      rcases hk12 with rfl | rfl
      · go_enter Tryd.func4, Tryd.ntmps4
        go_wp2_with fail
        refine (cd _ hC).mono ?_; rintro e w1 ⟨rfl, B1⟩
        have hs := B1.size
        go_wp2_with fail
        have hb := B1.alloc hs (.cells #[.int .i64 (1 : Nat), .int .i64 r.rd, .int .i64 r.rs1, .int .i64 r.rs2, .int .u32 r.imm] 24)
        refine (alive02 _ (hC.kept hb)).mono ?_; rintro e w2 ⟨rfl, B2⟩
        rw [HN.out]
        go_wp2_with fail
        go_ret
        exact ⟨rfl, hb.trans (B2.mono (by simp; omega))⟩
      · go_enter Tryd.func4, Tryd.ntmps4
        go_wp2_with fail
        refine (cd _ hC).mono ?_; rintro e w1 ⟨rfl, B1⟩
        have hs := B1.size
        go_wp2_with fail
        have hb := B1.alloc hs (.cells #[.int .i64 (2 : Nat), .int .i64 r.rd, .int .i64 r.rs1, .int .i64 r.rs2, .int .u32 r.imm] 24)
        refine (alive02 _ (hC.kept hb)).mono ?_; rintro e w2 ⟨rfl, B2⟩
        rw [HN.out]
        go_wp2_with fail
        go_ret
        exact ⟨rfl, hb.trans (B2.mono (by simp; omega))⟩
    · obtain ⟨t2, t3⟩ := F3 rfl
      clear F5 F7 F6 F3 F0
      have h1' : (25 : Int) ≤ k := by omega
      have h2' : (k : Int) ≤ 27 := by omega
      have b1 : decide ((k : Int) ≤ 10) = false := by simp; omega
      have b2 : ((k : Int) == 3) = false := by simp; omega
      have b3 : ((k : Int) == 1) = false := by simp; omega
      have b4 : ((k : Int) == 2) = false := by simp; omega
      go_enter Tryd.func4, Tryd.ntmps4
      go_wp2_with fail
      refine (cd _ hC).mono ?_; rintro e w1 ⟨rfl, B1⟩
      have hs := B1.size
      go_wp2_with fail
      have hb := B1.alloc hs (.cells #[.int .i64 k, .int .i64 r.rd, .int .i64 r.rs1, .int .i64 r.rs2, .int .u32 r.imm] 24)
      refine (alive02 _ (hC.kept hb)).mono ?_; rintro e w2 ⟨rfl, B2⟩
      rw [HN.out]
      go_wp2_with fail
      go_ret
      exact ⟨rfl, hb.trans (B2.mono (by simp; omega))⟩
    · obtain ⟨t2, t3⟩ := F0 e1 e2 e3
      clear F5 F7 F6 F3 F0 e1 e2 e3
      rcases hkk with rfl | ⟨h1, h2⟩ | ⟨h1, h2⟩
      · go_enter Tryd.func4, Tryd.ntmps4
        go_wp2_with fail
        refine (cd _ hC).mono ?_; rintro e w1 ⟨rfl, B1⟩
        have hs := B1.size
        go_wp2_with fail
        have hb := B1.alloc hs (.cells #[.int .i64 (4 : Nat), .int .i64 r.rd, .int .i64 r.rs1, .int .i64 r.rs2, .int .u32 r.imm] 24)
        refine (alive02 _ (hC.kept hb)).mono ?_; rintro e w2 ⟨rfl, B2⟩
        rw [HN.out]
        go_wp2_with fail
        go_ret
        exact ⟨rfl, hb.trans (B2.mono (by simp; omega))⟩
      · have h1' : (11 : Int) ≤ k := by omega
        have h2' : (k : Int) ≤ 24 := by omega
        have b1 : decide ((k : Int) ≤ 10) = false := by simp; omega
        have b2 : ((k : Int) == 3) = false := by simp; omega
        have b3 : ((k : Int) == 1) = false := by simp; omega
        have b4 : ((k : Int) == 2) = false := by simp; omega
        have b5 : decide ((25 : Int) ≤ k) = false := by simp; omega
        go_enter Tryd.func4, Tryd.ntmps4
        go_wp2_with fail
        refine (cd _ hC).mono ?_; rintro e w1 ⟨rfl, B1⟩
        have hs := B1.size
        go_wp2_with fail
        have hb := B1.alloc hs (.cells #[.int .i64 k, .int .i64 r.rd, .int .i64 r.rs1, .int .i64 r.rs2, .int .u32 r.imm] 24)
        refine (alive02 _ (hC.kept hb)).mono ?_; rintro e w2 ⟨rfl, B2⟩
        rw [HN.out]
        go_wp2_with fail
        go_ret
        exact ⟨rfl, hb.trans (B2.mono (by simp; omega))⟩
      · have h1' : (28 : Int) ≤ k := by omega
        have h2' : (k : Int) ≤ 48 := by omega
        have b1 : decide ((k : Int) ≤ 10) = false := by simp; omega
        have b2 : ((k : Int) == 3) = false := by simp; omega
        have b3 : ((k : Int) == 1) = false := by simp; omega
        have b4 : ((k : Int) == 2) = false := by simp; omega
        have b6 : decide ((k : Int) ≤ 27) = false := by simp; omega
        go_enter Tryd.func4, Tryd.ntmps4
        go_wp2_with fail
        refine (cd _ hC).mono ?_; rintro e w1 ⟨rfl, B1⟩
        have hs := B1.size
        go_wp2_with fail
        have hb := B1.alloc hs (.cells #[.int .i64 k, .int .i64 r.rd, .int .i64 r.rs1, .int .i64 r.rs2, .int .u32 r.imm] 24)
        refine (alive02 _ (hC.kept hb)).mono ?_; rintro e w2 ⟨rfl, B2⟩
        rw [HN.out]
        go_wp2_with fail
        go_ret
        exact ⟨rfl, hb.trans (B2.mono (by simp; omega))⟩
end Go.Proofs.YtaimbclbpoelgaaDoor
