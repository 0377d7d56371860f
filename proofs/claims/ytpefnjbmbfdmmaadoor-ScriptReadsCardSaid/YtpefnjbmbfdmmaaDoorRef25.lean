/- The reference's readings of texts: walks on the second machine. -/
import Derived.Test.YtpefnjbmbfdmmaaDoorAbsT
import Derived.Test.YtpefnjbmbfdmmaaDoorStr
namespace Go.Proofs.YtpefnjbmbfdmmaaDoor
set_option maxRecDepth 100000
set_option maxHeartbeats 4000000
open Go.RowKit Go.Lib

theorem cut_hit {c x : UInt8} : ∀ {s : List UInt8} {k : Nat}, c ∉ s.take k → s.getD k 0 = c → k < s.length → cutL c s = (s.take k, s.drop (k + 1), true)
  | [], k, _, _, h => absurd h (Nat.not_lt_zero _)
  | y :: s, 0, _, h, _ => by
    have h : y = c := h
    rw [cutL, if_pos h]; rfl
  | y :: s, k + 1, h, h1, h2 => by
    rw [cutL, if_neg (fun e => h (by rw [← e]; exact List.mem_cons_self)), cut_hit (x := x) (fun q => h (List.mem_cons_of_mem _ q)) h1 (Nat.lt_of_succ_lt_succ h2)]; rfl
theorem cut_miss {c : UInt8} : ∀ {s : List UInt8}, c ∉ s → cutL c s = (s, [], false)
  | [], _ => rfl
  | y :: s, h => by
    rw [cutL, if_neg (fun e => h (by rw [← e]; exact List.mem_cons_self)), cut_miss (fun q => h (List.mem_cons_of_mem _ q))]
theorem not_next {c : UInt8} {s : List UInt8} {k : Nat} (h : c ∉ s.take k) (hk : k < s.length) (hn : ¬ s.getD k 0 = c) : c ∉ s.take (k + 1) := fun q => by
  rw [List.take_add_one] at q
  rcases List.mem_append.1 q with q | q
  · exact h q
  · rw [List.getElem?_eq_getElem hk] at q
    rw [List.getD_eq_getElem?_getD, List.getElem?_eq_getElem hk] at hn
    exact hn (List.mem_singleton.1 q).symm
abbrev tupS (x : List UInt8 × List UInt8 × Bool) : AV := .tup [vS x.1, vS x.2.1, vB x.2.2]
theorem u8_eq {x y : UInt8} (h : x.toNat = y.toNat) : x = y := UInt8.toNat_inj.1 h

theorem eCut (s : List UInt8) (c : UInt8) (hs : s.length ≤ 1000000) : DCall C0 27 [vS s, .v (.int .u8 ((c.toNat : Nat) : Int))] (tupS (cutL c s)) := by
  refine DCall.intro c0Ok Tryd.func27 rfl rfl (by kernel_rfl) rfl <| cSeq <| cReg rfl <| oR 3 rfl <| rE 3 <| cSeq <| cSeq <| cReg rfl <| oR 1 rfl <| rE 4 <| cBlock <| cLoop (κ := Nat) (fun k => ⟨slotsF [(0, vS s), (1, .v (.int .u8 ((c.toNat : Nat) : Int))), (7, vN k)], heapF [], 4⟩) (fun k => k ≤ s.length ∧ c ∉ s.take k) (fun k => s.length - k) 0 (fun s => s) (Weak.of_lists (fun s => s) wT trivial rfl) (⟨Nat.zero_le _, (by simp)⟩) ?_
  intro k hk
  have hkn : k ≤ s.length := hk.1
  have hkB : k ≤ 1000000 := by omega
  refine cSeq <| cSeq <| cReg rfl <| oR 2 rfl <| rOk (x := vN s.length) rfl rfl rfl <| rOk (x := vB (decide (k < s.length))) rfl rfl (okB (ltN _ _)) <| rE 8 ?_
  refine cCond rfl (fun h1 => ?_) (fun h1 => ?_)
  · have h1p := of_decide_eq_true h1
    refine cSkip <| cSeq <| cBlock <| cSeq <| cReg rfl <| oR 2 rfl <| rNeed (x := .v (.int .u8 (((s.getD k 0).toNat : Nat) : Int))) rfl rfl rfl (⟨Int.natCast_nonneg _, Int.ofNat_lt.2 (by show k < s.length; omega)⟩) <| oR 1 rfl <| rOk (x := vB (((s.getD k 0).toNat) == c.toNat)) rfl rfl (okB (eqN _ _)) <| rE 13 ?_
    refine cCond rfl (fun h2 => ?_) (fun h2 => ?_)
    · have h2p := beq_t h2
      refine cSeq <| cReg rfl <| oR 2 rfl <| rNeed (x := vS (s.take k)) rfl rfl (needSt (ext_to s k)) (⟨Int.le_refl _, Int.natCast_nonneg _, Int.ofNat_le.2 (by show k ≤ s.length; omega)⟩) <| oR 2 rfl ?_
      have b1 : k + 1 ≤ 1000001 := Nat.add_le_add hkB (Nat.le_refl 1)
      refine rOk (x := vN (k + 1)) rfl rfl (okI (wrapI64 b1 rfl)) <| rNeed (x := vS (s.drop (k + 1))) rfl rfl (needSt (ext_from s (k + 1))) (⟨Int.natCast_nonneg _, Int.ofNat_le.2 (by show (k + 1) ≤ s.length; omega), Int.le_refl _⟩) <| oR 3 rfl <| rE 23 <| cRet ?_
      exact finTA rfl trivial rfl (congrArg tupS (cut_hit (x := c) hk.2 (u8_eq (by simpa using h2)) (by have := hkn; omega)).symm)
    · have h2p := beq_f h2
      refine cSkip <| cReg rfl <| oR 1 rfl ?_
      have b2 : k + 1 ≤ 1000001 := Nat.add_le_add hkB (Nat.le_refl 1)
      refine rOk (x := vN (k + 1)) rfl rfl (okI (wrapI64 b2 rfl)) <| oR 1 rfl <| rE 16 ?_
      refine ⟨k + 1, fun s => s, Weak.of_lists (fun s => s) wT trivial rfl, ⟨by omega, not_next hk.2 (by omega) (fun e => by have := h2; rw [e] at this; simp at this)⟩, by show s.length - (k + 1) < s.length - k; omega⟩
  · have h1p := of_decide_eq_false h1
    refine cExit <| cSeq <| cReg rfl <| oR 4 rfl <| rE 12 <| cRet ?_
    exact finTA rfl trivial rfl (congrArg tupS (cut_miss (by rw [← List.take_of_length_le (show s.length ≤ k by have := h1; simp at this; omega)]; exact hk.2)).symm)
def valK (b : Nat) (s : List UInt8) (k : Nat) : Nat := (s.take k).foldl (fun n x => b * n + refD b x) 0
theorem valK_next {b : Nat} {s : List UInt8} {k : Nat} (hk : k < s.length) : valK b s (k + 1) = b * valK b s k + refD b (s.getD k 0) := by
  unfold valK
  rw [List.take_add_one, List.getElem?_eq_getElem hk, Option.toList_some, List.foldl_append, List.getD_eq_getElem?_getD, List.getElem?_eq_getElem hk]; rfl
theorem valK_end {b : Nat} {s : List UInt8} {k : Nat} (h : s.length ≤ k ∨ 9 ≤ k) (hk : k ≤ 9) : valK b s k = valV b s := by
  unfold valK valV
  rcases h with h | h
  · rw [List.take_of_length_le h, List.take_of_length_le (by omega)]
  · rw [show k = 9 by omega]
theorem refD_le (b : Nat) (x : UInt8) : refD b x ≤ 15 := by unfold refD; split <;> (try split) <;> omega
theorem valK_lt {b : Nat} (hb : b ≤ 16) (s : List UInt8) : ∀ k, valK b s k < 16 ^ k
  | 0 => by show 0 < 1; omega
  | k + 1 => by
    by_cases h : k < s.length
    · rw [valK_next h]
      have h1 := valK_lt hb s k
      have h2 := refD_le b (s.getD k 0)
      have h3 : b * valK b s k ≤ 16 * valK b s k := Nat.mul_le_mul_right _ hb
      rw [Nat.pow_succ]; omega
    · have e : valK b s (k + 1) = valK b s k := by unfold valK; rw [List.take_of_length_le (by omega), List.take_of_length_le (by omega)]
      rw [e, Nat.pow_succ]; have := valK_lt hb s k; omega
theorem valK_le {b : Nat} (hb : b ≤ 16) (s : List UInt8) {k : Nat} (hk : k ≤ 9) : valK b s k ≤ 68719476736 := by
  have h := valK_lt hb s k
  have : 16 ^ k ≤ 16 ^ 9 := Nat.pow_le_pow_right (by decide) hk
  omega
theorem and9 {a b : Bool} (h : cond2 a b false = true) : a = true ∧ b = true := by rw [cAnd, Bool.and_eq_true] at h; exact h
theorem nand9 {a b : Bool} (h : cond2 a b false = false) : a = false ∨ b = false := by rw [cAnd, Bool.and_eq_false_iff] at h; exact h

theorem eVal10 (s : List UInt8) (hs : s.length ≤ 1000000) : DCall C0 49 [vS s, vI 10] (vN (valV 10 s)) := by
  refine DCall.intro c0Ok Tryd.func49 rfl rfl (by kernel_rfl) rfl <| cSeq <| cReg rfl <| oR 1 rfl <| rE 1 <| cSeq <| cReg rfl <| oR 1 rfl <| rE 2 <| cSeq <| cSeq <| cReg rfl <| oR 1 rfl <| rE 3 <| cBlock <| cLoop (κ := Nat) (fun k => ⟨slotsF [(0, vS s), (1, vI 10), (4, vI 0), (5, vN (valK 10 s k)), (6, vN k)], heapF [], 3⟩) (fun k => k ≤ (min s.length 9)) (fun k => (min s.length 9) - k) 0 (fun s => s) (Weak.of_lists (fun s => s) wT trivial rfl) (Nat.zero_le _) ?_
  intro k hk
  have hkn : k ≤ (min s.length 9) := hk
  have hkB : k ≤ 9 := by omega
  refine cSeq <| cSeq <| cReg rfl <| oR 2 rfl <| rOk (x := vN s.length) rfl rfl rfl <| rOk (x := vB (decide (k < s.length))) rfl rfl (okB (ltN _ _)) <| oR 1 rfl <| gN rfl <| gBS (x := vB (decide (k < 9))) rfl id (okB (ltN _ _)) <| rNeed rfl rfl rfl (fun h => h) <| rE 11 ?_
  refine cCond rfl (fun h1 => ?_) (fun h1 => ?_)
  · obtain ⟨hkl, hk9⟩ : k < s.length ∧ k < 9 := by have q := and9 h1; simpa using q
    refine cSkip <| cSeq <| cBlock <| cSeq <| cReg rfl <| oR 1 rfl <| rE 12 <| cSeq <| cSeq <| cReg rfl <| oR 2 rfl <| rNeed (x := .v (.int .u8 (((s.getD k 0).toNat : Nat) : Int))) rfl rfl rfl (⟨Int.natCast_nonneg _, Int.ofNat_lt.2 (by show k < s.length; omega)⟩) <| rOk (x := vB (decide (((s.getD k 0).toNat) ≥ 48))) rfl rfl (okB (geN _ _)) <| oR 1 rfl <| gN rfl <| gN rfl ?_
    refine gNeedS (x := .v (.int .u8 (((s.getD k 0).toNat : Nat) : Int))) (g := decide (((s.getD k 0).toNat) ≥ 48)) rfl rfl rfl rfl (fun h => by first | (simp_all; done) | exact (Bool.and_eq_true_iff.1 h).1 | exact Bool.and_eq_true_iff.2 ⟨h, h⟩) rfl rfl (fun _ => ⟨Int.natCast_nonneg _, Int.ofNat_lt.2 (by show k < s.length; omega)⟩) <| gBS (x := vB (decide (((s.getD k 0).toNat) ≤ 57))) rfl id (okB (leN _ _)) <| rNeed rfl rfl rfl (fun h => h) <| rE 22 ?_
    refine cCond rfl (fun h2 => ?_) (fun h2 => ?_)
    · refine cReg rfl <| oR 2 rfl <| rNeed (x := .v (.int .u8 (((s.getD k 0).toNat : Nat) : Int))) rfl rfl rfl (⟨Int.natCast_nonneg _, Int.ofNat_lt.2 (by show k < s.length; omega)⟩) ?_
      have b1 : (((s.getD k 0).toNat) + 256 - 48) % 256 ≤ 255 := Nat.le_of_lt_succ (Nat.mod_lt _ (by decide))
      refine rOk (x := .v (.int .u8 (((((s.getD k 0).toNat) + 256 - 48) % 256 : Nat) : Int))) rfl rfl (okI (subI8 (Nat.le_refl 48) rfl)) <| rOk (x := vN ((((s.getD k 0).toNat) + 256 - 48) % 256)) rfl rfl (okI (wrapI64 b1 rfl)) <| oR 1 rfl <| rE 28 <| cSeq <| cSeq <| cReg rfl <| oR 1 rfl <| rOk (x := vB (10 == 16)) rfl rfl rfl <| oR 1 rfl <| gN rfl <| gN rfl <| gNeedS (x := .v (.int .u8 (((s.getD k 0).toNat : Nat) : Int))) (g := 10 == 16) rfl rfl rfl rfl (fun h => by first | (simp_all; done) | exact (Bool.and_eq_true_iff.1 h).1 | exact Bool.and_eq_true_iff.2 ⟨h, h⟩) rfl rfl (fun _ => ⟨Int.natCast_nonneg _, Int.ofNat_lt.2 (by show k < s.length; omega)⟩) <| gBS (x := vB (decide (((s.getD k 0).toNat) ≥ 97))) rfl id (okB (geN _ _)) <| rNeed rfl rfl rfl (fun h => h) <| oR 1 rfl ?_
      refine gN rfl <| gN rfl <| gNeedS (x := .v (.int .u8 (((s.getD k 0).toNat : Nat) : Int))) (g := cond2 (10 == 16) (decide (((s.getD k 0).toNat) ≥ 97)) false) rfl rfl rfl rfl (fun h => by first | (simp_all; done) | exact (Bool.and_eq_true_iff.1 h).1 | exact Bool.and_eq_true_iff.2 ⟨h, h⟩) rfl rfl (fun _ => ⟨Int.natCast_nonneg _, Int.ofNat_lt.2 (by show k < s.length; omega)⟩) <| gBS (x := vB (decide (((s.getD k 0).toNat) ≤ 102))) rfl id (okB (leN _ _)) <| rNeed rfl rfl rfl (fun h => h) <| rE 42 ?_
      refine cCond rfl (fun h3 => ?_) (fun h3 => ?_)
      · refine cReg rfl <| oR 2 rfl <| rNeed (x := .v (.int .u8 (((s.getD k 0).toNat : Nat) : Int))) rfl rfl rfl (⟨Int.natCast_nonneg _, Int.ofNat_lt.2 (by show k < s.length; omega)⟩) ?_
        have b2 : (((s.getD k 0).toNat) + 256 - 97) % 256 ≤ 255 := Nat.le_of_lt_succ (Nat.mod_lt _ (by decide))
        refine rOk (x := .v (.int .u8 (((((s.getD k 0).toNat) + 256 - 97) % 256 : Nat) : Int))) rfl rfl (okI (subI8 (Nat.le_refl 97) rfl)) <| rOk (x := vN ((((s.getD k 0).toNat) + 256 - 97) % 256)) rfl rfl (okI (wrapI64 b2 rfl)) ?_
        have b3 : ((((s.getD k 0).toNat) + 256 - 97) % 256) + 10 ≤ 265 := Nat.add_le_add b2 (Nat.le_refl 10)
        refine rOk (x := vN (((((s.getD k 0).toNat) + 256 - 97) % 256) + 10)) rfl rfl (okI (wrapI64 b3 rfl)) <| oR 1 rfl <| rE 49 <| cReg rfl <| oR 2 rfl ?_
        have b4 : 10 * (valK 10 s k) ≤ 687194767360 := Nat.mul_le_mul (Nat.le_refl 10) (valK_le (by decide) s (by omega))
        refine rOk (x := vN (10 * (valK 10 s k))) rfl rfl (okI (wrapI64 b4 rfl)) <| oR 1 rfl ?_
        have b5 : (10 * (valK 10 s k)) + (((((s.getD k 0).toNat) + 256 - 97) % 256) + 10) ≤ 687194767625 := Nat.add_le_add b4 b3
        refine rOk (x := vN ((10 * (valK 10 s k)) + (((((s.getD k 0).toNat) + 256 - 97) % 256) + 10))) rfl rfl (okI (wrapI64 b5 rfl)) <| oR 1 rfl <| rE 55 <| cReg rfl <| oR 1 rfl ?_
        have b6 : k + 1 ≤ 10 := Nat.add_le_add hkB (Nat.le_refl 1)
        refine rOk (x := vN (k + 1)) rfl rfl (okI (wrapI64 b6 rfl)) <| oR 1 rfl <| rE 58 ?_
        refine ⟨k + 1, fun s => s, Weak.of_lists (fun s => s) ⟨⟨rfl, rfl⟩, ⟨rfl, rfl⟩, ⟨rfl, rfl⟩, ⟨(congrArg vN (by rw [valK_next hkl]; unfold refD; have hu := u8_le (s.getD k 0); generalize (s.getD k 0).toNat = x at *; simp only [cAnd, Bool.and_eq_true, Bool.and_eq_false_iff, decide_eq_true_eq, decide_eq_false_iff_not, ge_iff_le, beq_iff_eq, beq_eq_false_iff_ne, ne_eq, true_and, not_true, false_or] at h2 h3; first | (rw [if_pos (by omega)]; omega) | (rw [if_neg (by omega), if_pos (by omega)]; omega) | rw [if_neg (by omega), if_neg (by omega)] : (10 * (valK 10 s k)) + (((((s.getD k 0).toNat) + 256 - 97) % 256) + 10) = valK 10 s (k + 1))), rfl⟩, ⟨rfl, rfl⟩, trivial⟩ trivial rfl, by omega, by show (min s.length 9) - (k + 1) < (min s.length 9) - k; omega⟩
      · refine cSkip <| cReg rfl <| oR 2 rfl ?_
        have b7 : 10 * (valK 10 s k) ≤ 687194767360 := Nat.mul_le_mul (Nat.le_refl 10) (valK_le (by decide) s (by omega))
        refine rOk (x := vN (10 * (valK 10 s k))) rfl rfl (okI (wrapI64 b7 rfl)) <| oR 1 rfl ?_
        have b8 : (10 * (valK 10 s k)) + ((((s.getD k 0).toNat) + 256 - 48) % 256) ≤ 687194767615 := Nat.add_le_add b7 b1
        refine rOk (x := vN ((10 * (valK 10 s k)) + ((((s.getD k 0).toNat) + 256 - 48) % 256))) rfl rfl (okI (wrapI64 b8 rfl)) <| oR 1 rfl <| rE 48 <| cReg rfl <| oR 1 rfl ?_
        have b9 : k + 1 ≤ 10 := Nat.add_le_add hkB (Nat.le_refl 1)
        refine rOk (x := vN (k + 1)) rfl rfl (okI (wrapI64 b9 rfl)) <| oR 1 rfl <| rE 51 ?_
        refine ⟨k + 1, fun s => s, Weak.of_lists (fun s => s) ⟨⟨rfl, rfl⟩, ⟨rfl, rfl⟩, ⟨rfl, rfl⟩, ⟨(congrArg vN (by rw [valK_next hkl]; unfold refD; have hu := u8_le (s.getD k 0); generalize (s.getD k 0).toNat = x at *; simp only [cAnd, Bool.and_eq_true, Bool.and_eq_false_iff, decide_eq_true_eq, decide_eq_false_iff_not, ge_iff_le, beq_iff_eq, beq_eq_false_iff_ne, ne_eq, true_and, not_true, false_or] at h2 h3; first | (rw [if_pos (by omega)]; omega) | (rw [if_neg (by omega), if_pos (by omega)]; omega) | rw [if_neg (by omega), if_neg (by omega)] : (10 * (valK 10 s k)) + ((((s.getD k 0).toNat) + 256 - 48) % 256) = valK 10 s (k + 1))), rfl⟩, ⟨rfl, rfl⟩, trivial⟩ trivial rfl, by omega, by show (min s.length 9) - (k + 1) < (min s.length 9) - k; omega⟩
    · refine cSkip <| cSeq <| cSeq <| cReg rfl <| oR 1 rfl <| rOk (x := vB (10 == 16)) rfl rfl rfl <| oR 1 rfl <| gN rfl <| gN rfl <| gNeedS (x := .v (.int .u8 (((s.getD k 0).toNat : Nat) : Int))) (g := 10 == 16) rfl rfl rfl rfl (fun h => by first | (simp_all; done) | exact (Bool.and_eq_true_iff.1 h).1 | exact Bool.and_eq_true_iff.2 ⟨h, h⟩) rfl rfl (fun _ => ⟨Int.natCast_nonneg _, Int.ofNat_lt.2 (by show k < s.length; omega)⟩) <| gBS (x := vB (decide (((s.getD k 0).toNat) ≥ 97))) rfl id (okB (geN _ _)) <| rNeed rfl rfl rfl (fun h => h) <| oR 1 rfl <| gN rfl <| gN rfl <| gNeedS (x := .v (.int .u8 (((s.getD k 0).toNat : Nat) : Int))) (g := cond2 (10 == 16) (decide (((s.getD k 0).toNat) ≥ 97)) false) rfl rfl rfl rfl (fun h => by first | (simp_all; done) | exact (Bool.and_eq_true_iff.1 h).1 | exact Bool.and_eq_true_iff.2 ⟨h, h⟩) rfl rfl (fun _ => ⟨Int.natCast_nonneg _, Int.ofNat_lt.2 (by show k < s.length; omega)⟩) ?_
      refine gBS (x := vB (decide (((s.getD k 0).toNat) ≤ 102))) rfl id (okB (leN _ _)) <| rNeed rfl rfl rfl (fun h => h) <| rE 36 ?_
      refine cCond rfl (fun h4 => ?_) (fun h4 => ?_)
      · refine cReg rfl <| oR 2 rfl <| rNeed (x := .v (.int .u8 (((s.getD k 0).toNat : Nat) : Int))) rfl rfl rfl (⟨Int.natCast_nonneg _, Int.ofNat_lt.2 (by show k < s.length; omega)⟩) ?_
        have b10 : (((s.getD k 0).toNat) + 256 - 97) % 256 ≤ 255 := Nat.le_of_lt_succ (Nat.mod_lt _ (by decide))
        refine rOk (x := .v (.int .u8 (((((s.getD k 0).toNat) + 256 - 97) % 256 : Nat) : Int))) rfl rfl (okI (subI8 (Nat.le_refl 97) rfl)) <| rOk (x := vN ((((s.getD k 0).toNat) + 256 - 97) % 256)) rfl rfl (okI (wrapI64 b10 rfl)) ?_
        have b11 : ((((s.getD k 0).toNat) + 256 - 97) % 256) + 10 ≤ 265 := Nat.add_le_add b10 (Nat.le_refl 10)
        refine rOk (x := vN (((((s.getD k 0).toNat) + 256 - 97) % 256) + 10)) rfl rfl (okI (wrapI64 b11 rfl)) <| oR 1 rfl <| rE 43 <| cReg rfl <| oR 2 rfl ?_
        have b12 : 10 * (valK 10 s k) ≤ 687194767360 := Nat.mul_le_mul (Nat.le_refl 10) (valK_le (by decide) s (by omega))
        refine rOk (x := vN (10 * (valK 10 s k))) rfl rfl (okI (wrapI64 b12 rfl)) <| oR 1 rfl ?_
        have b13 : (10 * (valK 10 s k)) + (((((s.getD k 0).toNat) + 256 - 97) % 256) + 10) ≤ 687194767625 := Nat.add_le_add b12 b11
        refine rOk (x := vN ((10 * (valK 10 s k)) + (((((s.getD k 0).toNat) + 256 - 97) % 256) + 10))) rfl rfl (okI (wrapI64 b13 rfl)) <| oR 1 rfl <| rE 49 <| cReg rfl <| oR 1 rfl ?_
        have b14 : k + 1 ≤ 10 := Nat.add_le_add hkB (Nat.le_refl 1)
        refine rOk (x := vN (k + 1)) rfl rfl (okI (wrapI64 b14 rfl)) <| oR 1 rfl <| rE 52 ?_
        refine ⟨k + 1, fun s => s, Weak.of_lists (fun s => s) ⟨⟨rfl, rfl⟩, ⟨rfl, rfl⟩, ⟨rfl, rfl⟩, ⟨(congrArg vN (by rw [valK_next hkl]; unfold refD; have hu := u8_le (s.getD k 0); generalize (s.getD k 0).toNat = x at *; simp only [cAnd, Bool.and_eq_true, Bool.and_eq_false_iff, decide_eq_true_eq, decide_eq_false_iff_not, ge_iff_le, beq_iff_eq, beq_eq_false_iff_ne, ne_eq, true_and, not_true, false_or] at h2 h4; first | (rw [if_pos (by omega)]; omega) | (rw [if_neg (by omega), if_pos (by omega)]; omega) | rw [if_neg (by omega), if_neg (by omega)] : (10 * (valK 10 s k)) + (((((s.getD k 0).toNat) + 256 - 97) % 256) + 10) = valK 10 s (k + 1))), rfl⟩, ⟨rfl, rfl⟩, trivial⟩ trivial rfl, by omega, by show (min s.length 9) - (k + 1) < (min s.length 9) - k; omega⟩
      · refine cSkip <| cReg rfl <| oR 2 rfl ?_
        have b15 : 10 * (valK 10 s k) ≤ 687194767360 := Nat.mul_le_mul (Nat.le_refl 10) (valK_le (by decide) s (by omega))
        refine rOk (x := vN (10 * (valK 10 s k))) rfl rfl (okI (wrapI64 b15 rfl)) <| oR 1 rfl ?_
        have b16 : (10 * (valK 10 s k)) + 0 ≤ 687194767360 := Nat.add_le_add b15 (Nat.le_refl 0)
        refine rOk (x := vN ((10 * (valK 10 s k)) + 0)) rfl rfl (okI (wrapI64 b16 rfl)) <| oR 1 rfl <| rE 42 <| cReg rfl <| oR 1 rfl ?_
        have b17 : k + 1 ≤ 10 := Nat.add_le_add hkB (Nat.le_refl 1)
        refine rOk (x := vN (k + 1)) rfl rfl (okI (wrapI64 b17 rfl)) <| oR 1 rfl <| rE 45 ?_
        refine ⟨k + 1, fun s => s, Weak.of_lists (fun s => s) ⟨⟨rfl, rfl⟩, ⟨rfl, rfl⟩, ⟨rfl, rfl⟩, ⟨(congrArg vN (by rw [valK_next hkl]; unfold refD; have hu := u8_le (s.getD k 0); generalize (s.getD k 0).toNat = x at *; simp only [cAnd, Bool.and_eq_true, Bool.and_eq_false_iff, decide_eq_true_eq, decide_eq_false_iff_not, ge_iff_le, beq_iff_eq, beq_eq_false_iff_ne, ne_eq, true_and, not_true, false_or] at h2 h4; first | (rw [if_pos (by omega)]; omega) | (rw [if_neg (by omega), if_pos (by omega)]; omega) | rw [if_neg (by omega), if_neg (by omega)] : (10 * (valK 10 s k)) + 0 = valK 10 s (k + 1))), rfl⟩, ⟨rfl, rfl⟩, trivial⟩ trivial rfl, by omega, by show (min s.length 9) - (k + 1) < (min s.length 9) - k; omega⟩
  · refine cExit <| cSeq <| cReg rfl <| oR 2 rfl <| rE 13 <| cRet ?_
    exact finTA rfl trivial rfl (congrArg vN (valK_end (by rcases nand9 h1 with q | q <;> simp at q <;> omega) (by omega)))
theorem eVal16 (s : List UInt8) (hs : s.length ≤ 1000000) : DCall C0 49 [vS s, vI 16] (vN (valV 16 s)) := by
  refine DCall.intro c0Ok Tryd.func49 rfl rfl (by kernel_rfl) rfl <| cSeq <| cReg rfl <| oR 1 rfl <| rE 1 <| cSeq <| cReg rfl <| oR 1 rfl <| rE 2 <| cSeq <| cSeq <| cReg rfl <| oR 1 rfl <| rE 3 <| cBlock <| cLoop (κ := Nat) (fun k => ⟨slotsF [(0, vS s), (1, vI 16), (4, vI 0), (5, vN (valK 16 s k)), (6, vN k)], heapF [], 3⟩) (fun k => k ≤ (min s.length 9)) (fun k => (min s.length 9) - k) 0 (fun s => s) (Weak.of_lists (fun s => s) wT trivial rfl) (Nat.zero_le _) ?_
  intro k hk
  have hkn : k ≤ (min s.length 9) := hk
  have hkB : k ≤ 9 := by omega
  refine cSeq <| cSeq <| cReg rfl <| oR 2 rfl <| rOk (x := vN s.length) rfl rfl rfl <| rOk (x := vB (decide (k < s.length))) rfl rfl (okB (ltN _ _)) <| oR 1 rfl <| gN rfl <| gBS (x := vB (decide (k < 9))) rfl id (okB (ltN _ _)) <| rNeed rfl rfl rfl (fun h => h) <| rE 11 ?_
  refine cCond rfl (fun h1 => ?_) (fun h1 => ?_)
  · obtain ⟨hkl, hk9⟩ : k < s.length ∧ k < 9 := by have q := and9 h1; simpa using q
    refine cSkip <| cSeq <| cBlock <| cSeq <| cReg rfl <| oR 1 rfl <| rE 12 <| cSeq <| cSeq <| cReg rfl <| oR 2 rfl <| rNeed (x := .v (.int .u8 (((s.getD k 0).toNat : Nat) : Int))) rfl rfl rfl (⟨Int.natCast_nonneg _, Int.ofNat_lt.2 (by show k < s.length; omega)⟩) <| rOk (x := vB (decide (((s.getD k 0).toNat) ≥ 48))) rfl rfl (okB (geN _ _)) <| oR 1 rfl <| gN rfl <| gN rfl ?_
    refine gNeedS (x := .v (.int .u8 (((s.getD k 0).toNat : Nat) : Int))) (g := decide (((s.getD k 0).toNat) ≥ 48)) rfl rfl rfl rfl (fun h => by first | (simp_all; done) | exact (Bool.and_eq_true_iff.1 h).1 | exact Bool.and_eq_true_iff.2 ⟨h, h⟩) rfl rfl (fun _ => ⟨Int.natCast_nonneg _, Int.ofNat_lt.2 (by show k < s.length; omega)⟩) <| gBS (x := vB (decide (((s.getD k 0).toNat) ≤ 57))) rfl id (okB (leN _ _)) <| rNeed rfl rfl rfl (fun h => h) <| rE 22 ?_
    refine cCond rfl (fun h2 => ?_) (fun h2 => ?_)
    · refine cReg rfl <| oR 2 rfl <| rNeed (x := .v (.int .u8 (((s.getD k 0).toNat : Nat) : Int))) rfl rfl rfl (⟨Int.natCast_nonneg _, Int.ofNat_lt.2 (by show k < s.length; omega)⟩) ?_
      have b1 : (((s.getD k 0).toNat) + 256 - 48) % 256 ≤ 255 := Nat.le_of_lt_succ (Nat.mod_lt _ (by decide))
      refine rOk (x := .v (.int .u8 (((((s.getD k 0).toNat) + 256 - 48) % 256 : Nat) : Int))) rfl rfl (okI (subI8 (Nat.le_refl 48) rfl)) <| rOk (x := vN ((((s.getD k 0).toNat) + 256 - 48) % 256)) rfl rfl (okI (wrapI64 b1 rfl)) <| oR 1 rfl <| rE 28 <| cSeq <| cSeq <| cReg rfl <| oR 1 rfl <| rOk (x := vB (16 == 16)) rfl rfl rfl <| oR 1 rfl <| gN rfl <| gN rfl <| gNeedS (x := .v (.int .u8 (((s.getD k 0).toNat : Nat) : Int))) (g := 16 == 16) rfl rfl rfl rfl (fun h => by first | (simp_all; done) | exact (Bool.and_eq_true_iff.1 h).1 | exact Bool.and_eq_true_iff.2 ⟨h, h⟩) rfl rfl (fun _ => ⟨Int.natCast_nonneg _, Int.ofNat_lt.2 (by show k < s.length; omega)⟩) <| gBS (x := vB (decide (((s.getD k 0).toNat) ≥ 97))) rfl id (okB (geN _ _)) <| rNeed rfl rfl rfl (fun h => h) <| oR 1 rfl ?_
      refine gN rfl <| gN rfl <| gNeedS (x := .v (.int .u8 (((s.getD k 0).toNat : Nat) : Int))) (g := cond2 (16 == 16) (decide (((s.getD k 0).toNat) ≥ 97)) false) rfl rfl rfl rfl (fun h => by first | (simp_all; done) | exact (Bool.and_eq_true_iff.1 h).1 | exact Bool.and_eq_true_iff.2 ⟨h, h⟩) rfl rfl (fun _ => ⟨Int.natCast_nonneg _, Int.ofNat_lt.2 (by show k < s.length; omega)⟩) <| gBS (x := vB (decide (((s.getD k 0).toNat) ≤ 102))) rfl id (okB (leN _ _)) <| rNeed rfl rfl rfl (fun h => h) <| rE 42 ?_
      refine cCond rfl (fun h3 => ?_) (fun h3 => ?_)
      · refine cReg rfl <| oR 2 rfl <| rNeed (x := .v (.int .u8 (((s.getD k 0).toNat : Nat) : Int))) rfl rfl rfl (⟨Int.natCast_nonneg _, Int.ofNat_lt.2 (by show k < s.length; omega)⟩) ?_
        have b2 : (((s.getD k 0).toNat) + 256 - 97) % 256 ≤ 255 := Nat.le_of_lt_succ (Nat.mod_lt _ (by decide))
        refine rOk (x := .v (.int .u8 (((((s.getD k 0).toNat) + 256 - 97) % 256 : Nat) : Int))) rfl rfl (okI (subI8 (Nat.le_refl 97) rfl)) <| rOk (x := vN ((((s.getD k 0).toNat) + 256 - 97) % 256)) rfl rfl (okI (wrapI64 b2 rfl)) ?_
        have b3 : ((((s.getD k 0).toNat) + 256 - 97) % 256) + 10 ≤ 265 := Nat.add_le_add b2 (Nat.le_refl 10)
        refine rOk (x := vN (((((s.getD k 0).toNat) + 256 - 97) % 256) + 10)) rfl rfl (okI (wrapI64 b3 rfl)) <| oR 1 rfl <| rE 49 <| cReg rfl <| oR 2 rfl ?_
        have b4 : 16 * (valK 16 s k) ≤ 1099511627776 := Nat.mul_le_mul (Nat.le_refl 16) (valK_le (by decide) s (by omega))
        refine rOk (x := vN (16 * (valK 16 s k))) rfl rfl (okI (wrapI64 b4 rfl)) <| oR 1 rfl ?_
        have b5 : (16 * (valK 16 s k)) + (((((s.getD k 0).toNat) + 256 - 97) % 256) + 10) ≤ 1099511628041 := Nat.add_le_add b4 b3
        refine rOk (x := vN ((16 * (valK 16 s k)) + (((((s.getD k 0).toNat) + 256 - 97) % 256) + 10))) rfl rfl (okI (wrapI64 b5 rfl)) <| oR 1 rfl <| rE 55 <| cReg rfl <| oR 1 rfl ?_
        have b6 : k + 1 ≤ 10 := Nat.add_le_add hkB (Nat.le_refl 1)
        refine rOk (x := vN (k + 1)) rfl rfl (okI (wrapI64 b6 rfl)) <| oR 1 rfl <| rE 58 ?_
        refine ⟨k + 1, fun s => s, Weak.of_lists (fun s => s) ⟨⟨rfl, rfl⟩, ⟨rfl, rfl⟩, ⟨rfl, rfl⟩, ⟨(congrArg vN (by rw [valK_next hkl]; unfold refD; have hu := u8_le (s.getD k 0); generalize (s.getD k 0).toNat = x at *; simp only [cAnd, Bool.and_eq_true, Bool.and_eq_false_iff, decide_eq_true_eq, decide_eq_false_iff_not, ge_iff_le, beq_iff_eq, beq_eq_false_iff_ne, ne_eq, true_and, not_true, false_or] at h2 h3; first | (rw [if_pos (by omega)]; omega) | (rw [if_neg (by omega), if_pos (by omega)]; omega) | rw [if_neg (by omega), if_neg (by omega)] : (16 * (valK 16 s k)) + (((((s.getD k 0).toNat) + 256 - 97) % 256) + 10) = valK 16 s (k + 1))), rfl⟩, ⟨rfl, rfl⟩, trivial⟩ trivial rfl, by omega, by show (min s.length 9) - (k + 1) < (min s.length 9) - k; omega⟩
      · refine cSkip <| cReg rfl <| oR 2 rfl ?_
        have b7 : 16 * (valK 16 s k) ≤ 1099511627776 := Nat.mul_le_mul (Nat.le_refl 16) (valK_le (by decide) s (by omega))
        refine rOk (x := vN (16 * (valK 16 s k))) rfl rfl (okI (wrapI64 b7 rfl)) <| oR 1 rfl ?_
        have b8 : (16 * (valK 16 s k)) + ((((s.getD k 0).toNat) + 256 - 48) % 256) ≤ 1099511628031 := Nat.add_le_add b7 b1
        refine rOk (x := vN ((16 * (valK 16 s k)) + ((((s.getD k 0).toNat) + 256 - 48) % 256))) rfl rfl (okI (wrapI64 b8 rfl)) <| oR 1 rfl <| rE 48 <| cReg rfl <| oR 1 rfl ?_
        have b9 : k + 1 ≤ 10 := Nat.add_le_add hkB (Nat.le_refl 1)
        refine rOk (x := vN (k + 1)) rfl rfl (okI (wrapI64 b9 rfl)) <| oR 1 rfl <| rE 51 ?_
        refine ⟨k + 1, fun s => s, Weak.of_lists (fun s => s) ⟨⟨rfl, rfl⟩, ⟨rfl, rfl⟩, ⟨rfl, rfl⟩, ⟨(congrArg vN (by rw [valK_next hkl]; unfold refD; have hu := u8_le (s.getD k 0); generalize (s.getD k 0).toNat = x at *; simp only [cAnd, Bool.and_eq_true, Bool.and_eq_false_iff, decide_eq_true_eq, decide_eq_false_iff_not, ge_iff_le, beq_iff_eq, beq_eq_false_iff_ne, ne_eq, true_and, not_true, false_or] at h2 h3; first | (rw [if_pos (by omega)]; omega) | (rw [if_neg (by omega), if_pos (by omega)]; omega) | rw [if_neg (by omega), if_neg (by omega)] : (16 * (valK 16 s k)) + ((((s.getD k 0).toNat) + 256 - 48) % 256) = valK 16 s (k + 1))), rfl⟩, ⟨rfl, rfl⟩, trivial⟩ trivial rfl, by omega, by show (min s.length 9) - (k + 1) < (min s.length 9) - k; omega⟩
    · refine cSkip <| cSeq <| cSeq <| cReg rfl <| oR 1 rfl <| rOk (x := vB (16 == 16)) rfl rfl rfl <| oR 1 rfl <| gN rfl <| gN rfl <| gNeedS (x := .v (.int .u8 (((s.getD k 0).toNat : Nat) : Int))) (g := 16 == 16) rfl rfl rfl rfl (fun h => by first | (simp_all; done) | exact (Bool.and_eq_true_iff.1 h).1 | exact Bool.and_eq_true_iff.2 ⟨h, h⟩) rfl rfl (fun _ => ⟨Int.natCast_nonneg _, Int.ofNat_lt.2 (by show k < s.length; omega)⟩) <| gBS (x := vB (decide (((s.getD k 0).toNat) ≥ 97))) rfl id (okB (geN _ _)) <| rNeed rfl rfl rfl (fun h => h) <| oR 1 rfl <| gN rfl <| gN rfl <| gNeedS (x := .v (.int .u8 (((s.getD k 0).toNat : Nat) : Int))) (g := cond2 (16 == 16) (decide (((s.getD k 0).toNat) ≥ 97)) false) rfl rfl rfl rfl (fun h => by first | (simp_all; done) | exact (Bool.and_eq_true_iff.1 h).1 | exact Bool.and_eq_true_iff.2 ⟨h, h⟩) rfl rfl (fun _ => ⟨Int.natCast_nonneg _, Int.ofNat_lt.2 (by show k < s.length; omega)⟩) ?_
      refine gBS (x := vB (decide (((s.getD k 0).toNat) ≤ 102))) rfl id (okB (leN _ _)) <| rNeed rfl rfl rfl (fun h => h) <| rE 36 ?_
      refine cCond rfl (fun h4 => ?_) (fun h4 => ?_)
      · refine cReg rfl <| oR 2 rfl <| rNeed (x := .v (.int .u8 (((s.getD k 0).toNat : Nat) : Int))) rfl rfl rfl (⟨Int.natCast_nonneg _, Int.ofNat_lt.2 (by show k < s.length; omega)⟩) ?_
        have b10 : (((s.getD k 0).toNat) + 256 - 97) % 256 ≤ 255 := Nat.le_of_lt_succ (Nat.mod_lt _ (by decide))
        refine rOk (x := .v (.int .u8 (((((s.getD k 0).toNat) + 256 - 97) % 256 : Nat) : Int))) rfl rfl (okI (subI8 (Nat.le_refl 97) rfl)) <| rOk (x := vN ((((s.getD k 0).toNat) + 256 - 97) % 256)) rfl rfl (okI (wrapI64 b10 rfl)) ?_
        have b11 : ((((s.getD k 0).toNat) + 256 - 97) % 256) + 10 ≤ 265 := Nat.add_le_add b10 (Nat.le_refl 10)
        refine rOk (x := vN (((((s.getD k 0).toNat) + 256 - 97) % 256) + 10)) rfl rfl (okI (wrapI64 b11 rfl)) <| oR 1 rfl <| rE 43 <| cReg rfl <| oR 2 rfl ?_
        have b12 : 16 * (valK 16 s k) ≤ 1099511627776 := Nat.mul_le_mul (Nat.le_refl 16) (valK_le (by decide) s (by omega))
        refine rOk (x := vN (16 * (valK 16 s k))) rfl rfl (okI (wrapI64 b12 rfl)) <| oR 1 rfl ?_
        have b13 : (16 * (valK 16 s k)) + (((((s.getD k 0).toNat) + 256 - 97) % 256) + 10) ≤ 1099511628041 := Nat.add_le_add b12 b11
        refine rOk (x := vN ((16 * (valK 16 s k)) + (((((s.getD k 0).toNat) + 256 - 97) % 256) + 10))) rfl rfl (okI (wrapI64 b13 rfl)) <| oR 1 rfl <| rE 49 <| cReg rfl <| oR 1 rfl ?_
        have b14 : k + 1 ≤ 10 := Nat.add_le_add hkB (Nat.le_refl 1)
        refine rOk (x := vN (k + 1)) rfl rfl (okI (wrapI64 b14 rfl)) <| oR 1 rfl <| rE 52 ?_
        refine ⟨k + 1, fun s => s, Weak.of_lists (fun s => s) ⟨⟨rfl, rfl⟩, ⟨rfl, rfl⟩, ⟨rfl, rfl⟩, ⟨(congrArg vN (by rw [valK_next hkl]; unfold refD; have hu := u8_le (s.getD k 0); generalize (s.getD k 0).toNat = x at *; simp only [cAnd, Bool.and_eq_true, Bool.and_eq_false_iff, decide_eq_true_eq, decide_eq_false_iff_not, ge_iff_le, beq_iff_eq, beq_eq_false_iff_ne, ne_eq, true_and, not_true, false_or] at h2 h4; first | (rw [if_pos (by omega)]; omega) | (rw [if_neg (by omega), if_pos (by omega)]; omega) | rw [if_neg (by omega), if_neg (by omega)] : (16 * (valK 16 s k)) + (((((s.getD k 0).toNat) + 256 - 97) % 256) + 10) = valK 16 s (k + 1))), rfl⟩, ⟨rfl, rfl⟩, trivial⟩ trivial rfl, by omega, by show (min s.length 9) - (k + 1) < (min s.length 9) - k; omega⟩
      · refine cSkip <| cReg rfl <| oR 2 rfl ?_
        have b15 : 16 * (valK 16 s k) ≤ 1099511627776 := Nat.mul_le_mul (Nat.le_refl 16) (valK_le (by decide) s (by omega))
        refine rOk (x := vN (16 * (valK 16 s k))) rfl rfl (okI (wrapI64 b15 rfl)) <| oR 1 rfl ?_
        have b16 : (16 * (valK 16 s k)) + 0 ≤ 1099511627776 := Nat.add_le_add b15 (Nat.le_refl 0)
        refine rOk (x := vN ((16 * (valK 16 s k)) + 0)) rfl rfl (okI (wrapI64 b16 rfl)) <| oR 1 rfl <| rE 42 <| cReg rfl <| oR 1 rfl ?_
        have b17 : k + 1 ≤ 10 := Nat.add_le_add hkB (Nat.le_refl 1)
        refine rOk (x := vN (k + 1)) rfl rfl (okI (wrapI64 b17 rfl)) <| oR 1 rfl <| rE 45 ?_
        refine ⟨k + 1, fun s => s, Weak.of_lists (fun s => s) ⟨⟨rfl, rfl⟩, ⟨rfl, rfl⟩, ⟨rfl, rfl⟩, ⟨(congrArg vN (by rw [valK_next hkl]; unfold refD; have hu := u8_le (s.getD k 0); generalize (s.getD k 0).toNat = x at *; simp only [cAnd, Bool.and_eq_true, Bool.and_eq_false_iff, decide_eq_true_eq, decide_eq_false_iff_not, ge_iff_le, beq_iff_eq, beq_eq_false_iff_ne, ne_eq, true_and, not_true, false_or] at h2 h4; first | (rw [if_pos (by omega)]; omega) | (rw [if_neg (by omega), if_pos (by omega)]; omega) | rw [if_neg (by omega), if_neg (by omega)] : (16 * (valK 16 s k)) + 0 = valK 16 s (k + 1))), rfl⟩, ⟨rfl, rfl⟩, trivial⟩ trivial rfl, by omega, by show (min s.length 9) - (k + 1) < (min s.length 9) - k; omega⟩
  · refine cExit <| cSeq <| cReg rfl <| oR 2 rfl <| rE 13 <| cRet ?_
    exact finTA rfl trivial rfl (congrArg vN (valK_end (by rcases nand9 h1 with q | q <;> simp at q <;> omega) (by omega)))
theorem eMode (a : Int) : DCall C0 53 [vI a] (vS (modeW a)) := by
  refine DCall.intro c0Ok Tryd.func53 rfl rfl (by kernel_rfl) rfl <| cSeq <| cReg rfl <| oR 1 rfl <| rE 1 <| cSeq <| cSeq <| cReg rfl <| oR 1 rfl <| rOk (x := vB (a == 1)) rfl rfl rfl <| rE 3 ?_
  refine cCond rfl (fun h1 => ?_) (fun h1 => ?_)
  · have h1p := beq_t h1
    refine cSeq <| cReg rfl <| oR 1 rfl <| rE 4 <| cRet ?_
    exact finTA rfl trivial rfl (congrArg vS (by unfold modeW; simp only [beq_iff_eq, beq_eq_false_iff_ne, ne_eq] at h1; simp [h1] : taintW = modeW a))
  · have h1p := beq_f h1
    refine cSkip <| cSeq <| cSeq <| cReg rfl <| oR 1 rfl <| rOk (x := vB (a == 2)) rfl rfl rfl <| rE 5 ?_
    refine cCond rfl (fun h2 => ?_) (fun h2 => ?_)
    · have h2p := beq_t h2
      refine cSeq <| cReg rfl <| oR 1 rfl <| rE 6 <| cRet ?_
      exact finTA rfl trivial rfl (congrArg vS (by unfold modeW; simp only [beq_iff_eq, beq_eq_false_iff_ne, ne_eq] at h1 h2; simp [h1, h2] : strictW = modeW a))
    · have h2p := beq_f h2
      refine cSkip <| cSeq <| cReg rfl <| oR 1 rfl <| rE 6 <| cRet ?_
      exact finTA rfl trivial rfl (congrArg vS (by unfold modeW; simp only [beq_iff_eq, beq_eq_false_iff_ne, ne_eq] at h1 h2; simp [h1, h2] : offW = modeW a))
theorem eName (k : Nat) (hk : k < 14) : DCall C0 52 [vN k] (vS (nameL k)) := by
  refine DCall.intro c0Ok Tryd.func52 rfl rfl (by kernel_rfl) rfl <| cSeq <| cReg rfl <| oR 1 rfl <| rE 1 <| cSeq <| cReg rfl <| rOk (x := .sl 1 ([[.v (.string (⟨#[109, 111, 100, 101]⟩ : ByteArray))], [.v (.string (⟨#[119, 105, 100, 116, 104]⟩ : ByteArray))], [.v (.string (⟨#[114, 111, 98]⟩ : ByteArray))], [.v (.string (⟨#[113, 117, 101, 117, 101]⟩ : ByteArray))], [.v (.string (⟨#[115, 116, 111, 114, 101, 115]⟩ : ByteArray))], [.v (.string (⟨#[115, 108, 111, 116, 115]⟩ : ByteArray))], [.v (.string (⟨#[115, 101, 116, 115]⟩ : ByteArray))], [.v (.string (⟨#[119, 97, 121, 115]⟩ : ByteArray))], [.v (.string (⟨#[103, 117, 101, 115, 115]⟩ : ByteArray))], [.v (.string (⟨#[108, 97, 116]⟩ : ByteArray))], [.v (.string (⟨#[116, 97, 112, 101]⟩ : ByteArray))], [.v (.string (⟨#[112, 114, 111, 103]⟩ : ByteArray))], [.v (.string (⟨#[109, 101, 109]⟩ : ByteArray))], [.v (.string (⟨#[99, 121, 99, 108, 101, 115]⟩ : ByteArray))]]) true) rfl rfl rfl <| oR 1 rfl ?_
  have hn_ : ([[.v (.string (⟨#[109, 111, 100, 101]⟩ : ByteArray))], [.v (.string (⟨#[119, 105, 100, 116, 104]⟩ : ByteArray))], [.v (.string (⟨#[114, 111, 98]⟩ : ByteArray))], [.v (.string (⟨#[113, 117, 101, 117, 101]⟩ : ByteArray))], [.v (.string (⟨#[115, 116, 111, 114, 101, 115]⟩ : ByteArray))], [.v (.string (⟨#[115, 108, 111, 116, 115]⟩ : ByteArray))], [.v (.string (⟨#[115, 101, 116, 115]⟩ : ByteArray))], [.v (.string (⟨#[119, 97, 121, 115]⟩ : ByteArray))], [.v (.string (⟨#[103, 117, 101, 115, 115]⟩ : ByteArray))], [.v (.string (⟨#[108, 97, 116]⟩ : ByteArray))], [.v (.string (⟨#[116, 97, 112, 101]⟩ : ByteArray))], [.v (.string (⟨#[112, 114, 111, 103]⟩ : ByteArray))], [.v (.string (⟨#[109, 101, 109]⟩ : ByteArray))], [.v (.string (⟨#[99, 121, 99, 108, 101, 115]⟩ : ByteArray))]])[k]? = some (rowS (nameL k)) := by rcases k with _ | _ | _ | _ | _ | _ | _ | _ | _ | _ | _ | _ | _ | _ | k <;> first | rfl | omega
  refine rIdx (rowS (nameL k)) (x := .dp 1 0 (rowS (nameL k))) rfl rfl rfl (⟨Int.natCast_nonneg _, hn_⟩) rfl <| oR 2 rfl <| rE 6 <| cRet ?_
  exact finTA rfl trivial rfl rfl
theorem split_no {c : UInt8} : ∀ {s : List UInt8}, (cutL c s).2.2 = false → splitL c s = [(cutL c s).1]
  | [], _ => rfl
  | x :: s, h => by
    unfold cutL at h ⊢
    unfold splitL
    split at h
    · cases h
    · rename_i q; rw [if_neg q, if_neg q, split_no h]; rfl
theorem split_yes {c : UInt8} {s : List UInt8} (h : (cutL c s).2.2 = true) : splitL c s = (cutL c s).1 :: splitL c (cutL c s).2.1 := by
  induction s with
  | nil => cases h
  | cons x s ih =>
    unfold cutL at h ⊢
    rw [splitL]
    split at h
    · rename_i q; rw [if_pos q, if_pos q]
    · rename_i q; rw [if_neg q, if_neg q, ih h]; rfl
theorem cut_len {c : UInt8} {s : List UInt8} (h : (cutL c s).2.2 = true) : (cutL c s).1.length + (cutL c s).2.1.length + 1 = s.length := by
  have e := congrArg List.length (cut_of h)
  rw [List.length_append, List.length_cons] at e; omega
def SpG (s : List UInt8) (z : List (List UInt8) × List UInt8 × Bool) : Prop := splitL 32 s = z.1 ++ splitL 32 z.2.1 ∧ z.1.length + z.2.1.length ≤ s.length ∧ (z.2.2 = false → z.1 = [])
theorem sp_next {s : List UInt8} {ws : List (List UInt8)} {r : List UInt8} {b : Bool} (g : SpG s (ws, r, b)) (h : (cutL 32 r).2.2 = true) : SpG s (ws ++ [(cutL 32 r).1], (cutL 32 r).2.1, true) := by
  have g1 : splitL 32 s = ws ++ splitL 32 r := g.1
  have g2 : ws.length + r.length ≤ s.length := g.2.1
  have e := cut_len h
  refine ⟨?_, ?_, fun h => by cases h⟩
  · show splitL 32 s = (ws ++ [(cutL 32 r).1]) ++ splitL 32 (cutL 32 r).2.1
    rw [g1, split_yes h, List.append_assoc]; rfl
  · show (ws ++ [(cutL 32 r).1]).length + _ ≤ _
    rw [List.length_append]; show ws.length + 1 + _ ≤ _
    show ws.length + 1 + (cutL 32 r).2.1.length ≤ s.length
    omega
theorem sp_end {s : List UInt8} {ws : List (List UInt8)} {r : List UInt8} {b : Bool} (g : SpG s (ws, r, b)) (h : (cutL 32 r).2.2 = false) : ws ++ [(cutL 32 r).1] = splitL 32 s := by
  have g1 : splitL 32 s = ws ++ splitL 32 r := g.1
  rw [g1, split_no h]

theorem eSplit (s : List UInt8) (hs : s.length ≤ 900000) : DCall C0 29 [vS s] (.sl 1 ((splitL 32 s).map rowS) false) := by
  refine DCall.intro c0Ok Tryd.func29 rfl rfl (by kernel_rfl) rfl <| cSeq <| cReg rfl <| oR 1 rfl <| rE 1 <| cSeq <| cReg rfl <| rOk (x := .sl 1 ([]) true) rfl rfl rfl <| oR 1 rfl <| rE 3 <| cBlock <| cLoop (κ := List (List UInt8) × List UInt8 × Bool) (fun z_ => match z_ with | (ws, r, false) => ⟨slotsF [(0, vS r), (3, .sl 1 ([]) true)], heapF [], 4⟩ | (ws, r, true) => ⟨slotsF [(0, vS r), (3, .osl 3 0 ws.length false)], heapF [(3, .arr (ws.map rowS) 1)], 4⟩) (fun z_ => SpG s z_) (fun z_ => z_.2.1.length) ([], s, false) (fun s => s) (Weak.of_lists (fun s => s) wT trivial rfl) (⟨rfl, by show 0 + s.length ≤ s.length; omega, fun _ => rfl⟩) ?_
  intro z_ hk
  obtain ⟨ws, r, b_⟩ := z_; cases b_
  · have hwr : ws.length + r.length ≤ s.length := hk.2.1
    have hwn : ws = [] := hk.2.2 rfl
    subst hwn
    refine cBlock <| cSeq <| cReg rfl <| oR 1 rfl <| rCl rfl (.inl rfl) (eCut r 32 (by omega)) <| oR 7 rfl <| rE 13 <| cSeq <| cReg rfl <| oR 2 rfl <| rOk (x := .sl 1 ([[vS ((cutL 32 r).1)]]) true) rfl rfl rfl <| rFx (x := .osl 16 0 1 false) (h' := upd _ 16 (some (.arr (([(cutL 32 r).1]).map rowS) 1))) rfl rfl (app_sl rowS ([] : List (List UInt8)) ([(cutL 32 r).1]) omT) (⟨by exact omT, by exact omT, trivial, trivial⟩) <| oR 1 rfl <| rE 18 <| cSeq <| cSeq ?_
    refine cReg rfl <| oR 2 rfl <| rE 20 ?_
    refine cCond rfl (fun h1 => ?_) (fun h1 => ?_)
    · refine cSeq <| cReg rfl <| oR 2 rfl <| rE 22 <| cRet ?_
      have hE := sp_end hk (by simpa using h1)
      refine finTA rfl (by show 0 + 1 ≤ (([(cutL 32 r).1]).map rowS).length; exact omT) rfl ?_
      show AV.sl 1 (List.take 1 (List.drop 0 (([(cutL 32 r).1]).map rowS))) false = _
      rw [← hE]; first | rfl | (rw [List.drop_zero, List.take_of_length_le (by simp)])
    · refine cSkip <| cReg rfl <| oR 2 rfl <| rE 22 ?_
      refine ⟨([(cutL 32 r).1], (cutL 32 r).2.1, true), fun i => match i with | 3 => 16 | i => i, Weak.of_lists (fun i => match i with | 3 => 16 | i => i) ⟨⟨rfl, rfl⟩, ⟨(show AV.osl 16 0 (1) false = AV.osl 16 0 ([(cutL 32 r).1]).length false from rfl), rfl⟩, trivial⟩ ⟨⟨rfl, (congrArg (fun z : List (List UInt8) => some (Blk.arr (z.map rowS) 1)) (show [(cutL 32 r).1] = [(cutL 32 r).1] from by simp)), rfl⟩, trivial⟩ rfl, (sp_next hk (by simpa using h1)), by have := cut_len (c := 32) (s := r) (by simpa using h1); show (cutL 32 r).2.1.length < r.length; omega⟩
  · have hwr : ws.length + r.length ≤ s.length := hk.2.1
    have hwl : ws.length ≤ 1000000 := by omega
    refine cBlock <| cSeq <| cReg rfl <| oR 1 rfl <| rCl rfl (.inl rfl) (eCut r 32 (by omega)) <| oR 7 rfl <| rE 13 <| cSeq <| cReg rfl <| oR 2 rfl <| rOk (x := .sl 1 ([[vS ((cutL 32 r).1)]]) true) rfl rfl rfl <| rFx (x := .osl 16 0 (ws.length + 1) false) (h' := upd (upd _ 3 none) 16 (some (.arr ((ws ++ ([(cutL 32 r).1])).map rowS) 1))) rfl rfl (app_own rowS ws ([(cutL 32 r).1]) omT omT) (⟨by exact omT, by exact omT, trivial⟩) <| oR 1 rfl <| rE 18 <| cSeq <| cSeq ?_
    refine cReg rfl <| oR 2 rfl <| rE 20 ?_
    refine cCond rfl (fun h2 => ?_) (fun h2 => ?_)
    · refine cSeq <| cReg rfl <| oR 2 rfl <| rE 22 <| cRet ?_
      have hE := sp_end hk (by simpa using h2)
      refine finTA rfl (by show 0 + (ws.length + 1) ≤ ((ws ++ ([(cutL 32 r).1])).map rowS).length; exact omT) rfl ?_
      show AV.sl 1 (List.take (ws.length + 1) (List.drop 0 ((ws ++ ([(cutL 32 r).1])).map rowS))) false = _
      rw [← hE]; first | rfl | (rw [List.drop_zero, List.take_of_length_le (by simp)])
    · refine cSkip <| cReg rfl <| oR 2 rfl <| rE 22 ?_
      refine ⟨((ws ++ [(cutL 32 r).1]), (cutL 32 r).2.1, true), fun i => match i with | 3 => 16 | i => i, Weak.of_lists (fun i => match i with | 3 => 16 | i => i) ⟨⟨rfl, rfl⟩, ⟨(show AV.osl 16 0 (ws.length + 1) false = AV.osl 16 0 ((ws ++ [(cutL 32 r).1])).length false from by congr 1; simp), rfl⟩, trivial⟩ ⟨⟨rfl, (congrArg (fun z : List (List UInt8) => some (Blk.arr (z.map rowS) 1)) (show ws ++ ([(cutL 32 r).1]) = (ws ++ [(cutL 32 r).1]) from by simp)), rfl⟩, trivial⟩ rfl, (sp_next hk (by simpa using h2)), by have := cut_len (c := 32) (s := r) (by simpa using h2); show (cutL 32 r).2.1.length < r.length; omega⟩
theorem valV_le {b : Nat} (hb : b ≤ 16) (s : List UInt8) : valV b s ≤ 68719476736 := by
  by_cases h : s.length ≤ 9
  · rw [← valK_end (k := s.length) (.inl (Nat.le_refl _)) h]; exact valK_le hb s h
  · rw [← valK_end (k := 9) (.inr (Nat.le_refl _)) (Nat.le_refl _)]; exact valK_le hb s (Nat.le_refl _)
def wordV (w : List UInt8) : Nat := valV 16 w % 4294967296
theorem words_on {t : List (List UInt8)} {k : Nat} {x : List UInt8} (h : t[k]? = some x) : (t.take k).map wordV ++ [valV 16 x % 4294967296] = (t.take (k + 1)).map wordV := by
  rw [List.take_add_one, h, List.map_append]; rfl
theorem words_le (l : List (List UInt8)) : ∀ x ∈ l.map wordV, x ≤ 4294967295 := fun x hx => by
  obtain ⟨w, _, rfl⟩ := List.mem_map.1 hx; unfold wordV; omega
theorem words_len (t : List (List UInt8)) (k : Nat) : ((t.take k).map wordV).length ≤ t.length := by rw [List.length_map, List.length_take]; omega

theorem eWordsE (t : List (List UInt8)) (ck : Bool) (ht : t.length ≤ 900000) (hT : t.length = 0) : DCall C0 50 [.sl 1 (t.map rowS) ck] (.sl 1 [] true) := by
  refine DCall.intro c0Ok Tryd.func50 rfl rfl (by kernel_rfl) rfl <| cSeq <| cReg rfl <| oR 1 rfl <| rE 1 <| cSeq <| cReg rfl <| rOk (x := .sl 1 ([]) true) rfl rfl rfl <| oR 1 rfl <| rE 3 <| cSeq <| cSeq <| cReg rfl <| oR 1 rfl <| rOk (x := vN t.length) rfl rfl (lenMap rowS t) <| oR 1 rfl ?_
  refine rE 6 <| cBlock <| cLoop (κ := Nat) (fun k => ⟨slotsF [(2, .sl 0 ([]) true), (7, .sl 1 (t.map rowS) ck), (8, vN t.length), (3, .sl 1 ([]) true), (9, vN k)], heapF [], 6⟩) (fun k => k ≤ t.length) (fun k => t.length - k) 0 (fun s => s) (Weak.of_lists (fun s => s) wT trivial rfl) (Nat.zero_le _) ?_
  intro k hk
  have hkn : k ≤ t.length := hk
  have hkB : k ≤ 900000 := by omega
  refine cSeq <| cReg rfl <| rOk (x := vB (decide (k < t.length))) rfl rfl (okB (ltN _ _)) <| rE 7 <| cSeq ?_
  refine cCond rfl (fun h1 => by exact absurd (of_decide_eq_true h1) (by omega)) (fun _ => ?_)
  refine cExit <| cSeq <| cReg rfl <| oR 2 rfl <| rE 9 <| cRet ?_
  exact finTA rfl trivial rfl rfl
theorem eWordsO (t : List (List UInt8)) (ck : Bool) (ht : t.length ≤ 900000) (hw : ∀ x ∈ t, x.length ≤ 900000) (hT : ¬ t.length = 0) : DCall C0 50 [.sl 1 (t.map rowS) ck] (.sl 1 ((t.map wordV).map rowU) false) := by
  refine DCall.intro c0Ok Tryd.func50 rfl rfl (by kernel_rfl) rfl <| cSeq <| cReg rfl <| oR 1 rfl <| rE 1 <| cSeq <| cReg rfl <| rOk (x := .sl 1 ([]) true) rfl rfl rfl <| oR 1 rfl <| rE 3 <| cSeq <| cSeq <| cReg rfl <| oR 1 rfl <| rOk (x := vN t.length) rfl rfl (lenMap rowS t) <| oR 1 rfl ?_
  refine rE 6 <| cBlock <| cLoop (κ := Nat × Bool) (fun z_ => match z_ with | (k, false) => ⟨slotsF [(2, .sl 0 ([]) true), (7, .sl 1 (t.map rowS) ck), (8, vN t.length), (9, vN k), (3, .sl 1 ([]) true)], heapF [], 7⟩ | (k, true) => ⟨slotsF [(2, .sl 0 ([]) true), (7, .sl 1 (t.map rowS) ck), (8, vN t.length), (9, vN k), (3, .osl 6 0 (((t.take k).map wordV).length) false)], heapF [(6, .arr (((t.take k).map wordV).map rowU) 1)], 7⟩) (fun z_ => match z_ with | (k, false) => (k ≤ t.length ∧ (t.take k).map wordV = []) | (k, true) => (k ≤ t.length)) (fun z_ => t.length - z_.1) (0, false) (fun s => s) (Weak.of_lists (fun s => s) wT trivial rfl) (⟨Nat.zero_le _, (show (t.take 0).map wordV = [] from rfl)⟩) ?_
  intro z_ hk
  obtain ⟨k, b_⟩ := z_; cases b_
  · have hk_ := hk
    have hnn : k ≤ t.length := hk_.1
    have hkB : k ≤ 1000000 := by omega
    have hNk : (t.take k).map wordV = [] := hk_.2
    refine cSeq <| cReg rfl <| rOk (x := vB (decide (k < t.length))) rfl rfl (okB (ltN _ _)) <| rE 8 <| cSeq ?_
    refine cCond rfl (fun h1 => ?_) (fun h1 => ?_)
    · have h1p := of_decide_eq_true h1
      refine cSkip <| cSeq <| cBlock <| cSeq <| cReg rfl ?_
      obtain ⟨x, hx⟩ : ∃ y_, t[k]? = some y_ := ⟨_, List.getElem?_eq_getElem omT⟩
      have hxo := hw x (List.mem_of_getElem? hx)
      refine rIdx (rowS x) (x := .dp 1 0 (rowS x)) rfl rfl rfl (⟨Int.natCast_nonneg _, getM hx⟩) rfl <| oR 2 rfl <| rE 11 <| cReg rfl <| oR 2 rfl <| rCl rfl (.inl rfl) (eVal16 x (by omega)) ?_
      have b1 : (valV 16 x) % 4294967296 ≤ 4294967295 := Nat.le_of_lt_succ (Nat.mod_lt _ (by decide))
      refine rOk (x := vU ((valV 16 x) % 4294967296)) rfl rfl rfl <| rOk (x := .sl 1 ([[vU ((valV 16 x) % 4294967296)]]) true) rfl rfl rfl <| rFx (x := .osl 16 0 1 false) (h' := upd _ 16 (some (.arr (([(valV 16 x) % 4294967296]).map rowU) 1))) rfl rfl (app_sl rowU ([] : List Nat) ([(valV 16 x) % 4294967296]) omT) (⟨by exact omT, by exact omT, trivial, trivial⟩) <| oR 1 rfl <| rE 18 <| cReg rfl ?_
      have b2 : k + 1 ≤ 1000001 := Nat.add_le_add hkB (Nat.le_refl 1)
      refine rOk (x := vN (k + 1)) rfl rfl (okI (wrapI64 b2 rfl)) <| oR 1 rfl <| rE 20 ?_
      refine ⟨(k + 1, true), fun i => match i with | 6 => 16 | i => i, Weak.of_lists (fun i => match i with | 6 => 16 | i => i) ⟨⟨rfl, rfl⟩, ⟨rfl, rfl⟩, ⟨rfl, rfl⟩, ⟨rfl, rfl⟩, ⟨(show AV.osl 16 0 (1) false = AV.osl 16 0 ((t.take (k + 1)).map wordV).length false from by rw [← (show [(valV 16 x) % 4294967296] = (t.take (k + 1)).map wordV from (by rw [← (words_on hx), hNk]; rfl))]; first | done | rfl | (congr 1 <;> (first | exact omT | simp))), rfl⟩, trivial⟩ ⟨⟨rfl, (congrArg (fun z : List Nat => some (Blk.arr (z.map rowU) 1)) (show [(valV 16 x) % 4294967296] = (t.take (k + 1)).map wordV from (by rw [← (words_on hx), hNk]; rfl))), rfl⟩, trivial⟩ rfl, by omega, by show t.length - (k + 1) < t.length - k; omega⟩
    · have h1p := of_decide_eq_false h1
      refine cExit <| cSeq <| cReg rfl <| oR 2 rfl <| rE 10 <| cRet ?_
      exact absurd (by have q := congrArg List.length hNk; rw [List.length_map, List.length_take] at q; have q2 : min k t.length = 0 := q; omega : t.length = 0) hT
  · have hk_ := hk
    have hnn : k ≤ t.length := hk_
    have hkB : k ≤ 1000000 := by omega
    have habk : ((t.take k).map wordV).length ≤ 900000 := (by have := words_len t k; omega)
    refine cSeq <| cReg rfl <| rOk (x := vB (decide (k < t.length))) rfl rfl (okB (ltN _ _)) <| rE 8 <| cSeq ?_
    refine cCond rfl (fun h2 => ?_) (fun h2 => ?_)
    · have h2p := of_decide_eq_true h2
      refine cSkip <| cSeq <| cBlock <| cSeq <| cReg rfl ?_
      obtain ⟨x, hx⟩ : ∃ y_, t[k]? = some y_ := ⟨_, List.getElem?_eq_getElem omT⟩
      have hxo := hw x (List.mem_of_getElem? hx)
      refine rIdx (rowS x) (x := .dp 1 0 (rowS x)) rfl rfl rfl (⟨Int.natCast_nonneg _, getM hx⟩) rfl <| oR 2 rfl <| rE 11 <| cReg rfl <| oR 2 rfl <| rCl rfl (.inl rfl) (eVal16 x (by omega)) ?_
      have b3 : (valV 16 x) % 4294967296 ≤ 4294967295 := Nat.le_of_lt_succ (Nat.mod_lt _ (by decide))
      refine rOk (x := vU ((valV 16 x) % 4294967296)) rfl rfl rfl <| rOk (x := .sl 1 ([[vU ((valV 16 x) % 4294967296)]]) true) rfl rfl rfl <| rFx (x := .osl 16 0 (((t.take k).map wordV).length + 1) false) (h' := upd (upd _ 6 none) 16 (some (.arr ((((t.take k).map wordV) ++ ([(valV 16 x) % 4294967296])).map rowU) 1))) rfl rfl (app_own rowU ((t.take k).map wordV) ([(valV 16 x) % 4294967296]) omT omT) (⟨by exact omT, by exact omT, trivial⟩) <| oR 1 rfl <| rE 18 <| cReg rfl ?_
      have b4 : k + 1 ≤ 1000001 := Nat.add_le_add hkB (Nat.le_refl 1)
      refine rOk (x := vN (k + 1)) rfl rfl (okI (wrapI64 b4 rfl)) <| oR 1 rfl <| rE 20 ?_
      refine ⟨(k + 1, true), fun i => match i with | 6 => 16 | i => i, Weak.of_lists (fun i => match i with | 6 => 16 | i => i) ⟨⟨rfl, rfl⟩, ⟨rfl, rfl⟩, ⟨rfl, rfl⟩, ⟨rfl, rfl⟩, ⟨(show AV.osl 16 0 (((t.take k).map wordV).length + 1) false = AV.osl 16 0 ((t.take (k + 1)).map wordV).length false from by rw [← (show ((t.take k).map wordV) ++ ([(valV 16 x) % 4294967296]) = (t.take (k + 1)).map wordV from words_on hx)]; first | done | rfl | (congr 1 <;> (first | exact omT | simp))), rfl⟩, trivial⟩ ⟨⟨rfl, (congrArg (fun z : List Nat => some (Blk.arr (z.map rowU) 1)) (show ((t.take k).map wordV) ++ ([(valV 16 x) % 4294967296]) = (t.take (k + 1)).map wordV from words_on hx)), rfl⟩, trivial⟩ rfl, by omega, by show t.length - (k + 1) < t.length - k; omega⟩
    · have h2p := of_decide_eq_false h2
      refine cExit <| cSeq <| cReg rfl <| oR 2 rfl <| rE 10 <| cRet ?_
      have hT2 : t.take k = t := List.take_of_length_le (by omega)
      refine finTA rfl (by show 0 + (((t.take k).map wordV).length) ≤ (((t.take k).map wordV).map rowU).length; exact omT) rfl ?_
      show AV.sl 1 (List.take (((t.take k).map wordV).length) (List.drop 0 (((t.take k).map wordV).map rowU))) false = _
      rw [List.drop_zero, List.take_of_length_le (by simp), hT2]
theorem eWords (t : List (List UInt8)) (ck : Bool) (ht : t.length ≤ 900000) (hw : ∀ x ∈ t, x.length ≤ 900000) : DCall C0 50 [.sl 1 (t.map rowS) ck] (.sl 1 ((t.map wordV).map rowU) t.isEmpty) := by
  cases t with
  | nil => exact eWordsE [] ck ht rfl
  | cons x t => exact eWordsO (x :: t) ck ht hw (by simp)
def hexT (m w k : Nat) : List UInt8 := (List.range k).map fun i => hexD ((w / 2 ^ (4 * (m - 1 - i))) % 16)
theorem hexT_next (m w k : Nat) : hexT m w k ++ [hexD ((w / 2 ^ (4 * (m - 1 - k))) % 16)] = hexT m w (k + 1) := by unfold hexT; rw [List.range_succ, List.map_append]; rfl
theorem hexT_len (m w k : Nat) : (hexT m w k).length = k := by unfold hexT; rw [List.length_map, List.length_range]
theorem digH_eq : ∀ m w, digH w m = hexT m w m
  | 0, _ => rfl
  | m + 1, w => by
    rw [← hexT_next]
    show digH (w / 16) m ++ [hexD (w % 16)] = _
    rw [digH_eq m (w / 16)]
    congr 1
    · unfold hexT
      refine List.map_congr_left fun i hi => ?_
      have := List.mem_range.1 hi
      rw [show 4 * (m + 1 - 1 - i) = 4 + 4 * (m - 1 - i) by omega, Nat.pow_add, Nat.div_div_eq_div_mul]
    · rw [show 4 * (m + 1 - 1 - m) = 0 by omega, Nat.pow_zero, Nat.div_one]
theorem hx_at {d : Nat} (h : d < 16) : (((sB [48, 49, 50, 51, 52, 53, 54, 55, 56, 57, 97, 98, 99, 100, 101, 102]).data.toList.getD d 0).toNat : Int) = ((hexD d).toNat : Int) := by
  have : ∀ i : _root_.Fin 16, (([48, 49, 50, 51, 52, 53, 54, 55, 56, 57, 97, 98, 99, 100, 101, 102] : List UInt8).getD i.val 0).toNat = (hexD i.val).toNat := by decide +kernel
  exact congrArg Int.ofNat (this ⟨d, h⟩)
theorem hx_c {m k : Nat} : decide (((m : Int) - (k : Int)) ≥ 0) = decide (k < m + 1) := by
  rw [Bool.eq_iff_iff, decide_eq_true_eq, decide_eq_true_eq]; omega
theorem hx_4 {m k : Nat} (h : k ≤ m) (hm : m ≤ 100) : IntKind.wrap .i64 (4 * ((m : Int) - (k : Int))) = ((4 * (m - k) : Nat) : Int) := by rw [wrap_i64 (by omega) (by omega)]; omega
theorem hx_1 {m k : Nat} (h : k ≤ m) (hm : m ≤ 100) : IntKind.wrap .i64 (((m : Int) - (k : Int)) - 1) = (m : Int) - ((k + 1 : Nat) : Int) := by rw [wrap_i64 (by omega) (by omega)]; omega
theorem rows8 {l : List UInt8} {n : Nat} (h : l.length = n) : bytesOfRows (List.take n (List.drop 0 (l.map row8))) = some l := by
  rw [List.drop_zero, List.take_of_length_le (by rw [List.length_map]; omega)]; exact bytesOfRows_map l

theorem eHex8 (w : Nat) (hw : w ≤ 4294967295) : DCall C0 55 [vU w, vI 8] (vS (digH w 8)) := by
  refine DCall.intro c0Ok Tryd.func55 rfl rfl (by kernel_rfl) rfl <| cSeq <| cReg rfl <| oR 1 rfl <| rE 1 <| cSeq <| cReg rfl <| rOk (x := .sl 1 ([]) true) rfl rfl rfl <| oR 1 rfl <| rE 3 <| cSeq <| cSeq <| cReg rfl <| oR 1 rfl <| rOk (x := vI (((7 : Nat) : Int) - ((0 : Nat) : Int))) rfl rfl rfl <| oR 1 rfl ?_
  refine rE 6 <| cBlock <| cLoop (κ := Nat × Bool) (fun z_ => match z_ with | (k, false) => ⟨slotsF [(0, vU w), (4, .v (.string (⟨#[]⟩ : ByteArray))), (6, vI (((7 : Nat) : Int) - ((k : Nat) : Int))), (5, .sl 1 ([]) true)], heapF [], 7⟩ | (k, true) => ⟨slotsF [(0, vU w), (4, .v (.string (⟨#[]⟩ : ByteArray))), (6, vI (((7 : Nat) : Int) - ((k : Nat) : Int))), (5, .osl 6 0 ((hexT 8 w k).length) false)], heapF [(6, .arr ((hexT 8 w k).map row8) 1)], 7⟩) (fun z_ => match z_ with | (k, false) => (k ≤ 8 ∧ hexT 8 w k = []) | (k, true) => (k ≤ 8)) (fun z_ => 8 - z_.1) (0, false) (fun s => s) (Weak.of_lists (fun s => s) wT trivial rfl) (⟨Nat.zero_le _, (show hexT 8 w 0 = [] from rfl)⟩) ?_
  intro z_ hk
  obtain ⟨k, b_⟩ := z_; cases b_
  · have hk_ := hk
    have hnn : k ≤ 8 := hk_.1
    have hkB : k ≤ 1000000 := by omega
    have hNk : hexT 8 w k = [] := hk_.2
    refine cSeq <| cSeq <| cReg rfl <| oR 1 rfl <| rOk (x := vB (decide (k < 7 + 1))) rfl rfl (okBo hx_c) <| rE 9 ?_
    refine cCond rfl (fun h1 => ?_) (fun h1 => ?_)
    · have h1p := of_decide_eq_true h1
      refine cSkip <| cSeq <| cBlock <| cReg rfl <| oR 3 rfl <| rOk (x := vN (4 * (7 - k))) rfl rfl (okI (hx_4 (by omega) (by omega))) <| rOk (x := .v (.int .u64 ((4 * (7 - k) : Nat) : Int))) rfl rfl (okI (modI (show 4 * (7 - k) ≤ 28 by omega) rfl)) ?_
      have b1 : w / 2 ^ (4 * (7 - k)) ≤ 4294967295 := Nat.le_trans (Nat.div_le_self _ _) hw
      refine rNeed (x := vU (w / 2 ^ (4 * (7 - k)))) rfl rfl (needI (shrI32 (4 * (7 - k)) hw rfl)) (Int.natCast_nonneg _) ?_
      have b2 : (w / 2 ^ (4 * (7 - k))) % 16 ≤ 15 := Nat.le_of_lt_succ (Nat.mod_lt _ (by decide))
      refine rNeed (x := vU ((w / 2 ^ (4 * (7 - k))) % 16)) rfl rfl rfl (by decide) <| rNeed (x := .v (.int .u8 (((hexD (((w / 2 ^ (4 * (7 - k))) % 16))).toNat : Nat) : Int))) rfl rfl (needI (hx_at (by omega))) (⟨Int.natCast_nonneg _, Int.ofNat_lt.2 (by show (((w / 2 ^ (4 * (7 - k))) % 16)) < 16; omega)⟩) <| rOk (x := .sl 1 ([[.v (.int .u8 (((hexD (((w / 2 ^ (4 * (7 - k))) % 16))).toNat : Nat) : Int))]]) true) rfl rfl rfl <| rFx (x := .osl 18 0 1 false) (h' := upd _ 18 (some (.arr (([(hexD (((w / 2 ^ (4 * (7 - k))) % 16)))]).map row8) 1))) rfl rfl (app_sl row8 ([] : List UInt8) ([(hexD (((w / 2 ^ (4 * (7 - k))) % 16)))]) omT) (⟨by exact omT, by exact omT, trivial, trivial⟩) <| oR 1 rfl <| rE 20 <| cReg rfl <| oR 1 rfl <| rOk (x := vI (((7 : Nat) : Int) - ((k + 1 : Nat) : Int))) rfl rfl (okI (hx_1 (by omega) (by omega))) <| oR 1 rfl <| rE 23 ?_
      refine ⟨(k + 1, true), fun i => match i with | 6 => 18 | i => i, Weak.of_lists (fun i => match i with | 6 => 18 | i => i) ⟨⟨rfl, rfl⟩, ⟨rfl, rfl⟩, ⟨rfl, rfl⟩, ⟨(show AV.osl 18 0 (1) false = AV.osl 18 0 (hexT 8 w (k + 1)).length false from by rw [← (show [(hexD (((w / 2 ^ (4 * (7 - k))) % 16)))] = hexT 8 w (k + 1) from (by rw [← (hexT_next 8 w k), hNk]; rfl))]; first | done | rfl | (congr 1 <;> (first | exact omT | simp))), rfl⟩, trivial⟩ ⟨⟨rfl, (congrArg (fun z : List UInt8 => some (Blk.arr (z.map row8) 1)) (show [(hexD (((w / 2 ^ (4 * (7 - k))) % 16)))] = hexT 8 w (k + 1) from (by rw [← (hexT_next 8 w k), hNk]; rfl))), rfl⟩, trivial⟩ rfl, by omega, by show 8 - (k + 1) < 8 - k; omega⟩
    · have h1p := of_decide_eq_false h1
      refine cExit <| cSeq <| cReg rfl <| oR 1 rfl <| rStr ([]) (d := 25) rfl rfl rfl (trivial) (rfl) <| oR 1 rfl <| rE 12 <| cRet ?_
      exact absurd (by have q := congrArg List.length hNk; rw [hexT_len] at q; exact q : k = 0) (by omega)
  · have hk_ := hk
    have hnn : k ≤ 8 := hk_
    have hkB : k ≤ 1000000 := by omega
    have habk : (hexT 8 w k).length ≤ 900000 := (by rw [hexT_len]; omega)
    refine cSeq <| cSeq <| cReg rfl <| oR 1 rfl <| rOk (x := vB (decide (k < 7 + 1))) rfl rfl (okBo hx_c) <| rE 9 ?_
    refine cCond rfl (fun h2 => ?_) (fun h2 => ?_)
    · have h2p := of_decide_eq_true h2
      refine cSkip <| cSeq <| cBlock <| cReg rfl <| oR 3 rfl <| rOk (x := vN (4 * (7 - k))) rfl rfl (okI (hx_4 (by omega) (by omega))) <| rOk (x := .v (.int .u64 ((4 * (7 - k) : Nat) : Int))) rfl rfl (okI (modI (show 4 * (7 - k) ≤ 28 by omega) rfl)) ?_
      have b3 : w / 2 ^ (4 * (7 - k)) ≤ 4294967295 := Nat.le_trans (Nat.div_le_self _ _) hw
      refine rNeed (x := vU (w / 2 ^ (4 * (7 - k)))) rfl rfl (needI (shrI32 (4 * (7 - k)) hw rfl)) (Int.natCast_nonneg _) ?_
      have b4 : (w / 2 ^ (4 * (7 - k))) % 16 ≤ 15 := Nat.le_of_lt_succ (Nat.mod_lt _ (by decide))
      refine rNeed (x := vU ((w / 2 ^ (4 * (7 - k))) % 16)) rfl rfl rfl (by decide) <| rNeed (x := .v (.int .u8 (((hexD (((w / 2 ^ (4 * (7 - k))) % 16))).toNat : Nat) : Int))) rfl rfl (needI (hx_at (by omega))) (⟨Int.natCast_nonneg _, Int.ofNat_lt.2 (by show (((w / 2 ^ (4 * (7 - k))) % 16)) < 16; omega)⟩) <| rOk (x := .sl 1 ([[.v (.int .u8 (((hexD (((w / 2 ^ (4 * (7 - k))) % 16))).toNat : Nat) : Int))]]) true) rfl rfl rfl <| rFx (x := .osl 18 0 ((hexT 8 w k).length + 1) false) (h' := upd (upd _ 6 none) 18 (some (.arr (((hexT 8 w k) ++ ([(hexD (((w / 2 ^ (4 * (7 - k))) % 16)))])).map row8) 1))) rfl rfl (app_own row8 (hexT 8 w k) ([(hexD (((w / 2 ^ (4 * (7 - k))) % 16)))]) omT omT) (⟨by exact omT, by exact omT, trivial⟩) <| oR 1 rfl <| rE 20 <| cReg rfl <| oR 1 rfl <| rOk (x := vI (((7 : Nat) : Int) - ((k + 1 : Nat) : Int))) rfl rfl (okI (hx_1 (by omega) (by omega))) <| oR 1 rfl <| rE 23 ?_
      refine ⟨(k + 1, true), fun i => match i with | 6 => 18 | i => i, Weak.of_lists (fun i => match i with | 6 => 18 | i => i) ⟨⟨rfl, rfl⟩, ⟨rfl, rfl⟩, ⟨rfl, rfl⟩, ⟨(show AV.osl 18 0 ((hexT 8 w k).length + 1) false = AV.osl 18 0 (hexT 8 w (k + 1)).length false from by rw [← (show (hexT 8 w k) ++ ([(hexD (((w / 2 ^ (4 * (7 - k))) % 16)))]) = hexT 8 w (k + 1) from hexT_next 8 w k)]; first | done | rfl | (congr 1 <;> (first | exact omT | simp))), rfl⟩, trivial⟩ ⟨⟨rfl, (congrArg (fun z : List UInt8 => some (Blk.arr (z.map row8) 1)) (show (hexT 8 w k) ++ ([(hexD (((w / 2 ^ (4 * (7 - k))) % 16)))]) = hexT 8 w (k + 1) from hexT_next 8 w k)), rfl⟩, trivial⟩ rfl, by omega, by show 8 - (k + 1) < 8 - k; omega⟩
    · have h2p := of_decide_eq_false h2
      refine cExit <| cSeq <| cReg rfl <| oR 1 rfl <| rStr (hexT 8 w k) (d := 25) rfl rfl rfl ((by show 0 + (hexT 8 w k).length ≤ ((hexT 8 w k).map row8).length; rw [List.length_map]; omega)) (rows8 rfl) <| oR 1 rfl <| rE 12 <| cRet ?_
      have hk8 : k = 8 := by omega
      subst hk8
      exact finTA rfl trivial rfl (congrArg vS (digH_eq 8 w).symm)
theorem eHex2 (w : Nat) (hw : w ≤ 4294967295) : DCall C0 55 [vU w, vI 2] (vS (digH w 2)) := by
  refine DCall.intro c0Ok Tryd.func55 rfl rfl (by kernel_rfl) rfl <| cSeq <| cReg rfl <| oR 1 rfl <| rE 1 <| cSeq <| cReg rfl <| rOk (x := .sl 1 ([]) true) rfl rfl rfl <| oR 1 rfl <| rE 3 <| cSeq <| cSeq <| cReg rfl <| oR 1 rfl <| rOk (x := vI (((1 : Nat) : Int) - ((0 : Nat) : Int))) rfl rfl rfl <| oR 1 rfl ?_
  refine rE 6 <| cBlock <| cLoop (κ := Nat × Bool) (fun z_ => match z_ with | (k, false) => ⟨slotsF [(0, vU w), (4, .v (.string (⟨#[]⟩ : ByteArray))), (6, vI (((1 : Nat) : Int) - ((k : Nat) : Int))), (5, .sl 1 ([]) true)], heapF [], 7⟩ | (k, true) => ⟨slotsF [(0, vU w), (4, .v (.string (⟨#[]⟩ : ByteArray))), (6, vI (((1 : Nat) : Int) - ((k : Nat) : Int))), (5, .osl 6 0 ((hexT 2 w k).length) false)], heapF [(6, .arr ((hexT 2 w k).map row8) 1)], 7⟩) (fun z_ => match z_ with | (k, false) => (k ≤ 2 ∧ hexT 2 w k = []) | (k, true) => (k ≤ 2)) (fun z_ => 2 - z_.1) (0, false) (fun s => s) (Weak.of_lists (fun s => s) wT trivial rfl) (⟨Nat.zero_le _, (show hexT 2 w 0 = [] from rfl)⟩) ?_
  intro z_ hk
  obtain ⟨k, b_⟩ := z_; cases b_
  · have hk_ := hk
    have hnn : k ≤ 2 := hk_.1
    have hkB : k ≤ 1000000 := by omega
    have hNk : hexT 2 w k = [] := hk_.2
    refine cSeq <| cSeq <| cReg rfl <| oR 1 rfl <| rOk (x := vB (decide (k < 1 + 1))) rfl rfl (okBo hx_c) <| rE 9 ?_
    refine cCond rfl (fun h1 => ?_) (fun h1 => ?_)
    · have h1p := of_decide_eq_true h1
      refine cSkip <| cSeq <| cBlock <| cReg rfl <| oR 3 rfl <| rOk (x := vN (4 * (1 - k))) rfl rfl (okI (hx_4 (by omega) (by omega))) <| rOk (x := .v (.int .u64 ((4 * (1 - k) : Nat) : Int))) rfl rfl (okI (modI (show 4 * (1 - k) ≤ 4 by omega) rfl)) ?_
      have b1 : w / 2 ^ (4 * (1 - k)) ≤ 4294967295 := Nat.le_trans (Nat.div_le_self _ _) hw
      refine rNeed (x := vU (w / 2 ^ (4 * (1 - k)))) rfl rfl (needI (shrI32 (4 * (1 - k)) hw rfl)) (Int.natCast_nonneg _) ?_
      have b2 : (w / 2 ^ (4 * (1 - k))) % 16 ≤ 15 := Nat.le_of_lt_succ (Nat.mod_lt _ (by decide))
      refine rNeed (x := vU ((w / 2 ^ (4 * (1 - k))) % 16)) rfl rfl rfl (by decide) <| rNeed (x := .v (.int .u8 (((hexD (((w / 2 ^ (4 * (1 - k))) % 16))).toNat : Nat) : Int))) rfl rfl (needI (hx_at (by omega))) (⟨Int.natCast_nonneg _, Int.ofNat_lt.2 (by show (((w / 2 ^ (4 * (1 - k))) % 16)) < 16; omega)⟩) <| rOk (x := .sl 1 ([[.v (.int .u8 (((hexD (((w / 2 ^ (4 * (1 - k))) % 16))).toNat : Nat) : Int))]]) true) rfl rfl rfl <| rFx (x := .osl 18 0 1 false) (h' := upd _ 18 (some (.arr (([(hexD (((w / 2 ^ (4 * (1 - k))) % 16)))]).map row8) 1))) rfl rfl (app_sl row8 ([] : List UInt8) ([(hexD (((w / 2 ^ (4 * (1 - k))) % 16)))]) omT) (⟨by exact omT, by exact omT, trivial, trivial⟩) <| oR 1 rfl <| rE 20 <| cReg rfl <| oR 1 rfl <| rOk (x := vI (((1 : Nat) : Int) - ((k + 1 : Nat) : Int))) rfl rfl (okI (hx_1 (by omega) (by omega))) <| oR 1 rfl <| rE 23 ?_
      refine ⟨(k + 1, true), fun i => match i with | 6 => 18 | i => i, Weak.of_lists (fun i => match i with | 6 => 18 | i => i) ⟨⟨rfl, rfl⟩, ⟨rfl, rfl⟩, ⟨rfl, rfl⟩, ⟨(show AV.osl 18 0 (1) false = AV.osl 18 0 (hexT 2 w (k + 1)).length false from by rw [← (show [(hexD (((w / 2 ^ (4 * (1 - k))) % 16)))] = hexT 2 w (k + 1) from (by rw [← (hexT_next 2 w k), hNk]; rfl))]; first | done | rfl | (congr 1 <;> (first | exact omT | simp))), rfl⟩, trivial⟩ ⟨⟨rfl, (congrArg (fun z : List UInt8 => some (Blk.arr (z.map row8) 1)) (show [(hexD (((w / 2 ^ (4 * (1 - k))) % 16)))] = hexT 2 w (k + 1) from (by rw [← (hexT_next 2 w k), hNk]; rfl))), rfl⟩, trivial⟩ rfl, by omega, by show 2 - (k + 1) < 2 - k; omega⟩
    · have h1p := of_decide_eq_false h1
      refine cExit <| cSeq <| cReg rfl <| oR 1 rfl <| rStr ([]) (d := 25) rfl rfl rfl (trivial) (rfl) <| oR 1 rfl <| rE 12 <| cRet ?_
      exact absurd (by have q := congrArg List.length hNk; rw [hexT_len] at q; exact q : k = 0) (by omega)
  · have hk_ := hk
    have hnn : k ≤ 2 := hk_
    have hkB : k ≤ 1000000 := by omega
    have habk : (hexT 2 w k).length ≤ 900000 := (by rw [hexT_len]; omega)
    refine cSeq <| cSeq <| cReg rfl <| oR 1 rfl <| rOk (x := vB (decide (k < 1 + 1))) rfl rfl (okBo hx_c) <| rE 9 ?_
    refine cCond rfl (fun h2 => ?_) (fun h2 => ?_)
    · have h2p := of_decide_eq_true h2
      refine cSkip <| cSeq <| cBlock <| cReg rfl <| oR 3 rfl <| rOk (x := vN (4 * (1 - k))) rfl rfl (okI (hx_4 (by omega) (by omega))) <| rOk (x := .v (.int .u64 ((4 * (1 - k) : Nat) : Int))) rfl rfl (okI (modI (show 4 * (1 - k) ≤ 4 by omega) rfl)) ?_
      have b3 : w / 2 ^ (4 * (1 - k)) ≤ 4294967295 := Nat.le_trans (Nat.div_le_self _ _) hw
      refine rNeed (x := vU (w / 2 ^ (4 * (1 - k)))) rfl rfl (needI (shrI32 (4 * (1 - k)) hw rfl)) (Int.natCast_nonneg _) ?_
      have b4 : (w / 2 ^ (4 * (1 - k))) % 16 ≤ 15 := Nat.le_of_lt_succ (Nat.mod_lt _ (by decide))
      refine rNeed (x := vU ((w / 2 ^ (4 * (1 - k))) % 16)) rfl rfl rfl (by decide) <| rNeed (x := .v (.int .u8 (((hexD (((w / 2 ^ (4 * (1 - k))) % 16))).toNat : Nat) : Int))) rfl rfl (needI (hx_at (by omega))) (⟨Int.natCast_nonneg _, Int.ofNat_lt.2 (by show (((w / 2 ^ (4 * (1 - k))) % 16)) < 16; omega)⟩) <| rOk (x := .sl 1 ([[.v (.int .u8 (((hexD (((w / 2 ^ (4 * (1 - k))) % 16))).toNat : Nat) : Int))]]) true) rfl rfl rfl <| rFx (x := .osl 18 0 ((hexT 2 w k).length + 1) false) (h' := upd (upd _ 6 none) 18 (some (.arr (((hexT 2 w k) ++ ([(hexD (((w / 2 ^ (4 * (1 - k))) % 16)))])).map row8) 1))) rfl rfl (app_own row8 (hexT 2 w k) ([(hexD (((w / 2 ^ (4 * (1 - k))) % 16)))]) omT omT) (⟨by exact omT, by exact omT, trivial⟩) <| oR 1 rfl <| rE 20 <| cReg rfl <| oR 1 rfl <| rOk (x := vI (((1 : Nat) : Int) - ((k + 1 : Nat) : Int))) rfl rfl (okI (hx_1 (by omega) (by omega))) <| oR 1 rfl <| rE 23 ?_
      refine ⟨(k + 1, true), fun i => match i with | 6 => 18 | i => i, Weak.of_lists (fun i => match i with | 6 => 18 | i => i) ⟨⟨rfl, rfl⟩, ⟨rfl, rfl⟩, ⟨rfl, rfl⟩, ⟨(show AV.osl 18 0 ((hexT 2 w k).length + 1) false = AV.osl 18 0 (hexT 2 w (k + 1)).length false from by rw [← (show (hexT 2 w k) ++ ([(hexD (((w / 2 ^ (4 * (1 - k))) % 16)))]) = hexT 2 w (k + 1) from hexT_next 2 w k)]; first | done | rfl | (congr 1 <;> (first | exact omT | simp))), rfl⟩, trivial⟩ ⟨⟨rfl, (congrArg (fun z : List UInt8 => some (Blk.arr (z.map row8) 1)) (show (hexT 2 w k) ++ ([(hexD (((w / 2 ^ (4 * (1 - k))) % 16)))]) = hexT 2 w (k + 1) from hexT_next 2 w k)), rfl⟩, trivial⟩ rfl, by omega, by show 2 - (k + 1) < 2 - k; omega⟩
    · have h2p := of_decide_eq_false h2
      refine cExit <| cSeq <| cReg rfl <| oR 1 rfl <| rStr (hexT 2 w k) (d := 25) rfl rfl rfl ((by show 0 + (hexT 2 w k).length ≤ ((hexT 2 w k).map row8).length; rw [List.length_map]; omega)) (rows8 rfl) <| oR 1 rfl <| rE 12 <| cRet ?_
      have hk8 : k = 2 := by omega
      subst hk8
      exact finTA rfl trivial rfl (congrArg vS (digH_eq 2 w).symm)
/-- The cells of a plan; whether its three slices are clipped. -/
abbrev planL (p : ScPlan) (a b c : Bool) : List AV := [vI p.mode, vI p.width, vI p.rob, vI p.queue, vI p.stores, vI p.slots, vI p.sets, vI p.ways, .sl 1 (p.lat.map rowI) a, vB p.tables, .sl 1 (p.tape.map rowU) b, .sl 1 (p.prog.map rowU) c, vS p.mem, vI p.cycles]
/-- What a plan's data may be for the machine. -/
structure ScPlan.ok (p : ScPlan) : Prop where
  lat : p.lat.length ≤ 900000
  tape : p.tape.length ≤ 900000
  tp : ∀ x ∈ p.tape, x ≤ 4294967295
  prog : p.prog.length ≤ 900000
  pr : ∀ x ∈ p.prog, x ≤ 4294967295
  mem : p.mem.length ≤ 900000
def cntL (p : ScPlan) : Nat → Int
  | 0 => p.mode
  | 1 => p.width
  | 2 => p.rob
  | 3 => p.queue
  | 4 => p.stores
  | 5 => p.slots
  | 6 => p.sets
  | 7 => p.ways
  | 13 => p.cycles
  | _ => 0

theorem eCount (p : ScPlan) (a b c : Bool) (k : Nat) (hk : k < 14) : DCall C0 56 [.agg (planL p a b c), vN k] (vI (cntL p k)) := by
  refine DCall.intro c0Ok Tryd.func56 rfl rfl (by kernel_rfl) rfl <| cSeq <| cReg rfl <| rAl 0 rfl rfl <| oR 1 rfl <| rE 2 <| cSeq <| cReg rfl <| oR 2 rfl <| rAl 4 rfl rfl <| rSt rfl <| rE 6 <| cSeq <| cReg rfl <| oR 18 rfl <| rOk (x := .sl 1 ([[vI p.mode], [vI p.width], [vI p.rob], [vI p.queue], [vI p.stores], [vI p.slots], [vI p.sets], [vI p.ways], [vI 0], [vI 0], [vI 0], [vI 0], [vI 0], [vI p.cycles]]) true) rfl rfl rfl ?_
  refine oR 1 rfl ?_
  have hn_ : ([[vI p.mode], [vI p.width], [vI p.rob], [vI p.queue], [vI p.stores], [vI p.slots], [vI p.sets], [vI p.ways], [vI 0], [vI 0], [vI 0], [vI 0], [vI 0], [vI p.cycles]])[k]? = some (rowI (cntL p k)) := by rcases k with _ | _ | _ | _ | _ | _ | _ | _ | _ | _ | _ | _ | _ | _ | k <;> first | rfl | omega
  refine rIdx (rowI (cntL p k)) (x := .dp 1 0 (rowI (cntL p k))) rfl rfl rfl (⟨Int.natCast_nonneg _, hn_⟩) rfl <| oR 2 rfl <| rE 29 <| cRet ?_
  exact finTA rfl trivial rfl rfl
def tailT {α : Type} (f : α → List UInt8) (l : List α) (j : Nat) : List UInt8 := (l.take j).flatMap fun n => 32 :: f n
theorem tailT_next {α : Type} {f : α → List UInt8} {l : List α} {j : Nat} {x : α} (h : l[j]? = some x) (A : List UInt8) : A ++ tailT f l j ++ [32] ++ f x = A ++ tailT f l (j + 1) := by
  unfold tailT; rw [List.take_add_one, h]; simp
theorem tailT_len {α : Type} {f : α → List UInt8} {l : List α} (hf : ∀ x ∈ l, (f x).length ≤ 9) : ∀ j, (tailT f l j).length ≤ 10 * j
  | 0 => by show 0 ≤ _; omega
  | j + 1 => by
    have ih := tailT_len hf j
    cases h : l[j]? with
    | none => have e : tailT f l (j + 1) = tailT f l j := by unfold tailT; rw [List.take_add_one, h]; simp
              rw [e]; omega
    | some x =>
      have e := congrArg List.length (tailT_next (f := f) h [])
      have := hf x (List.mem_of_getElem? h)
      simp only [List.nil_append, List.length_append, List.length_cons, List.length_nil] at e
      omega
theorem tailT_end {α : Type} {f : α → List UInt8} {l : List α} {j : Nat} (h : l.length ≤ j) : tailT f l j = tailT f l l.length := by unfold tailT; rw [List.take_of_length_le h, List.take_length]
theorem hexL_app (a b : List UInt8) : hexL (a ++ b) = hexL a ++ hexL b := by unfold hexL; rw [List.flatMap_append]
theorem hexL_len (m : List UInt8) : ∀ j, (hexL (m.take j)).length ≤ 2 * j
  | 0 => by show 0 ≤ _; omega
  | j + 1 => by
    have ih := hexL_len m j
    rw [List.take_add_one, hexL_app, List.length_append]
    cases m[j]? with
    | none => show _ + 0 ≤ _; omega
    | some x => show _ + 2 ≤ _; omega
theorem dig2 (x : UInt8) : digH x.toNat 2 = hexL [x] := by
  have := UInt8.toNat_lt x
  show [] ++ [hexD (x.toNat / 16 % 16)] ++ [hexD (x.toNat % 16)] = [hexD (x.toNat / 16), hexD (x.toNat % 16)]
  rw [Nat.mod_eq_of_lt (by omega : x.toNat / 16 < 16)]; rfl
theorem hexL_next {m : List UInt8} {j : Nat} (h : j < m.length) (A : List UInt8) : A ++ hexL (m.take j) ++ digH (m.getD j 0).toNat 2 = A ++ hexL (m.take (j + 1)) := by
  rw [dig2, List.take_add_one, List.getElem?_eq_getElem h, hexL_app, List.getD_eq_getElem?_getD, List.getElem?_eq_getElem h, List.append_assoc]; rfl
theorem join_tail {α : Type} (f : α → List UInt8) (w : List UInt8) : ∀ (l : List α), joinL 32 (w :: l.map f) = w ++ tailT f l l.length := by
  intro l
  unfold tailT
  rw [List.take_length]
  induction l generalizing w with
  | nil => show w = w ++ []; simp
  | cons x l ih => show w ++ 32 :: joinL 32 (f x :: l.map f) = _; rw [ih]; simp
theorem mode_len (a : Int) : (modeW a).length ≤ 6 := by unfold modeW; split <;> (try split) <;> decide
theorem tailT_0 {α : Type} (f : α → List UInt8) (l : List α) (A : List UInt8) : A = A ++ tailT f l 0 := (List.append_nil A).symm
theorem hexL_0 (m : List UInt8) (A : List UInt8) : A = A ++ hexL (m.take 0) := (List.append_nil A).symm
theorem itoa_len {a : Int} (h : 0 ≤ a) (h2 : a ≤ 600) : (itoa a).length ≤ 9 := by rw [itoa_of h]; exact dig_len (by omega)
theorem name_len : ∀ k, k < 14 → (nameL k).length ≤ 6 := by decide +kernel
theorem cnt_ok {okM : List UInt8 → Prop} {p : ScPlan} (hR : RightL okM p) {k : Nat} (hk : k < 14) : 0 ≤ cntL p k ∧ cntL p k ≤ 600 := by
  have h := hR k
  rcases k with _ | _ | _ | _ | _ | _ | _ | _ | _ | _ | _ | _ | _ | _ | k
  all_goals first | (exfalso; omega) | (simp only [OkL] at h; simp only [cntL]; omega)

attribute [local irreducible] digH hexL
theorem eLine {okM : List UInt8 → Prop} (p : ScPlan) (a b c : Bool) (k : Nat) (hk : k < 14) (hp : p.ok) (hR : RightL okM p) (hI : ∀ n : Int, 0 ≤ n → n ≤ 600 → DCall C0 54 [vI n] (vS (itoa n))) : DCall C0 30 [.agg (planL p a b c), vN k] (vS (LineL p k)) := by
  refine DCall.intro c0Ok Tryd.func30 rfl rfl (by kernel_rfl) rfl ?_
  have hfl : ∀ x ∈ p.lat, (itoa x).length ≤ 9 := fun x hx => by have := (hR 9).2 x hx; exact itoa_len (by omega) (by omega)
  have b1_ := hp.lat
  have b2_ := hp.tape
  have b3_ := hp.prog
  have b4_ := hp.mem
  have h1_ := name_len k hk
  have h2_ := mode_len p.mode
  have h3_ : (itoa (cntL p k)).length ≤ 9 := itoa_len (cnt_ok hR hk).1 (cnt_ok hR hk).2
  refine cSeq <| cReg rfl <| rAl 0 rfl rfl <| oR 1 rfl <| rE 2 <| cSeq <| cReg rfl <| oR 1 rfl <| rCl rfl (.inl rfl) (eName k hk) <| oR 1 rfl <| rE 5 <| cSeq <| cSeq <| cReg rfl <| oR 1 rfl <| rE 6 ?_
  refine cBlock <| cSeq <| cReg rfl <| rOk (x := vB (k == 0)) rfl rfl (okB (eqN _ _)) <| oR 1 rfl <| rE 8 ?_
  refine cCond rfl (fun h1 => ?_) (fun h1 => ?_)
  · have h1p := beq_t h1
    refine cSeq <| cReg rfl <| oR 1 rfl <| rNeed (x := vS ((nameL k) ++ ([32]))) rfl rfl (needSt (cat_sB (nameL k) ([32]))) (by show (((nameL k).length + ([32]).length : Nat) : Int) ≤ 9223372036854775807; (simp only [List.length_append, List.length_cons, List.length_nil, digH_len]; first | omega | (have := hfl _ (List.mem_of_getElem? hx); omega))) <| oR 3 rfl <| rCl rfl (.inl rfl) (eMode p.mode) <| rNeed (x := vS (((nameL k) ++ ([32])) ++ (modeW p.mode))) rfl rfl (needSt (cat_sB ((nameL k) ++ ([32])) (modeW p.mode))) (by show ((((nameL k) ++ ([32])).length + (modeW p.mode).length : Nat) : Int) ≤ 9223372036854775807; (simp only [List.length_append, List.length_cons, List.length_nil, digH_len]; first | omega | (have := hfl _ (List.mem_of_getElem? hx); omega))) <| oR 1 rfl <| rE 16 <| cRet ?_
    have ek := beq_t h1
    subst ek
    exact finTA rfl trivial rfl (congrArg vS (by show nameL 0 ++ [32] ++ modeW p.mode = nameL 0 ++ 32 :: modeW p.mode; simp))
  · have h1p := beq_f h1
    refine cSeq <| cReg rfl <| rOk (x := vB (k == 8)) rfl rfl (okB (eqN _ _)) <| oR 1 rfl <| rE 10 ?_
    refine cCond rfl (fun h2 => ?_) (fun h2 => ?_)
    · have h2p := beq_t h2
      refine cSeq <| cSeq <| cReg rfl <| oR 3 rfl <| rE 13 ?_
      refine cCond rfl (fun h3 => ?_) (fun h3 => ?_)
      · refine cSeq <| cReg rfl <| oR 1 rfl <| rNeed (x := vS ((nameL k) ++ ([32, 116, 97, 98, 108, 101, 115]))) rfl rfl (needSt (cat_sB (nameL k) ([32, 116, 97, 98, 108, 101, 115]))) (by show (((nameL k).length + ([32, 116, 97, 98, 108, 101, 115]).length : Nat) : Int) ≤ 9223372036854775807; (simp only [List.length_append, List.length_cons, List.length_nil, digH_len]; first | omega | (have := hfl _ (List.mem_of_getElem? hx); omega))) <| oR 1 rfl <| rE 16 <| cRet ?_
        have ek := beq_t h2
        subst ek
        have ht := h3
        exact finTA rfl trivial rfl (congrArg vS (by show _ = nameL 8 ++ 32 :: tableW p.tables; rw [ht]; rfl))
      · refine cSkip <| cSeq <| cReg rfl <| oR 1 rfl <| rNeed (x := vS ((nameL k) ++ ([32, 116, 97, 112, 101]))) rfl rfl (needSt (cat_sB (nameL k) ([32, 116, 97, 112, 101]))) (by show (((nameL k).length + ([32, 116, 97, 112, 101]).length : Nat) : Int) ≤ 9223372036854775807; (simp only [List.length_append, List.length_cons, List.length_nil, digH_len]; first | omega | (have := hfl _ (List.mem_of_getElem? hx); omega))) <| oR 1 rfl <| rE 16 <| cRet ?_
        have ek := beq_t h2
        subst ek
        have ht := h3
        exact finTA rfl trivial rfl (congrArg vS (by show _ = nameL 8 ++ 32 :: tableW p.tables; rw [ht]; rfl))
    · have h2p := beq_f h2
      refine cSeq <| cReg rfl <| rOk (x := vB (k == 9)) rfl rfl (okB (eqN _ _)) <| oR 1 rfl <| rE 12 ?_
      refine cCond rfl (fun h4 => ?_) (fun h4 => ?_)
      · have h4p := beq_t h4
        refine cSeq <| cSeq <| cReg rfl <| oR 3 rfl <| rOk (x := vN p.lat.length) rfl rfl (lenMap rowI p.lat) <| oR 1 rfl <| rE 17 <| cBlock <| cLoop (κ := Nat) (fun j => ⟨slotsF [(1, vN k), (2, .ptr 0 0), (4, .v (.string (⟨#[]⟩ : ByteArray))), (15, vN k), (16, vB (k == 0)), (25, vB (k == 8)), (34, vB (k == 9)), (38, .sl 1 (p.lat.map rowI) a), (39, vN p.lat.length), (5, vS (nameL k ++ tailT (itoa) p.lat j)), (40, vN j)], heapF [(0, .box [vI p.mode, vI p.width, vI p.rob, vI p.queue, vI p.stores, vI p.slots, vI p.sets, vI p.ways, .sl 1 (p.lat.map rowI) a, vB p.tables, .sl 1 (p.tape.map rowU) b, .sl 1 (p.prog.map rowU) c, vS p.mem, vI p.cycles])], 17⟩) (fun j => j ≤ p.lat.length) (fun j => p.lat.length - j) 0 (fun s => s) (Weak.of_lists (fun s => s) ⟨⟨rfl, rfl⟩, ⟨rfl, rfl⟩, ⟨rfl, rfl⟩, ⟨rfl, rfl⟩, ⟨rfl, rfl⟩, ⟨rfl, rfl⟩, ⟨rfl, rfl⟩, ⟨rfl, rfl⟩, ⟨rfl, rfl⟩, ⟨(congrArg vS (tailT_0 _ _ _)), rfl⟩, ⟨rfl, rfl⟩, trivial⟩ wH rfl) (Nat.zero_le _) ?_
        intro j hj
        have hjn : j ≤ p.lat.length := hj
        have hjB : j ≤ 900000 := by omega
        have hlj : (tailT (itoa) p.lat j).length ≤ 10 * j := tailT_len (by first | exact hfl | exact fun x _ => by rw [digH_len]; omega) j
        refine cSeq <| cReg rfl <| rOk (x := vB (decide (j < p.lat.length))) rfl rfl (okB (ltN _ _)) <| rE 18 <| cSeq ?_
        refine cCond rfl (fun h5 => ?_) (fun h5 => ?_)
        · have h5p := of_decide_eq_true h5
          refine cSkip <| cSeq <| cBlock <| cSeq <| cReg rfl ?_
          obtain ⟨x, hx⟩ : ∃ y_, p.lat[j]? = some y_ := ⟨_, List.getElem?_eq_getElem omT⟩
          refine rIdx (rowI x) (x := .dp 1 0 (rowI x)) rfl rfl rfl (⟨Int.natCast_nonneg _, getM hx⟩) rfl <| oR 2 rfl <| rE 21 <| cReg rfl <| oR 1 rfl <| rNeed (x := vS ((nameL k ++ tailT (itoa) p.lat j) ++ ([32]))) rfl rfl (needSt (cat_sB (nameL k ++ tailT (itoa) p.lat j) ([32]))) (by show (((nameL k ++ tailT (itoa) p.lat j).length + ([32]).length : Nat) : Int) ≤ 9223372036854775807; (simp only [List.length_append, List.length_cons, List.length_nil, digH_len]; first | omega | (have := hfl _ (List.mem_of_getElem? hx); omega))) <| oR 1 rfl <| rCl rfl (.inl rfl) (hI x (by have := (hR 9).2 x (List.mem_of_getElem? hx); omega) (by have := (hR 9).2 x (List.mem_of_getElem? hx); omega)) <| rNeed (x := vS (((nameL k ++ tailT (itoa) p.lat j) ++ ([32])) ++ (itoa x))) rfl rfl (needSt (cat_sB ((nameL k ++ tailT (itoa) p.lat j) ++ ([32])) (itoa x))) (by show ((((nameL k ++ tailT (itoa) p.lat j) ++ ([32])).length + (itoa x).length : Nat) : Int) ≤ 9223372036854775807; (simp only [List.length_append, List.length_cons, List.length_nil, digH_len]; first | omega | (have := hfl _ (List.mem_of_getElem? hx); omega))) <| oR 1 rfl <| rE 27 <| cReg rfl ?_
          have b1 : j + 1 ≤ 900001 := Nat.add_le_add hjB (Nat.le_refl 1)
          refine rOk (x := vN (j + 1)) rfl rfl (okI (wrapI64 b1 rfl)) <| oR 1 rfl <| rE 29 ?_
          refine ⟨j + 1, fun s => s, Weak.of_lists (fun s => s) ⟨⟨rfl, rfl⟩, ⟨rfl, rfl⟩, ⟨rfl, rfl⟩, ⟨rfl, rfl⟩, ⟨rfl, rfl⟩, ⟨rfl, rfl⟩, ⟨rfl, rfl⟩, ⟨rfl, rfl⟩, ⟨rfl, rfl⟩, ⟨(congrArg vS (tailT_next (f := itoa) hx (nameL k))), rfl⟩, ⟨rfl, rfl⟩, trivial⟩ wH rfl, by omega, by show p.lat.length - (j + 1) < p.lat.length - j; omega⟩
        · have h5p := of_decide_eq_false h5
          refine cExit <| cSeq <| cReg rfl <| oR 2 rfl <| rE 20 <| cRet ?_
          have ek := beq_t h4
          subst ek
          have hj := of_decide_eq_false h5
          exact finTA rfl trivial rfl (congrArg vS (by show _ = joinL 32 (nameL 9 :: p.lat.map itoa); rw [join_tail, tailT_end (by omega)]))
      · have h4p := beq_f h4
        refine cSeq <| cReg rfl <| rOk (x := vB (k == 10)) rfl rfl (okB (eqN _ _)) <| oR 1 rfl <| rE 14 ?_
        refine cCond rfl (fun h6 => ?_) (fun h6 => ?_)
        · have h6p := beq_t h6
          refine cSeq <| cSeq <| cReg rfl <| oR 3 rfl <| rOk (x := vN p.tape.length) rfl rfl (lenMap rowU p.tape) <| oR 1 rfl <| rE 19 <| cBlock <| cLoop (κ := Nat) (fun j => ⟨slotsF [(1, vN k), (2, .ptr 0 0), (4, .v (.string (⟨#[]⟩ : ByteArray))), (15, vN k), (16, vB (k == 0)), (25, vB (k == 8)), (34, vB (k == 9)), (51, vB (k == 10)), (55, .sl 1 (p.tape.map rowU) b), (56, vN p.tape.length), (5, vS (nameL k ++ tailT (fun w => digH w 8) p.tape j)), (57, vN j)], heapF [(0, .box [vI p.mode, vI p.width, vI p.rob, vI p.queue, vI p.stores, vI p.slots, vI p.sets, vI p.ways, .sl 1 (p.lat.map rowI) a, vB p.tables, .sl 1 (p.tape.map rowU) b, .sl 1 (p.prog.map rowU) c, vS p.mem, vI p.cycles])], 19⟩) (fun j => j ≤ p.tape.length) (fun j => p.tape.length - j) 0 (fun s => s) (Weak.of_lists (fun s => s) ⟨⟨rfl, rfl⟩, ⟨rfl, rfl⟩, ⟨rfl, rfl⟩, ⟨rfl, rfl⟩, ⟨rfl, rfl⟩, ⟨rfl, rfl⟩, ⟨rfl, rfl⟩, ⟨rfl, rfl⟩, ⟨rfl, rfl⟩, ⟨rfl, rfl⟩, ⟨(congrArg vS (tailT_0 _ _ _)), rfl⟩, ⟨rfl, rfl⟩, trivial⟩ wH rfl) (Nat.zero_le _) ?_
          intro j hj
          have hjn : j ≤ p.tape.length := hj
          have hjB : j ≤ 900000 := by omega
          have hlj : (tailT (fun w => digH w 8) p.tape j).length ≤ 10 * j := tailT_len (by first | exact hfl | exact fun x _ => by rw [digH_len]; omega) j
          refine cSeq <| cReg rfl <| rOk (x := vB (decide (j < p.tape.length))) rfl rfl (okB (ltN _ _)) <| rE 20 <| cSeq ?_
          refine cCond rfl (fun h7 => ?_) (fun h7 => ?_)
          · have h7p := of_decide_eq_true h7
            refine cSkip <| cSeq <| cBlock <| cSeq <| cReg rfl ?_
            obtain ⟨y, hy⟩ : ∃ y_, p.tape[j]? = some y_ := ⟨_, List.getElem?_eq_getElem omT⟩
            have hyo := hp.tp y (List.mem_of_getElem? hy)
            refine rIdx (rowU y) (x := .dp 1 0 (rowU y)) rfl rfl rfl (⟨Int.natCast_nonneg _, getM hy⟩) rfl <| oR 2 rfl <| rE 23 <| cReg rfl <| oR 1 rfl <| rNeed (x := vS ((nameL k ++ tailT (fun w => digH w 8) p.tape j) ++ ([32]))) rfl rfl (needSt (cat_sB (nameL k ++ tailT (fun w => digH w 8) p.tape j) ([32]))) (by show (((nameL k ++ tailT (fun w => digH w 8) p.tape j).length + ([32]).length : Nat) : Int) ≤ 9223372036854775807; (simp only [List.length_append, List.length_cons, List.length_nil, digH_len]; first | omega | (have := hfl _ (List.mem_of_getElem? hx); omega))) <| oR 1 rfl <| rCl rfl (.inl rfl) (eHex8 y (by omega)) <| rNeed (x := vS (((nameL k ++ tailT (fun w => digH w 8) p.tape j) ++ ([32])) ++ (digH y 8))) rfl rfl (needSt (cat_sB ((nameL k ++ tailT (fun w => digH w 8) p.tape j) ++ ([32])) (digH y 8))) (by show ((((nameL k ++ tailT (fun w => digH w 8) p.tape j) ++ ([32])).length + (digH y 8).length : Nat) : Int) ≤ 9223372036854775807; (simp only [List.length_append, List.length_cons, List.length_nil, digH_len]; first | omega | (have := hfl _ (List.mem_of_getElem? hx); omega))) <| oR 1 rfl <| rE 29 <| cReg rfl ?_
            have b2 : j + 1 ≤ 900001 := Nat.add_le_add hjB (Nat.le_refl 1)
            refine rOk (x := vN (j + 1)) rfl rfl (okI (wrapI64 b2 rfl)) <| oR 1 rfl <| rE 31 ?_
            refine ⟨j + 1, fun s => s, Weak.of_lists (fun s => s) ⟨⟨rfl, rfl⟩, ⟨rfl, rfl⟩, ⟨rfl, rfl⟩, ⟨rfl, rfl⟩, ⟨rfl, rfl⟩, ⟨rfl, rfl⟩, ⟨rfl, rfl⟩, ⟨rfl, rfl⟩, ⟨rfl, rfl⟩, ⟨rfl, rfl⟩, ⟨(congrArg vS (tailT_next (f := fun w => digH w 8) hy (nameL k))), rfl⟩, ⟨rfl, rfl⟩, trivial⟩ wH rfl, by omega, by show p.tape.length - (j + 1) < p.tape.length - j; omega⟩
          · have h7p := of_decide_eq_false h7
            refine cExit <| cSeq <| cReg rfl <| oR 2 rfl <| rE 22 <| cRet ?_
            have ek := beq_t h6
            subst ek
            have hj := of_decide_eq_false h7
            exact finTA rfl trivial rfl (congrArg vS (by show _ = joinL 32 (nameL 10 :: p.tape.map (fun w => digH w 8)); rw [join_tail, tailT_end (by omega)]))
        · have h6p := beq_f h6
          refine cSeq <| cReg rfl <| rOk (x := vB (k == 11)) rfl rfl (okB (eqN _ _)) <| oR 1 rfl <| rE 16 ?_
          refine cCond rfl (fun h8 => ?_) (fun h8 => ?_)
          · have h8p := beq_t h8
            refine cSeq <| cSeq <| cReg rfl <| oR 2 rfl <| rOk (x := vN p.prog.length) rfl rfl (lenMap rowU p.prog) <| oR 1 rfl <| rE 20 <| cBlock <| cLoop (κ := Nat) (fun j => ⟨slotsF [(1, vN k), (2, .ptr 0 0), (4, .v (.string (⟨#[]⟩ : ByteArray))), (15, vN k), (16, vB (k == 0)), (25, vB (k == 8)), (34, vB (k == 9)), (51, vB (k == 10)), (68, vB (k == 11)), (71, .sl 1 (p.prog.map rowU) c), (72, vN p.prog.length), (5, vS (nameL k ++ tailT (fun w => digH w 8) p.prog j)), (73, vN j)], heapF [(0, .box [vI p.mode, vI p.width, vI p.rob, vI p.queue, vI p.stores, vI p.slots, vI p.sets, vI p.ways, .sl 1 (p.lat.map rowI) a, vB p.tables, .sl 1 (p.tape.map rowU) b, .sl 1 (p.prog.map rowU) c, vS p.mem, vI p.cycles])], 20⟩) (fun j => j ≤ p.prog.length) (fun j => p.prog.length - j) 0 (fun s => s) (Weak.of_lists (fun s => s) ⟨⟨rfl, rfl⟩, ⟨rfl, rfl⟩, ⟨rfl, rfl⟩, ⟨rfl, rfl⟩, ⟨rfl, rfl⟩, ⟨rfl, rfl⟩, ⟨rfl, rfl⟩, ⟨rfl, rfl⟩, ⟨rfl, rfl⟩, ⟨rfl, rfl⟩, ⟨rfl, rfl⟩, ⟨(congrArg vS (tailT_0 _ _ _)), rfl⟩, ⟨rfl, rfl⟩, trivial⟩ wH rfl) (Nat.zero_le _) ?_
            intro j hj
            have hjn : j ≤ p.prog.length := hj
            have hjB : j ≤ 900000 := by omega
            have hlj : (tailT (fun w => digH w 8) p.prog j).length ≤ 10 * j := tailT_len (by first | exact hfl | exact fun x _ => by rw [digH_len]; omega) j
            refine cSeq <| cReg rfl <| rOk (x := vB (decide (j < p.prog.length))) rfl rfl (okB (ltN _ _)) <| rE 21 <| cSeq ?_
            refine cCond rfl (fun h9 => ?_) (fun h9 => ?_)
            · have h9p := of_decide_eq_true h9
              refine cSkip <| cSeq <| cBlock <| cSeq <| cReg rfl ?_
              obtain ⟨z, hz⟩ : ∃ y_, p.prog[j]? = some y_ := ⟨_, List.getElem?_eq_getElem omT⟩
              have hzo := hp.pr z (List.mem_of_getElem? hz)
              refine rIdx (rowU z) (x := .dp 1 0 (rowU z)) rfl rfl rfl (⟨Int.natCast_nonneg _, getM hz⟩) rfl <| oR 2 rfl <| rE 24 <| cReg rfl <| oR 1 rfl <| rNeed (x := vS ((nameL k ++ tailT (fun w => digH w 8) p.prog j) ++ ([32]))) rfl rfl (needSt (cat_sB (nameL k ++ tailT (fun w => digH w 8) p.prog j) ([32]))) (by show (((nameL k ++ tailT (fun w => digH w 8) p.prog j).length + ([32]).length : Nat) : Int) ≤ 9223372036854775807; (simp only [List.length_append, List.length_cons, List.length_nil, digH_len]; first | omega | (have := hfl _ (List.mem_of_getElem? hx); omega))) <| oR 1 rfl <| rCl rfl (.inl rfl) (eHex8 z (by omega)) <| rNeed (x := vS (((nameL k ++ tailT (fun w => digH w 8) p.prog j) ++ ([32])) ++ (digH z 8))) rfl rfl (needSt (cat_sB ((nameL k ++ tailT (fun w => digH w 8) p.prog j) ++ ([32])) (digH z 8))) (by show ((((nameL k ++ tailT (fun w => digH w 8) p.prog j) ++ ([32])).length + (digH z 8).length : Nat) : Int) ≤ 9223372036854775807; (simp only [List.length_append, List.length_cons, List.length_nil, digH_len]; first | omega | (have := hfl _ (List.mem_of_getElem? hx); omega))) <| oR 1 rfl <| rE 30 <| cReg rfl ?_
              have b3 : j + 1 ≤ 900001 := Nat.add_le_add hjB (Nat.le_refl 1)
              refine rOk (x := vN (j + 1)) rfl rfl (okI (wrapI64 b3 rfl)) <| oR 1 rfl <| rE 32 ?_
              refine ⟨j + 1, fun s => s, Weak.of_lists (fun s => s) ⟨⟨rfl, rfl⟩, ⟨rfl, rfl⟩, ⟨rfl, rfl⟩, ⟨rfl, rfl⟩, ⟨rfl, rfl⟩, ⟨rfl, rfl⟩, ⟨rfl, rfl⟩, ⟨rfl, rfl⟩, ⟨rfl, rfl⟩, ⟨rfl, rfl⟩, ⟨rfl, rfl⟩, ⟨(congrArg vS (tailT_next (f := fun w => digH w 8) hz (nameL k))), rfl⟩, ⟨rfl, rfl⟩, trivial⟩ wH rfl, by omega, by show p.prog.length - (j + 1) < p.prog.length - j; omega⟩
            · have h9p := of_decide_eq_false h9
              refine cExit <| cSeq <| cReg rfl <| oR 2 rfl <| rE 23 <| cRet ?_
              have ek := beq_t h8
              subst ek
              have hj := of_decide_eq_false h9
              exact finTA rfl trivial rfl (congrArg vS (by show _ = joinL 32 (nameL 11 :: p.prog.map (fun w => digH w 8)); rw [join_tail, tailT_end (by omega)]))
          · have h8p := beq_f h8
            refine cSeq <| cReg rfl <| rOk (x := vB (k == 12)) rfl rfl (okB (eqN _ _)) <| oR 1 rfl <| rE 18 ?_
            refine cCond rfl (fun h10 => ?_) (fun h10 => ?_)
            · have h10p := beq_t h10
              refine cSeq <| cReg rfl <| oR 1 rfl <| rNeed (x := vS ((nameL k) ++ ([32]))) rfl rfl (needSt (cat_sB (nameL k) ([32]))) (by show (((nameL k).length + ([32]).length : Nat) : Int) ≤ 9223372036854775807; (simp only [List.length_append, List.length_cons, List.length_nil, digH_len]; first | omega | (have := hfl _ (List.mem_of_getElem? hx); omega))) <| oR 1 rfl <| rE 21 <| cSeq <| cSeq <| cReg rfl <| oR 1 rfl <| rE 22 <| cBlock <| cLoop (κ := Nat) (fun j => ⟨slotsF [(1, vN k), (2, .ptr 0 0), (4, .v (.string (⟨#[]⟩ : ByteArray))), (16, vB (k == 0)), (25, vB (k == 8)), (34, vB (k == 9)), (51, vB (k == 10)), (68, vB (k == 11)), (84, vB (k == 12)), (5, vS (nameL k ++ [32] ++ hexL (p.mem.take j))), (12, vN j)], heapF [(0, .box [vI p.mode, vI p.width, vI p.rob, vI p.queue, vI p.stores, vI p.slots, vI p.sets, vI p.ways, .sl 1 (p.lat.map rowI) a, vB p.tables, .sl 1 (p.tape.map rowU) b, .sl 1 (p.prog.map rowU) c, vS p.mem, vI p.cycles])], 22⟩) (fun j => j ≤ p.mem.length) (fun j => p.mem.length - j) 0 (fun s => s) (Weak.of_lists (fun s => s) ⟨⟨rfl, rfl⟩, ⟨rfl, rfl⟩, ⟨rfl, rfl⟩, ⟨rfl, rfl⟩, ⟨rfl, rfl⟩, ⟨rfl, rfl⟩, ⟨rfl, rfl⟩, ⟨rfl, rfl⟩, ⟨rfl, rfl⟩, ⟨(congrArg vS (hexL_0 _ _)), rfl⟩, ⟨rfl, rfl⟩, trivial⟩ wH rfl) (Nat.zero_le _) ?_
              intro j hj
              have hjn : j ≤ p.mem.length := hj
              have hjB : j ≤ 900000 := by omega
              have hlj : (hexL (p.mem.take j)).length ≤ 2 * j := hexL_len _ _
              refine cSeq <| cSeq <| cReg rfl <| oR 3 rfl <| rOk (x := vN p.mem.length) rfl rfl rfl <| rOk (x := vB (decide (j < p.mem.length))) rfl rfl (okB (ltN _ _)) <| rE 27 ?_
              refine cCond rfl (fun h11 => ?_) (fun h11 => ?_)
              · have h11p := of_decide_eq_true h11
                refine cSkip <| cSeq <| cBlock <| cReg rfl <| oR 4 rfl <| rNeed (x := .v (.int .u8 (((p.mem.getD j 0).toNat : Nat) : Int))) rfl rfl rfl (⟨Int.natCast_nonneg _, Int.ofNat_lt.2 (by show j < p.mem.length; omega)⟩) <| rOk (x := vU ((p.mem.getD j 0).toNat)) rfl rfl (okI (modI (u8_le _) rfl)) <| rCl rfl (.inl rfl) (eHex2 ((p.mem.getD j 0).toNat) (Nat.le_trans (u8_le _) (by decide))) <| rNeed (x := vS ((nameL k ++ [32] ++ hexL (p.mem.take j)) ++ (digH ((p.mem.getD j 0).toNat) 2))) rfl rfl (needSt (cat_sB (nameL k ++ [32] ++ hexL (p.mem.take j)) (digH ((p.mem.getD j 0).toNat) 2))) (by show (((nameL k ++ [32] ++ hexL (p.mem.take j)).length + (digH ((p.mem.getD j 0).toNat) 2).length : Nat) : Int) ≤ 9223372036854775807; (simp only [List.length_append, List.length_cons, List.length_nil, digH_len]; first | omega | (have := hfl _ (List.mem_of_getElem? hx); omega))) <| oR 1 rfl <| rE 36 <| cReg rfl <| oR 1 rfl ?_
                have b4 : j + 1 ≤ 900001 := Nat.add_le_add hjB (Nat.le_refl 1)
                refine rOk (x := vN (j + 1)) rfl rfl (okI (wrapI64 b4 rfl)) <| oR 1 rfl <| rE 39 ?_
                refine ⟨j + 1, fun s => s, Weak.of_lists (fun s => s) ⟨⟨rfl, rfl⟩, ⟨rfl, rfl⟩, ⟨rfl, rfl⟩, ⟨rfl, rfl⟩, ⟨rfl, rfl⟩, ⟨rfl, rfl⟩, ⟨rfl, rfl⟩, ⟨rfl, rfl⟩, ⟨rfl, rfl⟩, ⟨(congrArg vS (hexL_next (by omega) _)), rfl⟩, ⟨rfl, rfl⟩, trivial⟩ wH rfl, by omega, by show p.mem.length - (j + 1) < p.mem.length - j; omega⟩
              · have h11p := of_decide_eq_false h11
                refine cExit <| cSeq <| cReg rfl <| oR 2 rfl <| rE 29 <| cRet ?_
                have ek := beq_t h10
                subst ek
                have hj := of_decide_eq_false h11
                exact finTA rfl trivial rfl (congrArg vS (by show _ = nameL 12 ++ 32 :: hexL p.mem; rw [List.take_of_length_le (by omega)]; simp))
            · have h10p := beq_f h10
              refine cSkip <| cSeq <| cReg rfl <| oR 1 rfl <| rNeed (x := vS ((nameL k) ++ ([32]))) rfl rfl (needSt (cat_sB (nameL k) ([32]))) (by show (((nameL k).length + ([32]).length : Nat) : Int) ≤ 9223372036854775807; (simp only [List.length_append, List.length_cons, List.length_nil, digH_len]; first | omega | (have := hfl _ (List.mem_of_getElem? hx); omega))) <| oR 2 rfl <| rCl rfl (.inl rfl) (eCount p a b c k hk) <| rCl rfl (.inl rfl) (hI _ (cnt_ok hR hk).1 (cnt_ok hR hk).2) <| rNeed (x := vS (((nameL k) ++ ([32])) ++ (itoa (cntL p k)))) rfl rfl (needSt (cat_sB ((nameL k) ++ ([32])) (itoa (cntL p k)))) (by show ((((nameL k) ++ ([32])).length + (itoa (cntL p k)).length : Nat) : Int) ≤ 9223372036854775807; (simp only [List.length_append, List.length_cons, List.length_nil, digH_len]; first | omega | (have := hfl _ (List.mem_of_getElem? hx); omega))) <| oR 1 rfl <| rE 26 <| cRet ?_
              have e0 := beq_f h1; have e1 := beq_f h2; have e2 := beq_f h4; have e3 := beq_f h6; have e4 := beq_f h8; have e5 := beq_f h10
              refine finTA rfl trivial rfl (congrArg vS ?_)
              rcases k with _ | _ | _ | _ | _ | _ | _ | _ | _ | _ | _ | _ | _ | _ | k
              all_goals first | (exfalso; omega) | (simp [LineL, joinL, writtenL, cntL]; done)
theorem line_len {okM : List UInt8 → Prop} {p : ScPlan} (hp : p.ok) (hR : RightL okM p) {k : Nat} (hk : k < 14) : (LineL p k).length ≤ 9000020 := by
  have h1 := name_len k hk
  have hi : (itoa (cntL p k)).length ≤ 9 := itoa_len (cnt_ok hR hk).1 (cnt_ok hR hk).2
  have two : ∀ a b : List UInt8, (joinL 32 [a, b]).length = a.length + 1 + b.length := fun a b => by show (a ++ 32 :: b).length = _; rw [List.length_append, List.length_cons]; omega
  have h9 : (joinL 32 (nameL 9 :: p.lat.map itoa)).length ≤ 9000020 := by
    rw [join_tail, List.length_append]
    have := tailT_len (f := itoa) (l := p.lat) (fun x hx => by have := (hR 9).2 x hx; exact itoa_len (by omega) (by omega)) p.lat.length
    have := name_len 9 (by decide); have := hp.lat; omega
  have hd : ∀ (l : List Nat) (w : List UInt8), l.length ≤ 900000 → w.length ≤ 6 → (joinL 32 (w :: l.map fun a => digH a 8)).length ≤ 9000020 := fun l w hl hw => by
    rw [join_tail, List.length_append]
    have := tailT_len (f := fun a => digH a 8) (l := l) (fun x _ => by rw [digH_len]; omega) l.length
    omega
  have hm : (hexL p.mem).length ≤ 1800000 := by
    have := hexL_len p.mem p.mem.length
    rw [List.take_length] at this
    have := hp.mem; omega
  have ht : (tableW p.tables).length ≤ 6 := by cases p.tables <;> decide
  have ho := mode_len p.mode
  have q1 : (joinL 32 [nameL k, itoa (cntL p k)]).length ≤ 9000020 := by rw [two]; omega
  have q2 : (joinL 32 [nameL k, modeW p.mode]).length ≤ 9000020 := by rw [two]; omega
  have q3 : (joinL 32 [nameL k, tableW p.tables]).length ≤ 9000020 := by rw [two]; omega
  have q4 : (joinL 32 [nameL k, hexL p.mem]).length ≤ 9000020 := by rw [two]; omega
  rcases k with _ | _ | _ | _ | _ | _ | _ | _ | _ | _ | _ | _ | _ | _ | k
  · exact q2
  · exact q1
  · exact q1
  · exact q1
  · exact q1
  · exact q1
  · exact q1
  · exact q1
  · exact q3
  · exact h9
  · exact hd p.tape (nameL 10) hp.tape h1
  · exact hd p.prog (nameL 11) hp.prog h1
  · exact q4
  · exact q1
  · exfalso; omega
theorem text_len {okM : List UInt8 → Prop} {p : ScPlan} (hp : p.ok) (hR : RightL okM p) : ∀ {k : Nat}, k ≤ 14 → (textTo p k).length ≤ 9000021 * k
  | 0, _ => Nat.zero_le _
  | k + 1, h => by
    have ih := text_len hp hR (k := k) (by omega)
    have := line_len hp hR (k := k) (by omega)
    show (textTo p k ++ (LineL p k ++ [10])).length ≤ _
    rw [List.length_append, List.length_append, List.length_singleton]; omega
theorem text_next (p : ScPlan) (k : Nat) : textTo p k ++ LineL p k ++ [10] = textTo p (k + 1) := by show _ = textTo p k ++ (LineL p k ++ [10]); rw [List.append_assoc]

theorem eText {okM : List UInt8 → Prop} (p : ScPlan) (a b c : Bool) (hp : p.ok) (hR : RightL okM p) (hI : ∀ n : Int, 0 ≤ n → n ≤ 600 → DCall C0 54 [vI n] (vS (itoa n))) : DCall C0 15 [.agg (planL p a b c)] (vS (textTo p 14)) := by
  refine DCall.intro c0Ok Tryd.func15 rfl rfl (by kernel_rfl) rfl <| cSeq <| cReg rfl <| rAl 0 rfl rfl <| oR 1 rfl <| rE 2 <| cSeq <| cReg rfl <| oR 1 rfl <| rE 3 <| cSeq <| cSeq <| cReg rfl <| oR 1 rfl <| rE 4 <| cBlock ?_
  refine cLoop (κ := Nat) (fun k => ⟨slotsF [(1, .ptr 0 0), (2, .v (.string (⟨#[]⟩ : ByteArray))), (3, vS (textTo p k)), (4, vN k)], heapF [(0, .box [vI p.mode, vI p.width, vI p.rob, vI p.queue, vI p.stores, vI p.slots, vI p.sets, vI p.ways, .sl 1 (p.lat.map rowI) a, vB p.tables, .sl 1 (p.tape.map rowU) b, .sl 1 (p.prog.map rowU) c, vS p.mem, vI p.cycles])], 4⟩) (fun k => k ≤ 14) (fun k => 14 - k) 0 (fun s => s) (Weak.of_lists (fun s => s) wT wH rfl) (Nat.zero_le _) ?_
  intro k hk
  have hkn : k ≤ 14 := hk
  have hkB : k ≤ 14 := by omega
  refine cSeq <| cSeq <| cReg rfl <| oR 1 rfl <| rOk (x := vB (decide (k < 14))) rfl rfl (okB (ltN _ _)) <| rE 6 ?_
  refine cCond rfl (fun h1 => ?_) (fun h1 => ?_)
  · have h1p := of_decide_eq_true h1
    refine cSkip <| cSeq <| cBlock <| cReg rfl <| oR 3 rfl <| rCl rfl (.inl rfl) (eLine p a b c k (by omega) hp hR hI) <| rNeed (x := vS ((textTo p k) ++ (LineL p k))) rfl rfl (needSt (cat_sB (textTo p k) (LineL p k))) (by show (((textTo p k).length + (LineL p k).length : Nat) : Int) ≤ 9223372036854775807; ((try simp only [List.length_append, List.length_cons, List.length_nil]); have := text_len hp hR (k := k) (by omega); have := line_len hp hR (k := k) (by omega); omega)) <| rNeed (x := vS (((textTo p k) ++ (LineL p k)) ++ ([10]))) rfl rfl (needSt (cat_sB ((textTo p k) ++ (LineL p k)) ([10]))) (by show ((((textTo p k) ++ (LineL p k)).length + ([10]).length : Nat) : Int) ≤ 9223372036854775807; ((try simp only [List.length_append, List.length_cons, List.length_nil]); have := text_len hp hR (k := k) (by omega); have := line_len hp hR (k := k) (by omega); omega)) <| oR 1 rfl <| rE 13 <| cReg rfl <| oR 1 rfl ?_
    have b1 : k + 1 ≤ 15 := Nat.add_le_add hkB (Nat.le_refl 1)
    refine rOk (x := vN (k + 1)) rfl rfl (okI (wrapI64 b1 rfl)) <| oR 1 rfl <| rE 16 ?_
    refine ⟨k + 1, fun s => s, Weak.of_lists (fun s => s) ⟨⟨rfl, rfl⟩, ⟨rfl, rfl⟩, ⟨(congrArg vS (text_next p k)), rfl⟩, ⟨rfl, rfl⟩, trivial⟩ wH rfl, by omega, by show 14 - (k + 1) < 14 - k; omega⟩
  · have h1p := of_decide_eq_false h1
    refine cExit <| cSeq <| cReg rfl <| oR 2 rfl <| rE 8 <| cRet ?_
    have hk14 : k = 14 := by have := h1; simp at this; omega
    subst hk14
    exact finTA rfl trivial rfl rfl
