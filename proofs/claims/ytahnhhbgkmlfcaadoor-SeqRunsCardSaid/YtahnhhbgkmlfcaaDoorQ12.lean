/- The reference of layer 3 (numbers): walks on the second machine. -/
import Derived.Test.YtahnhhbgkmlfcaaDoorQ10
import Derived.Test.YtahnhhbgkmlfcaaDoorQ9
import Derived.Test.YtahnhhbgkmlfcaaDoorAlu
namespace Go.Proofs.YtahnhhbgkmlfcaaDoor
open Go.RowKit

theorem high_eq (a b : Nat) (ha : a ≤ 4294967295) (hb : b ≤ 4294967295) : (((a / 65536) * (b / 65536)) + ((((a % 65536) * (b / 65536)) + (((a % 65536) * (b % 65536)) / 65536)) / 65536) + ((((a / 65536) * (b % 65536)) + ((((a % 65536) * (b / 65536)) + (((a % 65536) * (b % 65536)) / 65536)) % 65536)) / 65536)) % 4294967296 = a * b / 4294967296 := by
  have e : a * b = 4294967296 * ((a / 65536) * (b / 65536)) + 65536 * ((a / 65536) * (b % 65536)) + 65536 * ((a % 65536) * (b / 65536)) + (a % 65536) * (b % 65536) := by
    have h1 : a = 65536 * (a / 65536) + a % 65536 := by omega
    have h2 : b = 65536 * (b / 65536) + b % 65536 := by omega
    generalize a / 65536 = x at h1 ⊢
    generalize a % 65536 = y at h1 ⊢
    generalize b / 65536 = z at h2 ⊢
    generalize b % 65536 = t at h2 ⊢
    subst h1 h2
    simp only [Nat.mul_add, Nat.add_mul]
    have e1 : 65536 * x * (65536 * z) = 4294967296 * (x * z) := by rw [Nat.mul_mul_mul_comm]
    have e2 : 65536 * x * t = 65536 * (x * t) := by rw [Nat.mul_assoc]
    have e3 : y * (65536 * z) = 65536 * (y * z) := by rw [Nat.mul_left_comm]
    omega
  have hle : a * b ≤ 4294967295 * 4294967295 := Nat.mul_le_mul ha hb
  rw [e] at hle ⊢
  generalize (a / 65536) * (b / 65536) = p at hle ⊢
  generalize (a / 65536) * (b % 65536) = q at hle ⊢
  generalize (a % 65536) * (b / 65536) = r at hle ⊢
  generalize (a % 65536) * (b % 65536) = s at hle ⊢
  omega

theorem dHigh (a b : Nat) (ha : a ≤ 4294967295) (hb : b ≤ 4294967295) : DCall C0 92 [.v (.int .u32 ((a : Nat) : Int)), .v (.int .u32 ((b : Nat) : Int))] (.v (.int .u32 ((a * b / 4294967296 : Nat) : Int))) := by
  refine DCall.intro c0Ok Tryd.func92 rfl rfl (by kernel_rfl) rfl ?_
  refine cSeq ?_
  refine cR ?_
  refine rO 4 (.v (.int .u32 0)) ?_
  refine rE 1 ?_
  refine cSeq ?_
  refine cR ?_
  refine rO 12 (vU a) ?_
  have b1 : a % 65536 ≤ 65535 := Nat.le_of_lt_succ (Nat.mod_lt _ (by decide))
  refine rNeed (d := 13) (x := vU (a % 65536)) rfl rfl rfl (by decide) ?_
  refine rOk (d := 14) (x := .v (.int .u64 ((a % 65536 : Nat) : Int))) rfl rfl (okI (modI b1 rfl)) ?_
  refine rO 5 (.v (.int .u64 ((a % 65536 : Nat) : Int))) ?_
  refine rE 5 ?_
  refine cSeq ?_
  refine cR ?_
  refine rO 15 (vU a) ?_
  have b2 : a / 65536 ≤ 65535 := Nat.div_le_div_right ha
  refine rNeed (d := 16) (x := vU (a / 65536)) rfl rfl (needI (modI b2 rfl)) (by decide) ?_
  refine rOk (d := 17) (x := .v (.int .u64 ((a / 65536 : Nat) : Int))) rfl rfl (okI (modI b2 rfl)) ?_
  refine rO 6 (.v (.int .u64 ((a / 65536 : Nat) : Int))) ?_
  refine rE 9 ?_
  refine cSeq ?_
  refine cR ?_
  refine rO 18 (vU b) ?_
  have b3 : b % 65536 ≤ 65535 := Nat.le_of_lt_succ (Nat.mod_lt _ (by decide))
  refine rNeed (d := 19) (x := vU (b % 65536)) rfl rfl rfl (by decide) ?_
  refine rOk (d := 20) (x := .v (.int .u64 ((b % 65536 : Nat) : Int))) rfl rfl (okI (modI b3 rfl)) ?_
  refine rO 7 (.v (.int .u64 ((b % 65536 : Nat) : Int))) ?_
  refine rE 13 ?_
  refine cSeq ?_
  refine cR ?_
  refine rO 21 (vU b) ?_
  have b4 : b / 65536 ≤ 65535 := Nat.div_le_div_right hb
  refine rNeed (d := 22) (x := vU (b / 65536)) rfl rfl (needI (modI b4 rfl)) (by decide) ?_
  refine rOk (d := 23) (x := .v (.int .u64 ((b / 65536 : Nat) : Int))) rfl rfl (okI (modI b4 rfl)) ?_
  refine rO 8 (.v (.int .u64 ((b / 65536 : Nat) : Int))) ?_
  refine rE 17 ?_
  refine cSeq ?_
  refine cR ?_
  refine rO 24 (.v (.int .u64 ((a % 65536 : Nat) : Int))) ?_
  refine rO 25 (.v (.int .u64 ((b % 65536 : Nat) : Int))) ?_
  have b5 : (a % 65536) * (b % 65536) ≤ 4294836225 := Nat.mul_le_mul b1 b3
  refine rOk (d := 26) (x := .v (.int .u64 (((a % 65536) * (b % 65536) : Nat) : Int))) rfl rfl (okI (modI b5 rfl)) ?_
  refine rO 9 (.v (.int .u64 (((a % 65536) * (b % 65536) : Nat) : Int))) ?_
  refine rE 21 ?_
  refine cSeq ?_
  refine cR ?_
  refine rO 27 (.v (.int .u64 ((a % 65536 : Nat) : Int))) ?_
  refine rO 28 (.v (.int .u64 ((b / 65536 : Nat) : Int))) ?_
  have b6 : (a % 65536) * (b / 65536) ≤ 4294836225 := Nat.mul_le_mul b1 b4
  refine rOk (d := 29) (x := .v (.int .u64 (((a % 65536) * (b / 65536) : Nat) : Int))) rfl rfl (okI (modI b6 rfl)) ?_
  refine rO 30 (.v (.int .u64 (((a % 65536) * (b % 65536) : Nat) : Int))) ?_
  have b7 : ((a % 65536) * (b % 65536)) / 65536 ≤ 65534 := Nat.div_le_div_right b5
  refine rNeed (d := 31) (x := .v (.int .u64 ((((a % 65536) * (b % 65536)) / 65536 : Nat) : Int))) rfl rfl (needI (modI b7 rfl)) (by decide) ?_
  have b8 : ((a % 65536) * (b / 65536)) + (((a % 65536) * (b % 65536)) / 65536) ≤ 4294901759 := Nat.add_le_add b6 b7
  refine rOk (d := 32) (x := .v (.int .u64 ((((a % 65536) * (b / 65536)) + (((a % 65536) * (b % 65536)) / 65536) : Nat) : Int))) rfl rfl (okI (modI b8 rfl)) ?_
  refine rO 10 (.v (.int .u64 ((((a % 65536) * (b / 65536)) + (((a % 65536) * (b % 65536)) / 65536) : Nat) : Int))) ?_
  refine rE 28 ?_
  refine cSeq ?_
  refine cR ?_
  refine rO 33 (.v (.int .u64 ((a / 65536 : Nat) : Int))) ?_
  refine rO 34 (.v (.int .u64 ((b % 65536 : Nat) : Int))) ?_
  have b9 : (a / 65536) * (b % 65536) ≤ 4294836225 := Nat.mul_le_mul b2 b3
  refine rOk (d := 35) (x := .v (.int .u64 (((a / 65536) * (b % 65536) : Nat) : Int))) rfl rfl (okI (modI b9 rfl)) ?_
  refine rO 36 (.v (.int .u64 ((((a % 65536) * (b / 65536)) + (((a % 65536) * (b % 65536)) / 65536) : Nat) : Int))) ?_
  have b10 : (((a % 65536) * (b / 65536)) + (((a % 65536) * (b % 65536)) / 65536)) % 65536 ≤ 65535 := Nat.le_of_lt_succ (Nat.mod_lt _ (by decide))
  refine rNeed (d := 37) (x := .v (.int .u64 (((((a % 65536) * (b / 65536)) + (((a % 65536) * (b % 65536)) / 65536)) % 65536 : Nat) : Int))) rfl rfl rfl (by decide) ?_
  have b11 : ((a / 65536) * (b % 65536)) + ((((a % 65536) * (b / 65536)) + (((a % 65536) * (b % 65536)) / 65536)) % 65536) ≤ 4294901760 := Nat.add_le_add b9 b10
  refine rOk (d := 38) (x := .v (.int .u64 ((((a / 65536) * (b % 65536)) + ((((a % 65536) * (b / 65536)) + (((a % 65536) * (b % 65536)) / 65536)) % 65536) : Nat) : Int))) rfl rfl (okI (modI b11 rfl)) ?_
  refine rO 11 (.v (.int .u64 ((((a / 65536) * (b % 65536)) + ((((a % 65536) * (b / 65536)) + (((a % 65536) * (b % 65536)) / 65536)) % 65536) : Nat) : Int))) ?_
  refine rE 35 ?_
  refine cSeq ?_
  refine cR ?_
  refine rO 39 (.v (.int .u64 ((a / 65536 : Nat) : Int))) ?_
  refine rO 40 (.v (.int .u64 ((b / 65536 : Nat) : Int))) ?_
  have b12 : (a / 65536) * (b / 65536) ≤ 4294836225 := Nat.mul_le_mul b2 b4
  refine rOk (d := 41) (x := .v (.int .u64 (((a / 65536) * (b / 65536) : Nat) : Int))) rfl rfl (okI (modI b12 rfl)) ?_
  refine rO 42 (.v (.int .u64 ((((a % 65536) * (b / 65536)) + (((a % 65536) * (b % 65536)) / 65536) : Nat) : Int))) ?_
  have b13 : (((a % 65536) * (b / 65536)) + (((a % 65536) * (b % 65536)) / 65536)) / 65536 ≤ 65534 := Nat.div_le_div_right b8
  refine rNeed (d := 43) (x := .v (.int .u64 (((((a % 65536) * (b / 65536)) + (((a % 65536) * (b % 65536)) / 65536)) / 65536 : Nat) : Int))) rfl rfl (needI (modI b13 rfl)) (by decide) ?_
  have b14 : ((a / 65536) * (b / 65536)) + ((((a % 65536) * (b / 65536)) + (((a % 65536) * (b % 65536)) / 65536)) / 65536) ≤ 4294901759 := Nat.add_le_add b12 b13
  refine rOk (d := 44) (x := .v (.int .u64 ((((a / 65536) * (b / 65536)) + ((((a % 65536) * (b / 65536)) + (((a % 65536) * (b % 65536)) / 65536)) / 65536) : Nat) : Int))) rfl rfl (okI (modI b14 rfl)) ?_
  refine rO 45 (.v (.int .u64 ((((a / 65536) * (b % 65536)) + ((((a % 65536) * (b / 65536)) + (((a % 65536) * (b % 65536)) / 65536)) % 65536) : Nat) : Int))) ?_
  have b15 : (((a / 65536) * (b % 65536)) + ((((a % 65536) * (b / 65536)) + (((a % 65536) * (b % 65536)) / 65536)) % 65536)) / 65536 ≤ 65535 := Nat.div_le_div_right b11
  refine rNeed (d := 46) (x := .v (.int .u64 (((((a / 65536) * (b % 65536)) + ((((a % 65536) * (b / 65536)) + (((a % 65536) * (b % 65536)) / 65536)) % 65536)) / 65536 : Nat) : Int))) rfl rfl (needI (modI b15 rfl)) (by decide) ?_
  have b16 : (((a / 65536) * (b / 65536)) + ((((a % 65536) * (b / 65536)) + (((a % 65536) * (b % 65536)) / 65536)) / 65536)) + ((((a / 65536) * (b % 65536)) + ((((a % 65536) * (b / 65536)) + (((a % 65536) * (b % 65536)) / 65536)) % 65536)) / 65536) ≤ 4294967294 := Nat.add_le_add b14 b15
  refine rOk (d := 47) (x := .v (.int .u64 (((((a / 65536) * (b / 65536)) + ((((a % 65536) * (b / 65536)) + (((a % 65536) * (b % 65536)) / 65536)) / 65536)) + ((((a / 65536) * (b % 65536)) + ((((a % 65536) * (b / 65536)) + (((a % 65536) * (b % 65536)) / 65536)) % 65536)) / 65536) : Nat) : Int))) rfl rfl (okI (modI b16 rfl)) ?_
  have b17 : ((((a / 65536) * (b / 65536)) + ((((a % 65536) * (b / 65536)) + (((a % 65536) * (b % 65536)) / 65536)) / 65536)) + ((((a / 65536) * (b % 65536)) + ((((a % 65536) * (b / 65536)) + (((a % 65536) * (b % 65536)) / 65536)) % 65536)) / 65536)) % 4294967296 ≤ 4294967295 := Nat.le_of_lt_succ (Nat.mod_lt _ (by decide))
  refine rNeed (d := 48) (x := .v (.int .u64 ((((((a / 65536) * (b / 65536)) + ((((a % 65536) * (b / 65536)) + (((a % 65536) * (b % 65536)) / 65536)) / 65536)) + ((((a / 65536) * (b % 65536)) + ((((a % 65536) * (b / 65536)) + (((a % 65536) * (b % 65536)) / 65536)) % 65536)) / 65536)) % 4294967296 : Nat) : Int))) rfl rfl rfl (by decide) ?_
  refine rOk (d := 49) (x := vU (((((a / 65536) * (b / 65536)) + ((((a % 65536) * (b / 65536)) + (((a % 65536) * (b % 65536)) / 65536)) / 65536)) + ((((a / 65536) * (b % 65536)) + ((((a % 65536) * (b / 65536)) + (((a % 65536) * (b % 65536)) / 65536)) % 65536)) / 65536)) % 4294967296)) rfl rfl (okI (modI b17 rfl)) ?_
  refine rO 4 (vU (((((a / 65536) * (b / 65536)) + ((((a % 65536) * (b / 65536)) + (((a % 65536) * (b % 65536)) / 65536)) / 65536)) + ((((a / 65536) * (b % 65536)) + ((((a % 65536) * (b / 65536)) + (((a % 65536) * (b % 65536)) / 65536)) % 65536)) / 65536)) % 4294967296)) ?_
  refine rE 47 ?_
  refine cRet ?_
  exact retA_eq rfl trivial rfl (congrArg (fun n : Nat => AV.v (.int .u32 (n : Int))) (high_eq a b ha hb))
theorem dSigned (a : Nat) (ha : a ≤ 4294967295) : DCall C0 93 [.v (.int .u32 ((a : Nat) : Int))] (.v (.int .i64 (sgn a))) := by
  refine DCall.intro c0Ok Tryd.func93 rfl rfl (by kernel_rfl) rfl ?_
  refine cSeq ?_
  refine cR ?_
  refine rO 2 (vI 0) ?_
  refine rE 1 ?_
  refine cSeq ?_
  refine cSeq ?_
  refine cR ?_
  refine rO 3 (vU a) ?_
  refine rOk (d := 4) (x := .v (.bool (decide (a ≥ 2147483648)))) rfl rfl (okB (geN _ _)) ?_
  refine rE 3 ?_
  refine cCond (v := decide (a ≥ 2147483648)) rfl (fun h1 => ?_) (fun h1 => ?_)
  · skip
    refine cSeq ?_
    refine cR ?_
    refine rO 5 (vU a) ?_
    refine rO 6 (vI (IntKind.wrap .i64 ((a : Nat) : Int))) ?_
    refine rO 7 (vI (IntKind.wrap .i64 ((IntKind.wrap .i64 ((a : Nat) : Int)) - 4294967296))) ?_
    refine rO 2 (vI (IntKind.wrap .i64 ((IntKind.wrap .i64 ((a : Nat) : Int)) - 4294967296))) ?_
    refine rE 7 ?_
    refine cRet ?_
    exact retA_eq rfl trivial rfl (congrArg (fun n : Int => AV.v (.int .i64 n)) (by have := of_decide_eq_true h1; unfold sgn; rw [if_neg (by omega)]; rw [wrap_i64 (by rw [wrap_i64 (by omega) (by omega)]; omega) (by rw [wrap_i64 (by omega) (by omega)]; omega), wrap_i64 (by omega) (by omega)]))
  · skip
    refine cSkip ?_
    refine cSeq ?_
    refine cR ?_
    refine rO 8 (vU a) ?_
    refine rO 9 (vI (IntKind.wrap .i64 ((a : Nat) : Int))) ?_
    refine rO 2 (vI (IntKind.wrap .i64 ((a : Nat) : Int))) ?_
    refine rE 6 ?_
    refine cRet ?_
    exact retA_eq rfl trivial rfl (congrArg (fun n : Int => AV.v (.int .i64 n)) (by have := of_decide_eq_false h1; unfold sgn; rw [if_pos (by omega)]; exact wrap_i64 (by omega) (by omega)))
end Go.Proofs.YtahnhhbgkmlfcaaDoor
