/- The reference: Join, Bits, Write, Clean, Right, Load, Took, Do, B, Value; on the second machine. -/
import Derived.Test.YtckjihpdjefpgaaQ10
namespace Go.Proofs.Ytckjihpdjefpgaa
open Go.RowKit

theorem join_le (s : ByteArray) (hs : s.size ≤ 4) (k : Nat) (hk : k ≤ s.size) : joinTo (s.data.toList.drop (s.size - k)) k ≤ 4294967295 := by
 have h := joinTo_lt (s.data.toList.drop (s.size - k)) k
 have : 256 ^ k ≤ 256 ^ 4 := Nat.pow_le_pow_right (by decide) (by omega)
 omega
theorem dlen (s : ByteArray) : s.data.toList.length = s.size := Array.length_toList
theorem join_go (s : ByteArray) (hs : s.size ≤ 4) (k : Nat) (hk : k < s.size) : (256 * joinTo (s.data.toList.drop (s.size - k)) k % 4294967296 + (s.data.toList.getD (((s.size : Int) - 1 - (k : Int))).toNat 0).toNat) % 4294967296 = joinTo (s.data.toList.drop (s.size - (k + 1))) (k + 1) := by
 have h := join_drop s.data.toList k (by rw [dlen]; exact hk)
 rw [dlen] at h
 have h2 := join_le s hs (k + 1) hk
 rw [show (((s.size : Int) - 1 - (k : Int))).toNat = s.size - 1 - k by omega, h]
 rw [h] at h2
 omega

theorem u8w (b : UInt8) : IntKind.wrap .u32 ((b.toNat : Nat) : Int) = ((b.toNat : Nat) : Int) := by
 have := UInt8.toNat_lt b
 simp only [IntKind.wrap, IntKind.signed, IntKind.bits]
 simp
 omega
theorem modI32 (n : Nat) : IntKind.wrap .u32 ((n : Nat) : Int) = ((n % 4294967296 : Nat) : Int) := by
 simp only [IntKind.wrap, IntKind.signed, IntKind.bits]
 simp

set_option maxRecDepth 100000 in
set_option maxHeartbeats 4000000 in
theorem rJoin (s : ByteArray) (hs : s.size ≤ 4) : DCall C0 47 [.v (.string s)] (.tup [.v (.int .u32 ((joinTo s.data.toList s.size : Nat) : Int)), .v (.int .i64 0)]) := by
 refine DCall.intro c0Ok Try.func47 rfl rfl (by kernel_rfl) rfl ?_
 refine cSeq ?_
 refine cR ?_
 refine rO 2 (.v (.int .u32 0)) ?_
 refine rO 3 (vI 0) ?_
 refine rE 2 ?_
 refine cSeq ?_
 refine cSeq ?_
 refine cR ?_
 refine rO 6 (.v (.string s)) ?_
 refine rO 7 (vN s.size) ?_
 refine rX 8 (vB (decide (s.size > 4))) (okB (gtN _ _)) ?_
 refine rE 5 ?_
 refine cPr (s.size > 4) pDec (fun h1 => by omega) (fun h1 => ?_)
 refine cSkip ?_
 refine cSeq ?_
 refine cR ?_
 refine rO 4 (.v (.int .u32 0)) ?_
 refine rE 6 ?_
 refine cSeq ?_
 refine cSeq ?_
 refine cR ?_
 refine rO 9 (.v (.string s)) ?_
 refine rO 10 (vN s.size) ?_
 refine rOk (d := 11) (x := vI ((s.size : Int) - 1)) rfl rfl (okN (wrap_i64 (by omega) (by omega))) ?_
 refine rO 5 (vI ((s.size : Int) - 1)) ?_
 refine rE 10 ?_
 refine cBlock ?_
 refine cLoop (κ := Nat) (fun k => ⟨slotsF [(0, .v (.string s)), (4, vU (joinTo (s.data.toList.drop (s.size - k)) k)), (5, vI ((s.size : Int) - 1 - (k : Int)))], heapF [], 10⟩) (fun k => k ≤ s.size) (fun k => s.size - k) 0 (fun s => s) (Weak.of_lists (fun s => s) ⟨⟨rfl, rfl⟩, ⟨rfl, rfl⟩, ⟨congrArg (fun n : Int => vI n) (by simp), rfl⟩, trivial⟩ trivial rfl) (Nat.zero_le _) ?_
 intro k hk
 refine cSeq ?_
 refine cSeq ?_
 refine cR ?_
 refine rO 12 (vI ((s.size : Int) - 1 - (k : Int))) ?_
 refine rO 13 (vB (decide (((s.size : Int) - 1 - (k : Int)) ≥ 0))) ?_
 refine rE 12 ?_
 refine cPr (((s.size : Int) - 1 - (k : Int)) ≥ 0) pDec (fun h2 => ?_) (fun h2 => ?_)
 ·skip
  refine cSkip ?_
  refine cSeq ?_
  refine cBlock ?_
  refine cR ?_
  refine rO 16 (vU (joinTo (s.data.toList.drop (s.size - k)) k)) ?_
  have b1 : (256 * (joinTo (s.data.toList.drop (s.size - k)) k)) % 4294967296 ≤ 4294967295 := Nat.le_of_lt_succ (Nat.mod_lt _ (by decide))
  refine rO 17 (vU ((256 * (joinTo (s.data.toList.drop (s.size - k)) k)) % 4294967296)) ?_
  refine rO 18 (.v (.string s)) ?_
  refine rO 19 (vI ((s.size : Int) - 1 - (k : Int))) ?_
  refine rNeed (d := 20) (x := .v (.int .u8 (((s.data.toList.getD ((s.size : Int) - 1 - (k : Int)).toNat 0).toNat : Nat) : Int))) rfl rfl rfl (⟨by omega, by omega⟩) ?_
  refine rOk (d := 21) (x := vU ((s.data.toList.getD ((s.size : Int) - 1 - (k : Int)).toNat 0).toNat)) rfl rfl (okN (u8w _)) ?_
  refine rX 22 (vU (joinTo (s.data.toList.drop (s.size - (k + 1))) (k + 1))) (okI (by rw [← join_go s hs k (by omega)]; exact modI32 _)) ?_
  refine rO 4 (vU (joinTo (s.data.toList.drop (s.size - (k + 1))) (k + 1))) ?_
  refine rE 20 ?_
  refine cR ?_
  refine rO 14 (vI ((s.size : Int) - 1 - (k : Int))) ?_
  refine rOk (d := 15) (x := vI ((s.size : Int) - 1 - ((k + 1 : Nat) : Int))) rfl rfl (okN (by rw [wrap_i64 (by omega) (by omega)]; omega)) ?_
  refine rO 5 (vI ((s.size : Int) - 1 - ((k + 1 : Nat) : Int))) ?_
  refine rE 23 ?_
  refine ⟨k + 1, fun s => s, Weak.of_lists (fun s => s) ⟨⟨rfl, rfl⟩, ⟨rfl, rfl⟩, ⟨rfl, rfl⟩, trivial⟩ trivial rfl, (by omega), (by omega)⟩
 ·skip
  refine cExit ?_
  refine cSeq ?_
  refine cR ?_
  refine rO 23 (vU (joinTo (s.data.toList.drop (s.size - k)) k)) ?_
  refine rO 2 (vU (joinTo (s.data.toList.drop (s.size - k)) k)) ?_
  refine rO 3 (vI 0) ?_
  refine rE 15 ?_
  refine cRet ?_
  have e : k = s.size := by omega
  subst e
  exact finTA rfl trivial rfl (by rw [Nat.sub_self, List.drop_zero]; rfl)
theorem lenP_half (x k : Nat) (hx : x ≤ 4294967295) (h : x / 2 ^ k > 0) : lenP (x / 2 ^ k) = 1 + lenP (x / 2 ^ (k + 1)) := by
 have : x / 2 ^ k ≤ x := Nat.div_le_self _ _
 unfold lenP
 rw [Lib.bitLen_half _ (by omega) (by omega), Nat.div_div_eq_div_mul, ← Nat.pow_succ]
theorem half_lt (x k : Nat) (hx : x ≤ 4294967295) (h : x / 2 ^ k > 0) : k < 32 := by
 refine Nat.lt_of_not_le fun hk => ?_
 have : (2 : Nat) ^ 32 ≤ 2 ^ k := Nat.pow_le_pow_right (by decide) hk
 rw [Nat.div_eq_of_lt (by omega)] at h
 omega
theorem lenP_0 : lenP 0 = 0 := by decide

set_option maxRecDepth 100000 in
set_option maxHeartbeats 4000000 in
theorem rBits (x : Nat) (hx : x ≤ 4294967295) : DCall C0 84 [vU x] (.v (.int .i64 ((lenP x : Nat) : Int))) := by
 refine DCall.intro c0Ok Try.func84 rfl rfl (by kernel_rfl) rfl ?_
 refine cSeq ?_
 refine cR ?_
 refine rO 2 (vI 0) ?_
 refine rE 1 ?_
 refine cSeq ?_
 refine cR ?_
 refine rO 3 (vI 0) ?_
 refine rE 2 ?_
 refine cSeq ?_
 refine cBlock ?_
 refine cLoop (κ := Nat) (fun k => ⟨slotsF [(0, vU (x / 2 ^ k)), (3, vN k)], heapF [], 2⟩) (fun k => k ≤ 32 ∧ lenP x = k + lenP (x / 2 ^ k)) (fun k => 33 - k) 0 (fun s => s) (Weak.of_lists (fun s => s) ⟨⟨u32N (by simp), rfl⟩, ⟨rfl, rfl⟩, trivial⟩ trivial rfl) (⟨by decide, by simp⟩) ?_
 intro k hk
 refine cSeq ?_
 refine cSeq ?_
 refine cR ?_
 refine rO 4 (vU (x / 2 ^ k)) ?_
 refine rX 5 (vB (decide ((x / 2 ^ k) > 0))) (okB (gtN _ _)) ?_
 refine rE 4 ?_
 refine cPr ((x / 2 ^ k) > 0) pDec (fun h1 => ?_) (fun h1 => ?_)
 ·skip
  refine cSkip ?_
  refine cBlock ?_
  refine cSeq ?_
  refine cR ?_
  refine rO 6 (vN k) ?_
  have b1 : k + 1 ≤ 33 := Nat.add_le_add hk.1 (Nat.le_refl 1)
  refine rX 7 (vN (k + 1)) (okI (wrapI64 b1 rfl)) ?_
  refine rO 3 (vN (k + 1)) ?_
  refine rE 7 ?_
  refine cR ?_
  refine rO 8 (vU (x / 2 ^ k)) ?_
  refine rNeed (d := 9) (x := vU (x / 2 ^ (k + 1))) rfl rfl (needI (by rw [Nat.pow_succ, ← Nat.div_div_eq_div_mul]; exact modI (Nat.le_trans (Nat.div_le_self _ _) (Nat.le_trans (Nat.div_le_self _ _) hx)) rfl)) (by decide) ?_
  refine rO 0 (vU (x / 2 ^ (k + 1))) ?_
  refine rE 10 ?_
  refine ⟨k + 1, fun s => s, Weak.of_lists (fun s => s) ⟨⟨rfl, rfl⟩, ⟨rfl, rfl⟩, trivial⟩ trivial rfl, ⟨half_lt x k hx h1, by rw [hk.2, lenP_half x k hx h1]; omega⟩, (by have := half_lt x k hx h1; omega)⟩
 ·skip
  refine cExit ?_
  refine cSeq ?_
  refine cR ?_
  refine rO 10 (vN k) ?_
  refine rO 2 (vN k) ?_
  refine rE 6 ?_
  refine cRet ?_
  exact fI rfl (congrArg Int.ofNat (by rw [hk.2, show x / 2 ^ k = 0 from Nat.eq_zero_of_not_pos h1, lenP_0]; rfl))
set_option maxRecDepth 100000 in
set_option maxHeartbeats 4000000 in
theorem rWrite (m : ByteArray) (addr : Nat) (b : ByteArray) (hr : addr + b.size ≤ m.size) (hm : m.size ≤ 256) (ha : addr ≤ 4294967295) (hb : b.size ≤ 4) : DCall C0 46 [.v (.string m), vU addr, .v (.string b)] (.v (.string (writeP m addr b))) := by
 refine DCall.intro c0Ok Try.func46 rfl rfl (by kernel_rfl) rfl ?_
 refine cSeq ?_
 refine cR ?_
 refine rO 6 (.v (.string (⟨#[]⟩))) ?_
 refine rE 1 ?_
 refine cSeq ?_
 refine cR ?_
 refine rO 10 (.sl 1 ([]) true) ?_
 refine rO 7 (.sl 1 ([]) true) ?_
 refine rE 3 ?_
 refine cSeq ?_
 refine cSeq ?_
 refine cR ?_
 refine rO 8 (vI 0) ?_
 refine rE 4 ?_
 refine cBlock ?_
 refine cLoop (κ := Nat) (fun k => match k with | 0 => ⟨slotsF [(0, .v (.string m)), (1, vU addr), (2, .v (.string b)), (7, .sl 1 ([]) true), (8, vN 0)], heapF [], 4⟩ | k + 1 => ⟨slotsF [(0, .v (.string m)), (1, vU addr), (2, .v (.string b)), (7, .osl 0 0 (k + 1) false), (8, vN (k + 1))], heapF [(0, .arr ((upto (writeG m b addr) (k + 1)).map rowB) 1)], 4⟩) (fun k => k ≤ m.size) (fun k => m.size - k) 0 (fun s => s) (Weak.of_lists (fun s => s) ⟨⟨rfl, rfl⟩, ⟨rfl, rfl⟩, ⟨rfl, rfl⟩, ⟨rfl, rfl⟩, ⟨rfl, rfl⟩, trivial⟩ trivial rfl) (Nat.zero_le _) ?_
 intro k hk
 rcases k with _ | k
 ·skip
  have hkB : 0 ≤ 1000000 := by decide
  refine cSeq ?_
  refine cSeq ?_
  refine cR ?_
  refine rO 11 (vN 0) ?_
  refine rO 12 (.v (.string m)) ?_
  refine rO 13 (vN m.size) ?_
  refine rX 14 (vB (decide (0 < m.size))) (okB (ltN _ _)) ?_
  refine rE 8 ?_
  refine cPr (0 < m.size) pDec (fun h1 => ?_) (fun h1 => ?_)
  ·skip
   refine cSkip ?_
   refine cSeq ?_
   refine cBlock ?_
   refine cSeq ?_
   refine cR ?_
   refine rO 17 (vN 0) ?_
   refine rO 18 (vU addr) ?_
   refine rX 19 (vN addr) (okI (wrapI64 ha rfl)) ?_
   refine rOk (d := 20) (x := vI (((0 : Nat) : Int) - (addr : Int))) rfl rfl (okN (wrap_i64 (by omega) (by omega))) ?_
   refine rO 9 (vI (((0 : Nat) : Int) - (addr : Int))) ?_
   refine rE 13 ?_
   refine cSeq ?_
   refine cR ?_
   refine rO 21 (vI (((0 : Nat) : Int) - (addr : Int))) ?_
   refine rO 22 (vB (decide ((((0 : Nat) : Int) - (addr : Int)) ≥ 0))) ?_
   refine rO 23 (vB (decide ((((0 : Nat) : Int) - (addr : Int)) ≥ 0))) ?_
   refine gO 24 (decide ((((0 : Nat) : Int) - (addr : Int)) ≥ 0)) (vI (((0 : Nat) : Int) - (addr : Int))) ?_
   refine gO 25 (decide ((((0 : Nat) : Int) - (addr : Int)) ≥ 0)) (.v (.string b)) ?_
   refine gOkS (d := 26) (x := vN b.size) (g := decide ((((0 : Nat) : Int) - (addr : Int)) ≥ 0)) rfl rfl rfl rfl (fun h => h) rfl rfl ?_
   refine gOkS (d := 27) (x := vB (decide ((((0 : Nat) : Int) - (addr : Int)) < ((b.size : Nat) : Int)))) (g := decide ((((0 : Nat) : Int) - (addr : Int)) ≥ 0)) rfl rfl rfl rfl (fun h => by simp_all) rfl rfl ?_
   refine rNeed (d := 28) (x := vB (cond2 (decide ((((0 : Nat) : Int) - (addr : Int)) ≥ 0)) (decide ((((0 : Nat) : Int) - (addr : Int)) < ((b.size : Nat) : Int))) false)) rfl rfl rfl (fun h => h) ?_
   refine rE 21 ?_
   refine cPr ((((0 : Nat) : Int) - (addr : Int)) ≥ 0 ∧ (((0 : Nat) : Int) - (addr : Int)) < ((b.size : Nat) : Int)) (c2and _ _ pDec pDec) (fun h2 => ?_) (fun h2 => ?_)
   ·skip
    refine cR ?_
    refine rO 29 (.sl 1 ([]) true) ?_
    refine rO 30 (.v (.string b)) ?_
    refine rO 31 (vI (((0 : Nat) : Int) - (addr : Int))) ?_
    refine rNeed (d := 32) (x := .v (.int .u8 (((b.data.toList.getD (((0 : Nat) : Int) - (addr : Int)).toNat 0).toNat : Nat) : Int))) rfl rfl rfl (⟨by omega, by omega⟩) ?_
    refine rO 33 (.sl 1 ([[.v (.int .u8 (((b.data.toList.getD (((0 : Nat) : Int) - (addr : Int)).toNat 0).toNat : Nat) : Int))]]) true) ?_
    refine rFx (d := 34) (x := .osl 26 0 1 false) (h' := upd _ 26 (some (.arr (([]) ++ ([[.v (.int .u8 (((b.data.toList.getD (((0 : Nat) : Int) - (addr : Int)).toNat 0).toNat : Nat) : Int))]])) 1))) rfl rfl (rfl) (⟨by exact Nat.le_of_ble_eq_true rfl, by exact Nat.le_of_ble_eq_true rfl, trivial, trivial⟩) ?_
    refine rO 7 (.osl 26 0 1 false) ?_
    refine rE 28 ?_
    refine cR ?_
    refine rO 15 (vN 0) ?_
    have b1 : 0 + 1 ≤ 1000001 := Nat.add_le_add hkB (Nat.le_refl 1)
    refine rX 16 (vN (0 + 1)) (okI (wrapI64 b1 rfl)) ?_
    refine rO 8 (vN (0 + 1)) ?_
    refine rE 31 ?_
    refine ⟨0 + 1, fun s => match s with | 0 => 26 | s => s, Weak.of_lists (fun s => match s with | 0 => 26 | s => s) ⟨⟨rfl, rfl⟩, ⟨rfl, rfl⟩, ⟨rfl, rfl⟩, ⟨rfl, rfl⟩, ⟨rfl, rfl⟩, trivial⟩ ⟨⟨rfl, congrArg (fun z => some (Blk.arr z 1)) (grow0 (g := writeG m b addr) (row := rowB) (x := b.data.toList.getD (((0 : Nat) : Int) - (addr : Int)).toNat 0) (by unfold writeG; rw [if_pos h2])), rfl⟩, trivial⟩ rfl, (by omega), (by omega)⟩
   ·skip
    refine cR ?_
    refine rO 35 (.sl 1 ([]) true) ?_
    refine rO 36 (.v (.string m)) ?_
    refine rO 37 (vN 0) ?_
    refine rNeed (d := 38) (x := .v (.int .u8 (((m.data.toList.getD (((0 : Nat) : Int)).toNat 0).toNat : Nat) : Int))) rfl rfl rfl (⟨by omega, by omega⟩) ?_
    refine rO 39 (.sl 1 ([[.v (.int .u8 (((m.data.toList.getD (((0 : Nat) : Int)).toNat 0).toNat : Nat) : Int))]]) true) ?_
    refine rFx (d := 40) (x := .osl 26 0 1 false) (h' := upd _ 26 (some (.arr (([]) ++ ([[.v (.int .u8 (((m.data.toList.getD (((0 : Nat) : Int)).toNat 0).toNat : Nat) : Int))]])) 1))) rfl rfl (rfl) (⟨by exact Nat.le_of_ble_eq_true rfl, by exact Nat.le_of_ble_eq_true rfl, trivial, trivial⟩) ?_
    refine rO 7 (.osl 26 0 1 false) ?_
    refine rE 28 ?_
    refine cR ?_
    refine rO 15 (vN 0) ?_
    have b2 : 0 + 1 ≤ 1000001 := Nat.add_le_add hkB (Nat.le_refl 1)
    refine rX 16 (vN (0 + 1)) (okI (wrapI64 b2 rfl)) ?_
    refine rO 8 (vN (0 + 1)) ?_
    refine rE 31 ?_
    refine ⟨0 + 1, fun s => match s with | 0 => 26 | s => s, Weak.of_lists (fun s => match s with | 0 => 26 | s => s) ⟨⟨rfl, rfl⟩, ⟨rfl, rfl⟩, ⟨rfl, rfl⟩, ⟨rfl, rfl⟩, ⟨rfl, rfl⟩, trivial⟩ ⟨⟨rfl, congrArg (fun z => some (Blk.arr z 1)) (grow0 (g := writeG m b addr) (row := rowB) (x := m.data.toList.getD ((0 : Nat) : Int).toNat 0) (by unfold writeG; rw [if_neg h2]; rfl)), rfl⟩, trivial⟩ rfl, (by omega), (by omega)⟩
  ·skip
   refine cExit ?_
   refine cSeq ?_
   refine cR ?_
   refine rO 41 (.sl 1 ([]) true) ?_
   refine rStr (([] : List UInt8)) (d := 42) rfl rfl rfl (trivial) (rfl) ?_
   refine rO 6 (.v (.string (⟨([] : List UInt8).toArray⟩ : ByteArray))) ?_
   refine rE 11 ?_
   refine cRet ?_
   exact fS rfl (by rw [← writeG_eq m b addr hr]; rw [show m.size = 0 by omega]; rfl)
 ·skip
  have hkB : k + 1 ≤ 1000000 := by omega
  refine cSeq ?_
  refine cSeq ?_
  refine cR ?_
  refine rO 11 (vN (k + 1)) ?_
  refine rO 12 (.v (.string m)) ?_
  refine rO 13 (vN m.size) ?_
  refine rX 14 (vB (decide ((k + 1) < m.size))) (okB (ltN _ _)) ?_
  refine rE 8 ?_
  refine cPr ((k + 1) < m.size) pDec (fun h3 => ?_) (fun h3 => ?_)
  ·skip
   refine cSkip ?_
   refine cSeq ?_
   refine cBlock ?_
   refine cSeq ?_
   refine cR ?_
   refine rO 17 (vN (k + 1)) ?_
   refine rO 18 (vU addr) ?_
   refine rX 19 (vN addr) (okI (wrapI64 ha rfl)) ?_
   refine rOk (d := 20) (x := vI ((((k + 1) : Nat) : Int) - (addr : Int))) rfl rfl (okN (wrap_i64 (by omega) (by omega))) ?_
   refine rO 9 (vI ((((k + 1) : Nat) : Int) - (addr : Int))) ?_
   refine rE 13 ?_
   refine cSeq ?_
   refine cR ?_
   refine rO 21 (vI ((((k + 1) : Nat) : Int) - (addr : Int))) ?_
   refine rO 22 (vB (decide (((((k + 1) : Nat) : Int) - (addr : Int)) ≥ 0))) ?_
   refine rO 23 (vB (decide (((((k + 1) : Nat) : Int) - (addr : Int)) ≥ 0))) ?_
   refine gO 24 (decide (((((k + 1) : Nat) : Int) - (addr : Int)) ≥ 0)) (vI ((((k + 1) : Nat) : Int) - (addr : Int))) ?_
   refine gO 25 (decide (((((k + 1) : Nat) : Int) - (addr : Int)) ≥ 0)) (.v (.string b)) ?_
   refine gOkS (d := 26) (x := vN b.size) (g := decide (((((k + 1) : Nat) : Int) - (addr : Int)) ≥ 0)) rfl rfl rfl rfl (fun h => h) rfl rfl ?_
   refine gOkS (d := 27) (x := vB (decide (((((k + 1) : Nat) : Int) - (addr : Int)) < ((b.size : Nat) : Int)))) (g := decide (((((k + 1) : Nat) : Int) - (addr : Int)) ≥ 0)) rfl rfl rfl rfl (fun h => by simp_all) rfl rfl ?_
   refine rNeed (d := 28) (x := vB (cond2 (decide (((((k + 1) : Nat) : Int) - (addr : Int)) ≥ 0)) (decide (((((k + 1) : Nat) : Int) - (addr : Int)) < ((b.size : Nat) : Int))) false)) rfl rfl rfl (fun h => h) ?_
   refine rE 21 ?_
   refine cPr (((((k + 1) : Nat) : Int) - (addr : Int)) ≥ 0 ∧ ((((k + 1) : Nat) : Int) - (addr : Int)) < ((b.size : Nat) : Int)) (c2and _ _ pDec pDec) (fun h4 => ?_) (fun h4 => ?_)
   ·skip
    refine cR ?_
    refine rO 29 (.osl 0 0 (k + 1) false) ?_
    refine rO 30 (.v (.string b)) ?_
    refine rO 31 (vI ((((k + 1) : Nat) : Int) - (addr : Int))) ?_
    refine rNeed (d := 32) (x := .v (.int .u8 (((b.data.toList.getD ((((k + 1) : Nat) : Int) - (addr : Int)).toNat 0).toNat : Nat) : Int))) rfl rfl rfl (⟨by omega, by omega⟩) ?_
    refine rO 33 (.sl 1 ([[.v (.int .u8 (((b.data.toList.getD ((((k + 1) : Nat) : Int) - (addr : Int)).toNat 0).toNat : Nat) : Int))]]) true) ?_
    refine rFx (d := 34) (x := .osl 26 0 ((List.take (k + 1) (List.drop 0 ((upto (writeG m b addr) (k + 1)).map rowB))).length + ([[.v (.int .u8 (((b.data.toList.getD ((((k + 1) : Nat) : Int) - (addr : Int)).toNat 0).toNat : Nat) : Int))]] : List (List AV)).length) false) (h' := upd (upd _ 0 none) 26 (some (.arr (List.take (k + 1) (List.drop 0 ((upto (writeG m b addr) (k + 1)).map rowB)) ++ [[.v (.int .u8 (((b.data.toList.getD ((((k + 1) : Nat) : Int) - (addr : Int)).toNat 0).toNat : Nat) : Int))]]) 1))) rfl rfl (rfl) (⟨gC (by omega), gF, trivial⟩) ?_
    refine rO 7 (.osl 26 0 ((List.take (k + 1) (List.drop 0 ((upto (writeG m b addr) (k + 1)).map rowB))).length + ([[.v (.int .u8 (((b.data.toList.getD ((((k + 1) : Nat) : Int) - (addr : Int)).toNat 0).toNat : Nat) : Int))]] : List (List AV)).length) false) ?_
    refine rE 28 ?_
    refine cR ?_
    refine rO 15 (vN (k + 1)) ?_
    have b3 : (k + 1) + 1 ≤ 1000001 := Nat.add_le_add hkB (Nat.le_refl 1)
    refine rX 16 (vN ((k + 1) + 1)) (okI (wrapI64 b3 rfl)) ?_
    refine rO 8 (vN ((k + 1) + 1)) ?_
    refine rE 31 ?_
    refine ⟨(k + 1) + 1, fun s => match s with | 0 => 26 | s => s, Weak.of_lists (fun s => match s with | 0 => 26 | s => s) ⟨⟨rfl, rfl⟩, ⟨rfl, rfl⟩, ⟨rfl, rfl⟩, ⟨congrArg (fun z => AV.osl 26 0 z false) gL, rfl⟩, ⟨rfl, rfl⟩, trivial⟩ ⟨⟨rfl, congrArg (fun z => some (Blk.arr z 1)) (growS (g := writeG m b addr) (row := rowB) (x := b.data.toList.getD ((((k + 1) : Nat) : Int) - (addr : Int)).toNat 0) (by unfold writeG; rw [if_pos h4])), rfl⟩, trivial⟩ rfl, (by omega), (by omega)⟩
   ·skip
    refine cR ?_
    refine rO 35 (.osl 0 0 (k + 1) false) ?_
    refine rO 36 (.v (.string m)) ?_
    refine rO 37 (vN (k + 1)) ?_
    refine rNeed (d := 38) (x := .v (.int .u8 (((m.data.toList.getD ((((k + 1) : Nat) : Int)).toNat 0).toNat : Nat) : Int))) rfl rfl rfl (⟨by omega, by omega⟩) ?_
    refine rO 39 (.sl 1 ([[.v (.int .u8 (((m.data.toList.getD ((((k + 1) : Nat) : Int)).toNat 0).toNat : Nat) : Int))]]) true) ?_
    refine rFx (d := 40) (x := .osl 26 0 ((List.take (k + 1) (List.drop 0 ((upto (writeG m b addr) (k + 1)).map rowB))).length + ([[.v (.int .u8 (((m.data.toList.getD ((((k + 1) : Nat) : Int)).toNat 0).toNat : Nat) : Int))]] : List (List AV)).length) false) (h' := upd (upd _ 0 none) 26 (some (.arr (List.take (k + 1) (List.drop 0 ((upto (writeG m b addr) (k + 1)).map rowB)) ++ [[.v (.int .u8 (((m.data.toList.getD ((((k + 1) : Nat) : Int)).toNat 0).toNat : Nat) : Int))]]) 1))) rfl rfl (rfl) (⟨gC (by omega), gF, trivial⟩) ?_
    refine rO 7 (.osl 26 0 ((List.take (k + 1) (List.drop 0 ((upto (writeG m b addr) (k + 1)).map rowB))).length + ([[.v (.int .u8 (((m.data.toList.getD ((((k + 1) : Nat) : Int)).toNat 0).toNat : Nat) : Int))]] : List (List AV)).length) false) ?_
    refine rE 28 ?_
    refine cR ?_
    refine rO 15 (vN (k + 1)) ?_
    have b4 : (k + 1) + 1 ≤ 1000001 := Nat.add_le_add hkB (Nat.le_refl 1)
    refine rX 16 (vN ((k + 1) + 1)) (okI (wrapI64 b4 rfl)) ?_
    refine rO 8 (vN ((k + 1) + 1)) ?_
    refine rE 31 ?_
    refine ⟨(k + 1) + 1, fun s => match s with | 0 => 26 | s => s, Weak.of_lists (fun s => match s with | 0 => 26 | s => s) ⟨⟨rfl, rfl⟩, ⟨rfl, rfl⟩, ⟨rfl, rfl⟩, ⟨congrArg (fun z => AV.osl 26 0 z false) gL, rfl⟩, ⟨rfl, rfl⟩, trivial⟩ ⟨⟨rfl, congrArg (fun z => some (Blk.arr z 1)) (growS (g := writeG m b addr) (row := rowB) (x := m.data.toList.getD (((k + 1) : Nat) : Int).toNat 0) (by unfold writeG; rw [if_neg h4]; rfl)), rfl⟩, trivial⟩ rfl, (by omega), (by omega)⟩
  ·skip
   refine cExit ?_
   refine cSeq ?_
   refine cR ?_
   refine rO 41 (.osl 0 0 (k + 1) false) ?_
   refine rStr (upto (writeG m b addr) (k + 1)) (d := 42) rfl rfl rfl (Nat.le_of_eq gF) (by rw [gT]; exact bytesOfRows_map _) ?_
   refine rO 6 (.v (.string (⟨(upto (writeG m b addr) (k + 1)).toArray⟩ : ByteArray))) ?_
   refine rE 11 ?_
   refine cRet ?_
   exact fS rfl (by rw [← writeG_eq m b addr hr]; rw [show m.size = k + 1 by omega])
theorem zero_rows (n : Nat) : bytesOfRows (List.take n (List.drop 0 (List.replicate n [AV.v (.int .u8 0)]))) = some (List.replicate n (0 : UInt8)) := by
 rw [List.drop_zero, List.take_of_length_le (by simp)]
 have : List.replicate n [AV.v (.int .u8 0)] = (List.replicate n (0 : UInt8)).map fun b => [.v (.int .u8 (b.toNat : Int))] := by simp
 rw [this]
 exact bytesOfRows_map _
theorem clean_sz (m : ByteArray) (j : Nat) (hm : m.size ≤ 256) (hj : j ≤ 4) : ((m.size + (⟨(List.replicate (16 * 2 ^ j - m.size) (0 : UInt8)).toArray⟩ : ByteArray).size : Nat) : Int) ≤ IntKind.i64.max := by
 have p5 := Nat.pow_le_pow_right (n := 2) (by decide) hj
 have e : (⟨(List.replicate (16 * 2 ^ j - m.size) (0 : UInt8)).toArray⟩ : ByteArray).size = 16 * 2 ^ j - m.size := by
  show (List.replicate (16 * 2 ^ j - m.size) (0 : UInt8)).toArray.size = _
  simp
 rw [e]
 simp only [IntKind.max, IntKind.signed, IntKind.bits]
 simp
 omega
theorem extract_all (m : ByteArray) : m.extract 0 m.size = m := by simp
theorem app_zero (x : ByteArray) (n : Nat) : x ++ (⟨(List.replicate n (0 : UInt8)).toArray⟩ : ByteArray) = (⟨(x.data.toList ++ List.replicate n 0).toArray⟩ : ByteArray) := by
 refine ByteArray.ext ?_
 rw [ByteArray.data_append]
 simp
theorem clean_is (m : ByteArray) (j : Nat) (hm : ¬ m.size > 256) (h1 : ¬ 16 * 2 ^ j < m.size) (hj : j ≤ 4) (h2 : j = 0 ∨ 16 * 2 ^ (j - 1) < m.size) : m ++ (⟨(List.replicate (16 * 2 ^ j - m.size) (0 : UInt8)).toArray⟩ : ByteArray) = cleanP m := by
 rw [app_zero]
 unfold cleanP
 rw [Nat.min_eq_left (by omega), extract_all, upS_is hj (by omega) h2]
theorem clean_isC (m : ByteArray) (j : Nat) (hm : m.size > 256) (h1 : ¬ 16 * 2 ^ j < (m.extract 0 256).size) (hj : j ≤ 4) (h2 : j = 0 ∨ 16 * 2 ^ (j - 1) < (m.extract 0 256).size) : m.extract 0 256 ++ (⟨(List.replicate (16 * 2 ^ j - (m.extract 0 256).size) (0 : UInt8)).toArray⟩ : ByteArray) = cleanP m := by
 have e : (m.extract 0 256).size = 256 := by rw [ByteArray.size_extract]; omega
 rw [app_zero]
 unfold cleanP
 rw [Nat.min_eq_right (by omega), ← upS_is (n := 256) hj (by omega) (by omega), e]

theorem clean_up {n j : Nat} (hn : n ≤ 256) (h4 : j ≤ 4) (h : 16 * 2 ^ j < n) : j + 1 ≤ 4 := clean_lt (n := n) h4 (by omega)
set_option maxRecDepth 100000 in
set_option maxHeartbeats 4000000 in
theorem rClean (m : ByteArray) : DCall C0 17 [.v (.string m)] (.v (.string (cleanP m))) := by
 refine DCall.intro c0Ok Try.func17 rfl rfl (by kernel_rfl) rfl ?_
 refine cSeq ?_
 refine cR ?_
 refine rO 2 (.v (.string (⟨#[]⟩))) ?_
 refine rE 1 ?_
 refine cSeq ?_
 refine cSeq ?_
 refine cR ?_
 refine rO 5 (.v (.string m)) ?_
 refine rO 6 (vN m.size) ?_
 refine rX 7 (vB (decide (m.size > 256))) (okB (gtN _ _)) ?_
 refine rE 4 ?_
 refine cPr (m.size > 256) pDec (fun h1 => ?_) (fun h1 => ?_)
 ·skip
  refine cR ?_
  refine rO 8 (.v (.string m)) ?_
  refine rNeed (d := 9) (x := .v (.string (m.extract 0 256))) rfl rfl rfl (⟨by decide, by show (0 : Int) ≤ 256; decide, by show (256 : Int) ≤ ((m.size : Nat) : Int); omega⟩) ?_
  refine rO 0 (.v (.string (m.extract 0 256))) ?_
  refine rE 7 ?_
  refine cSeq ?_
  refine cR ?_
  refine rO 3 (vI 16) ?_
  refine rE 8 ?_
  refine cSeq ?_
  refine cBlock ?_
  have hM : (m.extract 0 256).size ≤ 256 := by rw [ByteArray.size_extract]; omega
  refine cLoop (κ := Nat) (fun j => ⟨slotsF [(0, .v (.string (m.extract 0 256))), (3, vN (16 * 2 ^ j))], heapF [], 8⟩) (fun j => j ≤ 4 ∧ (j = 0 ∨ 16 * 2 ^ (j - 1) < (m.extract 0 256).size)) (fun j => 4 - j) 0 (fun s => s) (Weak.of_lists (fun s => s) ⟨⟨rfl, rfl⟩, ⟨rfl, rfl⟩, trivial⟩ trivial rfl) (⟨by decide, .inl rfl⟩) ?_
  intro j hj
  refine cSeq ?_
  refine cSeq ?_
  refine cR ?_
  refine rO 10 (vN (16 * 2 ^ j)) ?_
  refine rO 11 (.v (.string (m.extract 0 256))) ?_
  refine rO 12 (vN ((m.extract 0 256).size)) ?_
  refine rX 13 (vB (decide ((16 * 2 ^ j) < ((m.extract 0 256).size)))) (okB (ltN _ _)) ?_
  refine rE 12 ?_
  refine cPr ((16 * 2 ^ j) < ((m.extract 0 256).size)) pDec (fun h2 => ?_) (fun h2 => ?_)
  ·skip
   refine cSkip ?_
   refine cBlock ?_
   refine cR ?_
   refine rO 14 (vN (16 * 2 ^ j)) ?_
   refine rOk (d := 15) (x := vN (16 * 2 ^ (j + 1))) rfl rfl (by show Res.ok (.v (.int .i64 (IntKind.wrap .i64 (2 * ((16 * 2 ^ j : Nat) : Int))))) = _; have p5 := Nat.pow_le_pow_right (n := 2) (by decide) hj.1; rw [wrap_i64 (by omega) (by omega)]; congr 3; rw [Nat.pow_succ]; omega) ?_
   refine rO 3 (vN (16 * 2 ^ (j + 1))) ?_
   refine rE 15 ?_
   refine ⟨j + 1, fun s => s, Weak.of_lists (fun s => s) ⟨⟨rfl, rfl⟩, ⟨rfl, rfl⟩, trivial⟩ trivial rfl, ⟨clean_up hM hj.1 h2, .inr (by simpa using h2)⟩, (by have := clean_up hM hj.1 h2; omega)⟩
  ·skip
   refine cExit ?_
   refine cSeq ?_
   refine cR ?_
   refine rO 16 (vN (16 * 2 ^ j)) ?_
   refine rO 17 (.v (.string (m.extract 0 256))) ?_
   refine rO 18 (vN ((m.extract 0 256).size)) ?_
   refine rOk (d := 19) (x := vN (16 * 2 ^ j - (m.extract 0 256).size)) rfl rfl (okN (by have p5 := Nat.pow_le_pow_right (n := 2) (by decide) hj.1; rw [wrap_i64 (by omega) (by omega)]; omega)) ?_
   refine rFx (d := 20) (x := .osl 16 0 (16 * 2 ^ j - (m.extract 0 256).size) false) (h' := upd _ 16 (some (.arr (List.replicate (16 * 2 ^ j - (m.extract 0 256).size) [AV.v (.int .u8 0)]) 1))) rfl rfl (rfl) (by have p5 := Nat.pow_le_pow_right (n := 2) (by decide) hj.1; refine ⟨by omega, by omega, ?_⟩; simp only [capMax]; omega) ?_
   refine rO 4 (.osl 16 0 (16 * 2 ^ j - (m.extract 0 256).size) false) ?_
   refine rE 18 ?_
   refine cSeq ?_
   refine cR ?_
   refine rO 21 (.v (.string (m.extract 0 256))) ?_
   refine rO 22 (.osl 16 0 (16 * 2 ^ j - (m.extract 0 256).size) false) ?_
   refine rStr (List.replicate (16 * 2 ^ j - (m.extract 0 256).size) (0 : UInt8)) (d := 23) rfl rfl rfl (by show 0 + (16 * 2 ^ j - (m.extract 0 256).size) ≤ (List.replicate (16 * 2 ^ j - (m.extract 0 256).size) [AV.v (.int .u8 0)]).length; rw [List.length_replicate]; omega) (zero_rows _) ?_
   refine rNeed (d := 24) (x := .v (.string (cleanP m))) rfl rfl (congrArg (fun x => Res.need _ (.v (.string x))) (clean_isC m j (by omega) (by omega) hj.1 hj.2)) (clean_sz (m.extract 0 256) j hM hj.1) ?_
   refine rO 2 (.v (.string (cleanP m))) ?_
   refine rE 23 ?_
   refine cRet ?_
   exact finTA rfl trivial rfl rfl
 ·skip
  refine cSkip ?_
  refine cSeq ?_
  refine cR ?_
  refine rO 3 (vI 16) ?_
  refine rE 5 ?_
  refine cSeq ?_
  refine cBlock ?_
  have hM : m.size ≤ 256 := by omega
  refine cLoop (κ := Nat) (fun j => ⟨slotsF [(0, .v (.string m)), (3, vN (16 * 2 ^ j))], heapF [], 5⟩) (fun j => j ≤ 4 ∧ (j = 0 ∨ 16 * 2 ^ (j - 1) < m.size)) (fun j => 4 - j) 0 (fun s => s) (Weak.of_lists (fun s => s) ⟨⟨rfl, rfl⟩, ⟨rfl, rfl⟩, trivial⟩ trivial rfl) (⟨by decide, .inl rfl⟩) ?_
  intro j hj
  refine cSeq ?_
  refine cSeq ?_
  refine cR ?_
  refine rO 10 (vN (16 * 2 ^ j)) ?_
  refine rO 11 (.v (.string m)) ?_
  refine rO 12 (vN m.size) ?_
  refine rX 13 (vB (decide ((16 * 2 ^ j) < m.size))) (okB (ltN _ _)) ?_
  refine rE 9 ?_
  refine cPr ((16 * 2 ^ j) < m.size) pDec (fun h3 => ?_) (fun h3 => ?_)
  ·skip
   refine cSkip ?_
   refine cBlock ?_
   refine cR ?_
   refine rO 14 (vN (16 * 2 ^ j)) ?_
   refine rOk (d := 15) (x := vN (16 * 2 ^ (j + 1))) rfl rfl (by show Res.ok (.v (.int .i64 (IntKind.wrap .i64 (2 * ((16 * 2 ^ j : Nat) : Int))))) = _; have p5 := Nat.pow_le_pow_right (n := 2) (by decide) hj.1; rw [wrap_i64 (by omega) (by omega)]; congr 3; rw [Nat.pow_succ]; omega) ?_
   refine rO 3 (vN (16 * 2 ^ (j + 1))) ?_
   refine rE 12 ?_
   refine ⟨j + 1, fun s => s, Weak.of_lists (fun s => s) ⟨⟨rfl, rfl⟩, ⟨rfl, rfl⟩, trivial⟩ trivial rfl, ⟨clean_up hM hj.1 h3, .inr (by simpa using h3)⟩, (by have := clean_up hM hj.1 h3; omega)⟩
  ·skip
   refine cExit ?_
   refine cSeq ?_
   refine cR ?_
   refine rO 16 (vN (16 * 2 ^ j)) ?_
   refine rO 17 (.v (.string m)) ?_
   refine rO 18 (vN m.size) ?_
   refine rOk (d := 19) (x := vN (16 * 2 ^ j - m.size)) rfl rfl (okN (by have p5 := Nat.pow_le_pow_right (n := 2) (by decide) hj.1; rw [wrap_i64 (by omega) (by omega)]; omega)) ?_
   refine rFx (d := 20) (x := .osl 13 0 (16 * 2 ^ j - m.size) false) (h' := upd _ 13 (some (.arr (List.replicate (16 * 2 ^ j - m.size) [AV.v (.int .u8 0)]) 1))) rfl rfl (rfl) (by have p5 := Nat.pow_le_pow_right (n := 2) (by decide) hj.1; refine ⟨by omega, by omega, ?_⟩; simp only [capMax]; omega) ?_
   refine rO 4 (.osl 13 0 (16 * 2 ^ j - m.size) false) ?_
   refine rE 15 ?_
   refine cSeq ?_
   refine cR ?_
   refine rO 21 (.v (.string m)) ?_
   refine rO 22 (.osl 13 0 (16 * 2 ^ j - m.size) false) ?_
   refine rStr (List.replicate (16 * 2 ^ j - m.size) (0 : UInt8)) (d := 23) rfl rfl rfl (by show 0 + (16 * 2 ^ j - m.size) ≤ (List.replicate (16 * 2 ^ j - m.size) [AV.v (.int .u8 0)]).length; rw [List.length_replicate]; omega) (zero_rows _) ?_
   refine rNeed (d := 24) (x := .v (.string (cleanP m))) rfl rfl (congrArg (fun x => Res.need _ (.v (.string x))) (clean_is m j (by omega) (by omega) hj.1 hj.2)) (clean_sz m j hM hj.1) ?_
   refine rO 2 (.v (.string (cleanP m))) ?_
   refine rE 20 ?_
   refine cRet ?_
   exact finTA rfl trivial rfl rfl
set_option maxRecDepth 100000 in
set_option maxHeartbeats 4000000 in
theorem rRight (size addr n : Nat) (hs : size ≤ 256) (ha : addr ≤ 4294967295) (hn : n ≤ 4) : DCall C0 44 [vN size, vU addr, vN n] (.v (.bool (rightP (size : Int) addr (n : Int)))) := by
 refine DCall.intro c0Ok Try.func44 rfl rfl (by kernel_rfl) rfl ?_
 refine cSeq ?_
 refine cR ?_
 refine rO 6 (vB false) ?_
 refine rE 1 ?_
 refine cSeq ?_
 refine cSeq ?_
 refine cR ?_
 refine rO 7 (vN n) ?_
 refine rX 8 (vB (n != 1)) (okB (neN _ _)) ?_
 refine rO 9 (vB (n != 1)) ?_
 refine gO 10 (n != 1) (vN n) ?_
 refine gOkS (d := 11) (x := vB (n != 2)) (g := n != 1) rfl rfl rfl rfl (fun h => h) rfl (okB (neN _ _)) ?_
 refine rNeed (d := 12) (x := vB (cond2 (n != 1) (n != 2) false)) rfl rfl rfl (fun h => h) ?_
 refine rO 13 (vB (cond2 (n != 1) (n != 2) false)) ?_
 refine gO 14 (cond2 (n != 1) (n != 2) false) (vN n) ?_
 refine gOkS (d := 15) (x := vB (n != 4)) (g := cond2 (n != 1) (n != 2) false) rfl rfl rfl rfl (fun h => h) rfl (okB (neN _ _)) ?_
 refine rNeed (d := 16) (x := vB (cond2 (cond2 (n != 1) (n != 2) false) (n != 4) false)) rfl rfl rfl (fun h => h) ?_
 refine rE 11 ?_
 refine cPr ((¬ n = 1 ∧ ¬ n = 2) ∧ ¬ n = 4) (c2and _ _ (c2and _ _ pNe pNe) pNe) (fun h1 => ?_) (fun h1 => ?_)
 ·skip
  refine cSeq ?_
  refine cR ?_
  refine rO 6 (vB false) ?_
  refine rE 12 ?_
  refine cRet ?_
  exact fB rfl (by have hv : n = 0 ∨ n = 1 ∨ n = 2 ∨ n = 3 ∨ n = 4 := (by omega); rw [Bool.eq_iff_iff]; rcases hv with rfl | rfl | rfl | rfl | rfl <;> simp [c2, rightP] <;> omega)
 ·skip
  refine cSkip ?_
  refine cSeq ?_
  refine cR ?_
  refine rO 17 (vU addr) ?_
  refine rO 18 (vN n) ?_
  refine rX 19 (vU n) (okI (modI hn rfl)) ?_
  have b1 : addr % n ≤ 4294967295 := Nat.le_trans (Nat.mod_le _ _) ha
  refine rNeed (d := 20) (x := vU (addr % n)) rfl rfl rfl (by omega) ?_
  refine rX 21 (vB ((addr % n) == 0)) (okB (eqN _ _)) ?_
  refine rO 22 (vB ((addr % n) == 0)) ?_
  refine gO 23 ((addr % n) == 0) (vN size) ?_
  refine gOkS (d := 24) (x := vB (decide (size ≥ 0))) (g := (addr % n) == 0) rfl rfl rfl rfl (fun h => h) rfl (okB (geN _ _)) ?_
  refine rNeed (d := 25) (x := vB (cond2 ((addr % n) == 0) (decide (size ≥ 0)) false)) rfl rfl rfl (fun h => h) ?_
  refine rO 26 (vB (cond2 ((addr % n) == 0) (decide (size ≥ 0)) false)) ?_
  refine gO 27 (cond2 ((addr % n) == 0) (decide (size ≥ 0)) false) (vU addr) ?_
  refine gOkS (d := 28) (x := .v (.int .u64 ((addr : Nat) : Int))) (g := cond2 ((addr % n) == 0) (decide (size ≥ 0)) false) rfl rfl rfl rfl (fun h => h) rfl (okI (modI ha rfl)) ?_
  refine gO 29 (cond2 ((addr % n) == 0) (decide (size ≥ 0)) false) (vN n) ?_
  refine gOkS (d := 30) (x := .v (.int .u64 ((n : Nat) : Int))) (g := cond2 ((addr % n) == 0) (decide (size ≥ 0)) false) rfl rfl rfl rfl (fun h => h) rfl (okI (modI hn rfl)) ?_
  have b2 : addr + n ≤ 4294967299 := Nat.add_le_add ha hn
  refine gOkS (d := 31) (x := .v (.int .u64 ((addr + n : Nat) : Int))) (g := cond2 ((addr % n) == 0) (decide (size ≥ 0)) false) rfl rfl rfl rfl (fun h => by simp_all) rfl (okI (modI b2 rfl)) ?_
  refine gO 32 (cond2 ((addr % n) == 0) (decide (size ≥ 0)) false) (vN size) ?_
  refine gOkS (d := 33) (x := .v (.int .u64 ((size : Nat) : Int))) (g := cond2 ((addr % n) == 0) (decide (size ≥ 0)) false) rfl rfl rfl rfl (fun h => h) rfl (okI (modI hs rfl)) ?_
  refine gOkS (d := 34) (x := vB (decide ((addr + n) ≤ size))) (g := cond2 ((addr % n) == 0) (decide (size ≥ 0)) false) rfl rfl rfl rfl (fun h => by simp_all) rfl (okB (leN _ _)) ?_
  refine rNeed (d := 35) (x := vB (cond2 (cond2 ((addr % n) == 0) (decide (size ≥ 0)) false) (decide ((addr + n) ≤ size)) false)) rfl rfl rfl (fun h => h) ?_
  refine rO 6 (vB (cond2 (cond2 ((addr % n) == 0) (decide (size ≥ 0)) false) (decide ((addr + n) ≤ size)) false)) ?_
  refine rE 31 ?_
  refine cRet ?_
  exact fB rfl (by have hv : n = 0 ∨ n = 1 ∨ n = 2 ∨ n = 3 ∨ n = 4 := (by omega); rw [Bool.eq_iff_iff]; rcases hv with rfl | rfl | rfl | rfl | rfl <;> simp [c2, rightP] <;> omega)
theorem loadP_no {op : Int} {s : ByteArray} (h : ¬ kindOf op = 3 ∨ ¬ s.size = sizeOf' op) : loadP op s = 0 := by
 unfold loadP; exact if_neg (fun e => h.elim (fun q => q e.1) fun q => q e.2)
theorem loadP_of {op : Int} {s : ByteArray} (h : ¬ (¬ kindOf op = 3 ∨ ¬ s.size = sizeOf' op)) : loadP op s = (if op = 11 then sext (joinTo s.data.toList s.size) 8 else if op = 12 then sext (joinTo s.data.toList s.size) 16 else joinTo s.data.toList s.size) := by
 unfold loadP; exact if_pos ⟨Classical.byContradiction fun q => h (.inl q), Classical.byContradiction fun q => h (.inr q)⟩

set_option maxRecDepth 100000 in
set_option maxHeartbeats 4000000 in
theorem rLoad (op : Int) (s : ByteArray) : DCall C0 48 [vI op, .v (.string s)] (.v (.int .u32 ((loadP op s : Nat) : Int))) := by
 refine DCall.intro c0Ok Try.func48 rfl rfl (by kernel_rfl) rfl ?_
 refine cSeq ?_
 refine cR ?_
 refine rO 4 (.v (.int .u32 0)) ?_
 refine rE 1 ?_
 refine cSeq ?_
 refine cSeq ?_
 refine cR ?_
 refine rO 7 (vI op) ?_
 refine rCall (args := [vI op]) (d := 8) (x := vN (kindOf op)) rfl rfl rfl rfl (.inl rfl) rfl (rKind op) ?_
 refine rX 9 (vB ((kindOf op) != 3)) (okB (neN _ _)) ?_
 refine rO 10 (vB ((kindOf op) != 3)) ?_
 refine gO 11 (!((kindOf op) != 3)) (.v (.string s)) ?_
 refine gOkS (d := 12) (x := vN s.size) (g := !((kindOf op) != 3)) rfl rfl rfl rfl (fun h => h) rfl rfl ?_
 refine gO 13 (!((kindOf op) != 3)) (vI op) ?_
 refine gCallS (args := [vI op]) (d := 14) (x := vN (sizeOf' op)) (g := !((kindOf op) != 3)) rfl rfl rfl rfl (fun h => h) rfl rfl rfl (.inl rfl) rfl (fun hg => rSize op) ?_
 refine gOkS (d := 15) (x := vB (s.size != (sizeOf' op))) (g := !((kindOf op) != 3)) rfl rfl rfl rfl (fun h => by simp_all) rfl (okB (neN _ _)) ?_
 refine rNeed (d := 16) (x := vB (cond2 ((kindOf op) != 3) true (s.size != (sizeOf' op)))) rfl rfl rfl (by simp) ?_
 refine rE 11 ?_
 refine cPr (¬ (kindOf op) = 3 ∨ ¬ s.size = (sizeOf' op)) (c2or _ _ pNe pNe) (fun h1 => ?_) (fun h1 => ?_)
 ·skip
  refine cSeq ?_
  refine cR ?_
  refine rO 4 (.v (.int .u32 0)) ?_
  refine rE 12 ?_
  refine cRet ?_
  exact fI rfl (by rw [loadP_no h1]; rfl)
 ·skip
  refine cSkip ?_
  refine cSeq ?_
  refine cR ?_
  refine rO 18 (.v (.string s)) ?_
  refine rCall (args := [.v (.string s)]) (d := 19) (x := .tup [vU (joinTo s.data.toList s.size), vI 0]) rfl rfl rfl rfl (.inl rfl) rfl (rJoin s (by have := size_le4 op; omega)) ?_
  refine rO 17 (.tup [vU (joinTo s.data.toList s.size), vI 0]) ?_
  refine rO 20 (vU (joinTo s.data.toList s.size)) ?_
  refine rO 21 (vI 0) ?_
  refine rO 5 (vU (joinTo s.data.toList s.size)) ?_
  refine rO 6 (vI 0) ?_
  refine rE 18 ?_
  refine cSeq ?_
  refine cSeq ?_
  refine cR ?_
  refine rO 22 (vI op) ?_
  refine rO 23 (vB (op == 11)) ?_
  refine rE 20 ?_
  refine cEq op 11 (fun h2 => ?_) (fun h2 => ?_)
  ·skip
   refine cSeq ?_
   refine cR ?_
   refine rO 24 (vU (joinTo s.data.toList s.size)) ?_
   refine rCall (args := [vU (joinTo s.data.toList s.size), vI 8]) (d := 25) (x := vU (sext (joinTo s.data.toList s.size) 8)) rfl rfl rfl rfl (.inl rfl) rfl (rSext _ 8 (by decide) (by decide)) ?_
   refine rO 4 (vU (sext (joinTo s.data.toList s.size) 8)) ?_
   refine rE 23 ?_
   refine cRet ?_
   exact fI rfl (by rw [loadP_of h1, if_pos h2])
  ·skip
   refine cSkip ?_
   refine cSeq ?_
   refine cSeq ?_
   refine cR ?_
   refine rO 26 (vI op) ?_
   refine rO 27 (vB (op == 12)) ?_
   refine rE 22 ?_
   refine cEq op 12 (fun h3 => ?_) (fun h3 => ?_)
   ·skip
    refine cSeq ?_
    refine cR ?_
    refine rO 28 (vU (joinTo s.data.toList s.size)) ?_
    refine rCall (args := [vU (joinTo s.data.toList s.size), vI 16]) (d := 29) (x := vU (sext (joinTo s.data.toList s.size) 16)) rfl rfl rfl rfl (.inl rfl) rfl (rSext _ 16 (by decide) (by decide)) ?_
    refine rO 4 (vU (sext (joinTo s.data.toList s.size) 16)) ?_
    refine rE 25 ?_
    refine cRet ?_
    exact fI rfl (by rw [loadP_of h1, if_neg h2, if_pos h3])
   ·skip
    refine cSkip ?_
    refine cSeq ?_
    refine cR ?_
    refine rO 30 (vU (joinTo s.data.toList s.size)) ?_
    refine rO 4 (vU (joinTo s.data.toList s.size)) ?_
    refine rE 24 ?_
    refine cRet ?_
    exact fI rfl (by rw [loadP_of h1, if_neg h2, if_neg h3])
set_option maxRecDepth 100000 in
set_option maxHeartbeats 4000000 in
theorem rTook (op : Int) (a b : Nat) (ha : a ≤ 4294967295) (hb : b ≤ 4294967295) : DCall C0 50 [vI op, vU a, vU b] (.v (.int .i64 ((tookP op a b : Nat) : Int))) := by
 refine DCall.intro c0Ok Try.func50 rfl rfl (by kernel_rfl) rfl ?_
 have hsa : sizeP op a ≤ 4294967295 := Nat.le_of_lt_succ (sizeP_lt op a (Nat.lt_succ_of_le ha))
 have hsb : sizeP op b ≤ 4294967295 := Nat.le_of_lt_succ (sizeP_lt op b (Nat.lt_succ_of_le hb))
 refine cSeq ?_
 refine cR ?_
 refine rO 6 (vI 0) ?_
 refine rE 1 ?_
 refine cSeq ?_
 refine cSeq ?_
 refine cR ?_
 refine rO 9 (vI op) ?_
 refine rO 10 (vB (decide (op < 42))) ?_
 refine rO 11 (vB (decide (op < 42))) ?_
 refine gO 12 (!(decide (op < 42))) (vI op) ?_
 refine gOkS (d := 13) (x := vB (decide (op > 45))) (g := !(decide (op < 42))) rfl rfl rfl rfl (fun h => h) rfl rfl ?_
 refine rNeed (d := 14) (x := vB (cond2 (decide (op < 42)) true (decide (op > 45)))) rfl rfl rfl (by simp) ?_
 refine rE 7 ?_
 refine cPr (op < 42 ∨ op > 45) (c2or _ _ pDec pDec) (fun h1 => ?_) (fun h1 => ?_)
 ·skip
  refine cSeq ?_
  refine cR ?_
  refine rO 6 (vI 0) ?_
  refine rE 8 ?_
  refine cRet ?_
  exact fI rfl (by unfold tookP; rw [if_pos (by omega)]; rfl)
 ·skip
  refine cSkip ?_
  refine cSeq ?_
  refine cR ?_
  refine rO 15 (vI op) ?_
  refine rO 16 (vU a) ?_
  refine rCall (args := [vI op, vU a]) (d := 17) (x := vN (sizeP op a)) rfl rfl rfl rfl (.inl rfl) rfl (rSize4 op a ha) ?_
  refine rO 7 (vN (sizeP op a)) ?_
  refine rE 11 ?_
  refine cSeq ?_
  refine cR ?_
  refine rO 18 (vI op) ?_
  refine rO 19 (vU b) ?_
  refine rCall (args := [vI op, vU b]) (d := 20) (x := vN (sizeP op b)) rfl rfl rfl rfl (.inl rfl) rfl (rSize4 op b hb) ?_
  refine rO 8 (vN (sizeP op b)) ?_
  refine rE 15 ?_
  refine cSeq ?_
  refine cSeq ?_
  refine cR ?_
  refine rO 21 (vU b) ?_
  refine rX 22 (vB (b == 0)) (okB (eqN _ _)) ?_
  refine rO 23 (vB (b == 0)) ?_
  refine gO 24 (!(b == 0)) (vN (sizeP op a)) ?_
  refine gO 25 (!(b == 0)) (vN (sizeP op b)) ?_
  refine gOkS (d := 26) (x := vB (decide ((sizeP op a) < (sizeP op b)))) (g := !(b == 0)) rfl rfl rfl rfl (fun h => by simp_all) rfl (okB (ltN _ _)) ?_
  refine rNeed (d := 27) (x := vB (cond2 (b == 0) true (decide ((sizeP op a) < (sizeP op b))))) rfl rfl rfl (by simp) ?_
  refine rE 22 ?_
  refine cPr (b = 0 ∨ (sizeP op a) < (sizeP op b)) (c2or _ _ pEq pDec) (fun h2 => ?_) (fun h2 => ?_)
  ·skip
   refine cSeq ?_
   refine cR ?_
   refine rO 6 (vI 2) ?_
   refine rE 23 ?_
   refine cRet ?_
   exact fI rfl (by unfold tookP; rw [if_neg (by omega), if_pos (by omega)]; rfl)
  ·skip
   refine cSkip ?_
   refine cSeq ?_
   refine cR ?_
   refine rO 28 (vN (sizeP op a)) ?_
   refine rX 29 (vU (sizeP op a)) (okI (modI hsa rfl)) ?_
   refine rCall (args := [vU (sizeP op a)]) (d := 30) (x := vN (lenP (sizeP op a))) rfl rfl rfl rfl (.inl rfl) rfl (rBits _ hsa) ?_
   have b1 : 3 + (lenP (sizeP op a)) ≤ 35 := Nat.add_le_add (Nat.le_refl 3) (lenP_le _ (Nat.lt_succ_of_le hsa))
   refine rX 31 (vN (3 + (lenP (sizeP op a)))) (okI (wrapI64 b1 rfl)) ?_
   refine rO 32 (vN (sizeP op b)) ?_
   refine rX 33 (vU (sizeP op b)) (okI (modI hsb rfl)) ?_
   refine rCall (args := [vU (sizeP op b)]) (d := 34) (x := vN (lenP (sizeP op b))) rfl rfl rfl rfl (.inl rfl) rfl (rBits _ hsb) ?_
   refine rO 35 (vI (IntKind.wrap .i64 (((3 + (lenP (sizeP op a)) : Nat) : Int) - ((lenP (sizeP op b) : Nat) : Int)))) ?_
   refine rO 6 (vI (IntKind.wrap .i64 (((3 + (lenP (sizeP op a)) : Nat) : Int) - ((lenP (sizeP op b) : Nat) : Int)))) ?_
   refine rE 31 ?_
   refine cRet ?_
   exact fI rfl (by unfold tookP; rw [if_neg (by omega), if_neg (by omega)]; have l1 := lenP_le _ (Nat.lt_succ_of_le hsa); have l3 := lenP_mono (sizeP op b) (sizeP op a) (by omega) (by omega) (by omega) (by have := sizeP_pos op b (by omega) (by omega); omega); rw [wrap_i64 (by omega) (by omega)]; omega)
theorem dp28 {op : Int} (a b : Nat) (h : op = 28 ∨ op = 19) : doP op a b = (a + b) % 4294967296 := by rcases h with rfl | rfl <;> simp [doP]
theorem dp29 {op : Int} (a b : Nat) (h : op = 29) : doP op a b = (a + 4294967296 - b) % 4294967296 := by subst h; simp [doP]
theorem dp37 {op : Int} (a b : Nat) (h : op = 37 ∨ op = 24) : doP op a b = a &&& b := by rcases h with rfl | rfl <;> simp [doP]
theorem dp36 {op : Int} (a b : Nat) (h : op = 36 ∨ op = 23) : doP op a b = a ||| b := by rcases h with rfl | rfl <;> simp [doP]
theorem dp33 {op : Int} (a b : Nat) (h : op = 33 ∨ op = 22) : doP op a b = a ^^^ b := by rcases h with rfl | rfl <;> simp [doP]
theorem dp30 {op : Int} (a b : Nat) (h : op = 30 ∨ op = 25) : doP op a b = a * 2 ^ (b % 32) % 4294967296 := by rcases h with rfl | rfl <;> simp [doP]
theorem dp34 {op : Int} (a b : Nat) (h : op = 34 ∨ op = 26) : doP op a b = a / 2 ^ (b % 32) := by rcases h with rfl | rfl <;> simp [doP]
theorem dp35 {op : Int} (a b : Nat) (h : op = 35 ∨ op = 27) : doP op a b = wordOf (sgn a / 2 ^ (b % 32)) := by rcases h with rfl | rfl <;> simp [doP]
theorem dp31 {op : Int} (a b : Nat) (h : op = 31 ∨ op = 20) : doP op a b = (if sgn a < sgn b then 1 else 0) := by rcases h with rfl | rfl <;> simp [doP]
theorem dp32 {op : Int} (a b : Nat) (h : op = 32 ∨ op = 21) : doP op a b = (if a < b then 1 else 0) := by rcases h with rfl | rfl <;> simp [doP]
theorem dp1 {op : Int} (a b : Nat) (h : op = 1) : doP op a b = b := by subst h; simp [doP]
theorem dp0 {op : Int} (a b : Nat) (h : ∀ k ∈ [28, 19, 29, 37, 24, 36, 23, 33, 22, 30, 25, 34, 26, 35, 27, 31, 20, 32, 21, 1], op ≠ k) : doP op a b = 0 := by
 simp only [List.mem_cons, List.not_mem_nil, or_false, forall_eq_or_imp, forall_eq] at h
 unfold doP
 (repeat rw [if_neg (by omega)])

set_option maxRecDepth 100000 in
set_option maxHeartbeats 4000000 in
theorem rDo (op : Int) (a b : Nat) (ha : a ≤ 4294967295) (hb : b ≤ 4294967295) : DCall C0 81 [vI op, vU a, vU b] (.v (.int .u32 ((doP op a b : Nat) : Int))) := by
 refine DCall.intro c0Ok Try.func81 rfl rfl (by kernel_rfl) rfl ?_
 refine cSeq ?_
 refine cR ?_
 refine rO 6 (.v (.int .u32 0)) ?_
 refine rE 1 ?_
 refine cSeq ?_
 refine cR ?_
 refine rO 8 (vU b) ?_
 have b1 : b % 32 ≤ 31 := Nat.le_of_lt_succ (Nat.mod_lt _ (by decide))
 refine rNeed (d := 9) (x := vU (b % 32)) rfl rfl rfl (by decide) ?_
 refine rX 10 (vN (b % 32)) (okI (wrapI64 b1 rfl)) ?_
 refine rO 7 (vN (b % 32)) ?_
 refine rE 5 ?_
 refine cSeq ?_
 refine cSeq ?_
 refine cR ?_
 refine rO 11 (vI op) ?_
 refine rE 6 ?_
 refine cBlock ?_
 refine cSeq ?_
 refine cSeq ?_
 refine cR ?_
 refine rO 13 (vB (op == 28)) ?_
 refine rO 12 (vB (op == 28)) ?_
 refine rE 8 ?_
 refine cEq op 28 (fun h1 => ?_) (fun h1 => ?_)
 ·skip
  refine cSkip ?_
  refine cT (pEq.2 h1) ?_
  refine cSeq ?_
  refine cR ?_
  refine rO 15 (vU a) ?_
  refine rX 16 (.v (.int .u64 ((a : Nat) : Int))) (okI (modI ha rfl)) ?_
  refine rO 17 (vU b) ?_
  refine rX 18 (.v (.int .u64 ((b : Nat) : Int))) (okI (modI hb rfl)) ?_
  have b2 : a + b ≤ 8589934590 := Nat.add_le_add ha hb
  refine rX 19 (.v (.int .u64 ((a + b : Nat) : Int))) (okI (modI b2 rfl)) ?_
  have b3 : (a + b) % 4294967296 ≤ 4294967295 := Nat.le_of_lt_succ (Nat.mod_lt _ (by decide))
  refine rNeed (d := 20) (x := .v (.int .u64 (((a + b) % 4294967296 : Nat) : Int))) rfl rfl rfl (by decide) ?_
  refine rX 21 (vU ((a + b) % 4294967296)) (okI (modI b3 rfl)) ?_
  refine rO 6 (vU ((a + b) % 4294967296)) ?_
  refine rE 16 ?_
  refine cRet ?_
  exact fI rfl (congrArg Int.ofNat (dp28 a b (by omega)).symm)
 ·skip
  refine cR ?_
  refine rO 14 (vB (op == 19)) ?_
  refine rO 12 (vB (op == 19)) ?_
  refine rE 10 ?_
  refine cEq op 19 (fun h2 => ?_) (fun h2 => ?_)
  ·skip
   refine cSeq ?_
   refine cR ?_
   refine rO 15 (vU a) ?_
   refine rX 16 (.v (.int .u64 ((a : Nat) : Int))) (okI (modI ha rfl)) ?_
   refine rO 17 (vU b) ?_
   refine rX 18 (.v (.int .u64 ((b : Nat) : Int))) (okI (modI hb rfl)) ?_
   have b4 : a + b ≤ 8589934590 := Nat.add_le_add ha hb
   refine rX 19 (.v (.int .u64 ((a + b : Nat) : Int))) (okI (modI b4 rfl)) ?_
   have b5 : (a + b) % 4294967296 ≤ 4294967295 := Nat.le_of_lt_succ (Nat.mod_lt _ (by decide))
   refine rNeed (d := 20) (x := .v (.int .u64 (((a + b) % 4294967296 : Nat) : Int))) rfl rfl rfl (by decide) ?_
   refine rX 21 (vU ((a + b) % 4294967296)) (okI (modI b5 rfl)) ?_
   refine rO 6 (vU ((a + b) % 4294967296)) ?_
   refine rE 18 ?_
   refine cRet ?_
   exact fI rfl (congrArg Int.ofNat (dp28 a b (by omega)).symm)
  ·skip
   refine cSeq ?_
   refine cR ?_
   refine rO 23 (vB (op == 29)) ?_
   refine rO 22 (vB (op == 29)) ?_
   refine rE 12 ?_
   refine cEq op 29 (fun h3 => ?_) (fun h3 => ?_)
   ·skip
    refine cSeq ?_
    refine cR ?_
    refine rO 24 (vU a) ?_
    refine rX 25 (.v (.int .u64 ((a : Nat) : Int))) (okI (modI ha rfl)) ?_
    have b6 : a + 4294967296 ≤ 8589934591 := Nat.add_le_add ha (Nat.le_refl 4294967296)
    refine rX 26 (.v (.int .u64 ((a + 4294967296 : Nat) : Int))) (okI (modI b6 rfl)) ?_
    refine rO 27 (vU b) ?_
    refine rX 28 (.v (.int .u64 ((b : Nat) : Int))) (okI (modI hb rfl)) ?_
    have b7 : ((a + 4294967296) + 18446744073709551616 - b) % 18446744073709551616 ≤ 18446744073709551615 := Nat.le_of_lt_succ (Nat.mod_lt _ (by decide))
    refine rX 29 (.v (.int .u64 ((((a + 4294967296) + 18446744073709551616 - b) % 18446744073709551616 : Nat) : Int))) (okI (subI64 hb rfl)) ?_
    have b8 : (((a + 4294967296) + 18446744073709551616 - b) % 18446744073709551616) % 4294967296 ≤ 4294967295 := Nat.le_of_lt_succ (Nat.mod_lt _ (by decide))
    refine rNeed (d := 30) (x := .v (.int .u64 (((((a + 4294967296) + 18446744073709551616 - b) % 18446744073709551616) % 4294967296 : Nat) : Int))) rfl rfl rfl (by decide) ?_
    refine rX 31 (vU ((((a + 4294967296) + 18446744073709551616 - b) % 18446744073709551616) % 4294967296)) (okI (modI b8 rfl)) ?_
    refine rO 6 (vU ((((a + 4294967296) + 18446744073709551616 - b) % 18446744073709551616) % 4294967296)) ?_
    refine rE 21 ?_
    refine cRet ?_
    exact fI rfl (congrArg Int.ofNat (by rw [dp29 a b (by omega)]; omega))
   ·skip
    refine cSeq ?_
    refine cSeq ?_
    refine cR ?_
    refine rO 33 (vB (op == 37)) ?_
    refine rO 32 (vB (op == 37)) ?_
    refine rE 14 ?_
    refine cEq op 37 (fun h4 => ?_) (fun h4 => ?_)
    ·skip
     refine cSkip ?_
     refine cT (pEq.2 h4) ?_
     refine cSeq ?_
     refine cR ?_
     refine rO 35 (vU a) ?_
     refine rO 36 (vU b) ?_
     refine rCall (args := [vI 1, vU a, vU b]) (d := 37) (x := vU (ofB (upto (bothG 1 a b) 32))) rfl rfl rfl rfl (.inl rfl) rfl (rBoth 1 a b ha hb) ?_
     refine rO 6 (vU (ofB (upto (bothG 1 a b) 32))) ?_
     refine rE 18 ?_
     refine cRet ?_
     exact fI rfl (congrArg Int.ofNat ((dp37 a b (by omega)).trans (both_and a b ha hb).symm).symm)
    ·skip
     refine cR ?_
     refine rO 34 (vB (op == 24)) ?_
     refine rO 32 (vB (op == 24)) ?_
     refine rE 16 ?_
     refine cEq op 24 (fun h5 => ?_) (fun h5 => ?_)
     ·skip
      refine cSeq ?_
      refine cR ?_
      refine rO 35 (vU a) ?_
      refine rO 36 (vU b) ?_
      refine rCall (args := [vI 1, vU a, vU b]) (d := 37) (x := vU (ofB (upto (bothG 1 a b) 32))) rfl rfl rfl rfl (.inl rfl) rfl (rBoth 1 a b ha hb) ?_
      refine rO 6 (vU (ofB (upto (bothG 1 a b) 32))) ?_
      refine rE 20 ?_
      refine cRet ?_
      exact fI rfl (congrArg Int.ofNat ((dp37 a b (by omega)).trans (both_and a b ha hb).symm).symm)
     ·skip
      refine cSeq ?_
      refine cSeq ?_
      refine cR ?_
      refine rO 39 (vB (op == 36)) ?_
      refine rO 38 (vB (op == 36)) ?_
      refine rE 18 ?_
      refine cEq op 36 (fun h6 => ?_) (fun h6 => ?_)
      ·skip
       refine cSkip ?_
       refine cT (pEq.2 h6) ?_
       refine cSeq ?_
       refine cR ?_
       refine rO 41 (vU a) ?_
       refine rO 42 (vU b) ?_
       refine rCall (args := [vI 2, vU a, vU b]) (d := 43) (x := vU (ofB (upto (bothG 2 a b) 32))) rfl rfl rfl rfl (.inl rfl) rfl (rBoth 2 a b ha hb) ?_
       refine rO 6 (vU (ofB (upto (bothG 2 a b) 32))) ?_
       refine rE 22 ?_
       refine cRet ?_
       exact fI rfl (congrArg Int.ofNat ((dp36 a b (by omega)).trans (both_or a b ha hb).symm).symm)
      ·skip
       refine cR ?_
       refine rO 40 (vB (op == 23)) ?_
       refine rO 38 (vB (op == 23)) ?_
       refine rE 20 ?_
       refine cEq op 23 (fun h7 => ?_) (fun h7 => ?_)
       ·skip
        refine cSeq ?_
        refine cR ?_
        refine rO 41 (vU a) ?_
        refine rO 42 (vU b) ?_
        refine rCall (args := [vI 2, vU a, vU b]) (d := 43) (x := vU (ofB (upto (bothG 2 a b) 32))) rfl rfl rfl rfl (.inl rfl) rfl (rBoth 2 a b ha hb) ?_
        refine rO 6 (vU (ofB (upto (bothG 2 a b) 32))) ?_
        refine rE 24 ?_
        refine cRet ?_
        exact fI rfl (congrArg Int.ofNat ((dp36 a b (by omega)).trans (both_or a b ha hb).symm).symm)
       ·skip
        refine cSeq ?_
        refine cSeq ?_
        refine cR ?_
        refine rO 45 (vB (op == 33)) ?_
        refine rO 44 (vB (op == 33)) ?_
        refine rE 22 ?_
        refine cEq op 33 (fun h8 => ?_) (fun h8 => ?_)
        ·skip
         refine cSkip ?_
         refine cT (pEq.2 h8) ?_
         refine cSeq ?_
         refine cR ?_
         refine rO 47 (vU a) ?_
         refine rO 48 (vU b) ?_
         refine rCall (args := [vI 3, vU a, vU b]) (d := 49) (x := vU (ofB (upto (bothG 3 a b) 32))) rfl rfl rfl rfl (.inl rfl) rfl (rBoth 3 a b ha hb) ?_
         refine rO 6 (vU (ofB (upto (bothG 3 a b) 32))) ?_
         refine rE 26 ?_
         refine cRet ?_
         exact fI rfl (congrArg Int.ofNat ((dp33 a b (by omega)).trans (both_xor a b ha hb).symm).symm)
        ·skip
         refine cR ?_
         refine rO 46 (vB (op == 22)) ?_
         refine rO 44 (vB (op == 22)) ?_
         refine rE 24 ?_
         refine cEq op 22 (fun h9 => ?_) (fun h9 => ?_)
         ·skip
          refine cSeq ?_
          refine cR ?_
          refine rO 47 (vU a) ?_
          refine rO 48 (vU b) ?_
          refine rCall (args := [vI 3, vU a, vU b]) (d := 49) (x := vU (ofB (upto (bothG 3 a b) 32))) rfl rfl rfl rfl (.inl rfl) rfl (rBoth 3 a b ha hb) ?_
          refine rO 6 (vU (ofB (upto (bothG 3 a b) 32))) ?_
          refine rE 28 ?_
          refine cRet ?_
          exact fI rfl (congrArg Int.ofNat ((dp33 a b (by omega)).trans (both_xor a b ha hb).symm).symm)
         ·skip
          refine cSeq ?_
          refine cSeq ?_
          refine cR ?_
          refine rO 51 (vB (op == 30)) ?_
          refine rO 50 (vB (op == 30)) ?_
          refine rE 26 ?_
          refine cEq op 30 (fun h10 => ?_) (fun h10 => ?_)
          ·skip
           refine cSkip ?_
           refine cT (pEq.2 h10) ?_
           refine cSeq ?_
           refine cR ?_
           refine rO 53 (vU a) ?_
           refine rO 54 (vN (b % 32)) ?_
           refine rCall (args := [vU a, vN (b % 32), .v (.int .u32 0)]) (d := 55) (x := vU (ofB (upto (movedG a (((b % 32 : Nat) : Int)) (0)) 32))) rfl rfl rfl rfl (.inl rfl) rfl (rMoved a (((b % 32 : Nat) : Int)) (0) ha (by omega) (by omega) (by omega)) ?_
           refine rO 6 (vU (ofB (upto (movedG a (((b % 32 : Nat) : Int)) (0)) 32))) ?_
           refine rE 30 ?_
           refine cRet ?_
           exact fI rfl (congrArg Int.ofNat ((dp30 a b (by omega)).trans (moved_sll a (b % 32) ha (by omega)).symm).symm)
          ·skip
           refine cR ?_
           refine rO 52 (vB (op == 25)) ?_
           refine rO 50 (vB (op == 25)) ?_
           refine rE 28 ?_
           refine cEq op 25 (fun h11 => ?_) (fun h11 => ?_)
           ·skip
            refine cSeq ?_
            refine cR ?_
            refine rO 53 (vU a) ?_
            refine rO 54 (vN (b % 32)) ?_
            refine rCall (args := [vU a, vN (b % 32), .v (.int .u32 0)]) (d := 55) (x := vU (ofB (upto (movedG a (((b % 32 : Nat) : Int)) (0)) 32))) rfl rfl rfl rfl (.inl rfl) rfl (rMoved a (((b % 32 : Nat) : Int)) (0) ha (by omega) (by omega) (by omega)) ?_
            refine rO 6 (vU (ofB (upto (movedG a (((b % 32 : Nat) : Int)) (0)) 32))) ?_
            refine rE 32 ?_
            refine cRet ?_
            exact fI rfl (congrArg Int.ofNat ((dp30 a b (by omega)).trans (moved_sll a (b % 32) ha (by omega)).symm).symm)
           ·skip
            refine cSeq ?_
            refine cSeq ?_
            refine cR ?_
            refine rO 57 (vB (op == 34)) ?_
            refine rO 56 (vB (op == 34)) ?_
            refine rE 30 ?_
            refine cEq op 34 (fun h12 => ?_) (fun h12 => ?_)
            ·skip
             refine cSkip ?_
             refine cT (pEq.2 h12) ?_
             refine cSeq ?_
             refine cR ?_
             refine rO 59 (vU a) ?_
             refine rO 60 (vN (b % 32)) ?_
             refine rOk (d := 61) (x := vI (-((b % 32 : Nat) : Int))) rfl rfl (okN (by rw [Int.zero_sub]; exact wrap_i64 (by omega) (by omega))) ?_
             refine rCall (args := [vU a, vI (-((b % 32 : Nat) : Int)), .v (.int .u32 0)]) (d := 62) (x := vU (ofB (upto (movedG a (-((b % 32 : Nat) : Int)) (0)) 32))) rfl rfl rfl rfl (.inl rfl) rfl (rMoved a (-((b % 32 : Nat) : Int)) (0) ha (by omega) (by omega) (by omega)) ?_
             refine rO 6 (vU (ofB (upto (movedG a (-((b % 32 : Nat) : Int)) (0)) 32))) ?_
             refine rE 35 ?_
             refine cRet ?_
             exact fI rfl (congrArg Int.ofNat ((dp34 a b (by omega)).trans (moved_srl a (b % 32) ha (by omega)).symm).symm)
            ·skip
             refine cR ?_
             refine rO 58 (vB (op == 26)) ?_
             refine rO 56 (vB (op == 26)) ?_
             refine rE 32 ?_
             refine cEq op 26 (fun h13 => ?_) (fun h13 => ?_)
             ·skip
              refine cSeq ?_
              refine cR ?_
              refine rO 59 (vU a) ?_
              refine rO 60 (vN (b % 32)) ?_
              refine rOk (d := 61) (x := vI (-((b % 32 : Nat) : Int))) rfl rfl (okN (by rw [Int.zero_sub]; exact wrap_i64 (by omega) (by omega))) ?_
              refine rCall (args := [vU a, vI (-((b % 32 : Nat) : Int)), .v (.int .u32 0)]) (d := 62) (x := vU (ofB (upto (movedG a (-((b % 32 : Nat) : Int)) (0)) 32))) rfl rfl rfl rfl (.inl rfl) rfl (rMoved a (-((b % 32 : Nat) : Int)) (0) ha (by omega) (by omega) (by omega)) ?_
              refine rO 6 (vU (ofB (upto (movedG a (-((b % 32 : Nat) : Int)) (0)) 32))) ?_
              refine rE 37 ?_
              refine cRet ?_
              exact fI rfl (congrArg Int.ofNat ((dp34 a b (by omega)).trans (moved_srl a (b % 32) ha (by omega)).symm).symm)
             ·skip
              refine cSeq ?_
              refine cSeq ?_
              refine cR ?_
              refine rO 64 (vB (op == 35)) ?_
              refine rO 63 (vB (op == 35)) ?_
              refine rE 34 ?_
              refine cEq op 35 (fun h14 => ?_) (fun h14 => ?_)
              ·skip
               refine cSkip ?_
               refine cT (pEq.2 h14) ?_
               refine cSeq ?_
               refine cR ?_
               refine rO 66 (vU a) ?_
               refine rO 67 (vN (b % 32)) ?_
               refine rOk (d := 68) (x := vI (-((b % 32 : Nat) : Int))) rfl rfl (okN (by rw [Int.zero_sub]; exact wrap_i64 (by omega) (by omega))) ?_
               refine rO 69 (vU a) ?_
               refine rCall (args := [vU a, vI 31]) (d := 70) (x := vU (a / 2 ^ 31 % 2)) rfl rfl rfl rfl (.inl rfl) rfl (rBit a 31 ha (by decide)) ?_
               refine rCall (args := [vU a, vI (-((b % 32 : Nat) : Int)), vU (a / 2 ^ 31 % 2)]) (d := 71) (x := vU (ofB (upto (movedG a (-((b % 32 : Nat) : Int)) (a / 2 ^ 31 % 2)) 32))) rfl rfl rfl rfl (.inl rfl) rfl (rMoved a (-((b % 32 : Nat) : Int)) (a / 2 ^ 31 % 2) ha (by omega) (by omega) (by omega)) ?_
               refine rO 6 (vU (ofB (upto (movedG a (-((b % 32 : Nat) : Int)) (a / 2 ^ 31 % 2)) 32))) ?_
               refine rE 41 ?_
               refine cRet ?_
               exact fI rfl (congrArg Int.ofNat ((dp35 a b (by omega)).trans (moved_sra a (b % 32) ha (by omega)).symm).symm)
              ·skip
               refine cR ?_
               refine rO 65 (vB (op == 27)) ?_
               refine rO 63 (vB (op == 27)) ?_
               refine rE 36 ?_
               refine cEq op 27 (fun h15 => ?_) (fun h15 => ?_)
               ·skip
                refine cSeq ?_
                refine cR ?_
                refine rO 66 (vU a) ?_
                refine rO 67 (vN (b % 32)) ?_
                refine rOk (d := 68) (x := vI (-((b % 32 : Nat) : Int))) rfl rfl (okN (by rw [Int.zero_sub]; exact wrap_i64 (by omega) (by omega))) ?_
                refine rO 69 (vU a) ?_
                refine rCall (args := [vU a, vI 31]) (d := 70) (x := vU (a / 2 ^ 31 % 2)) rfl rfl rfl rfl (.inl rfl) rfl (rBit a 31 ha (by decide)) ?_
                refine rCall (args := [vU a, vI (-((b % 32 : Nat) : Int)), vU (a / 2 ^ 31 % 2)]) (d := 71) (x := vU (ofB (upto (movedG a (-((b % 32 : Nat) : Int)) (a / 2 ^ 31 % 2)) 32))) rfl rfl rfl rfl (.inl rfl) rfl (rMoved a (-((b % 32 : Nat) : Int)) (a / 2 ^ 31 % 2) ha (by omega) (by omega) (by omega)) ?_
                refine rO 6 (vU (ofB (upto (movedG a (-((b % 32 : Nat) : Int)) (a / 2 ^ 31 % 2)) 32))) ?_
                refine rE 43 ?_
                refine cRet ?_
                exact fI rfl (congrArg Int.ofNat ((dp35 a b (by omega)).trans (moved_sra a (b % 32) ha (by omega)).symm).symm)
               ·skip
                refine cSeq ?_
                refine cSeq ?_
                refine cR ?_
                refine rO 73 (vB (op == 31)) ?_
                refine rO 72 (vB (op == 31)) ?_
                refine rE 38 ?_
                refine cEq op 31 (fun h16 => ?_) (fun h16 => ?_)
                ·skip
                 refine cSkip ?_
                 refine cT (pEq.2 h16) ?_
                 refine cSeq ?_
                 refine cR ?_
                 refine rO 75 (vU a) ?_
                 refine rCall (args := [vU a]) (d := 76) (x := vI (sgn a)) rfl rfl rfl rfl (.inl rfl) rfl (dSigned a ha) ?_
                 refine rO 77 (vU b) ?_
                 refine rCall (args := [vU b]) (d := 78) (x := vI (sgn b)) rfl rfl rfl rfl (.inl rfl) rfl (dSigned b hb) ?_
                 refine rO 79 (vB (decide ((sgn a) < (sgn b)))) ?_
                 refine rCall (args := [vB (decide ((sgn a) < (sgn b)))]) (d := 80) (x := vU (if (decide ((sgn a) < (sgn b))) = true then 1 else 0)) rfl rfl rfl rfl (.inl rfl) rfl (rOne _) ?_
                 refine rO 6 (vU (if (decide ((sgn a) < (sgn b))) = true then 1 else 0)) ?_
                 refine rE 45 ?_
                 refine cRet ?_
                 exact fI rfl (congrArg Int.ofNat (by rw [dp31 a b (by omega)]; simp only [decide_eq_true_eq]))
                ·skip
                 refine cR ?_
                 refine rO 74 (vB (op == 20)) ?_
                 refine rO 72 (vB (op == 20)) ?_
                 refine rE 40 ?_
                 refine cEq op 20 (fun h17 => ?_) (fun h17 => ?_)
                 ·skip
                  refine cSeq ?_
                  refine cR ?_
                  refine rO 75 (vU a) ?_
                  refine rCall (args := [vU a]) (d := 76) (x := vI (sgn a)) rfl rfl rfl rfl (.inl rfl) rfl (dSigned a ha) ?_
                  refine rO 77 (vU b) ?_
                  refine rCall (args := [vU b]) (d := 78) (x := vI (sgn b)) rfl rfl rfl rfl (.inl rfl) rfl (dSigned b hb) ?_
                  refine rO 79 (vB (decide ((sgn a) < (sgn b)))) ?_
                  refine rCall (args := [vB (decide ((sgn a) < (sgn b)))]) (d := 80) (x := vU (if (decide ((sgn a) < (sgn b))) = true then 1 else 0)) rfl rfl rfl rfl (.inl rfl) rfl (rOne _) ?_
                  refine rO 6 (vU (if (decide ((sgn a) < (sgn b))) = true then 1 else 0)) ?_
                  refine rE 47 ?_
                  refine cRet ?_
                  exact fI rfl (congrArg Int.ofNat (by rw [dp31 a b (by omega)]; simp only [decide_eq_true_eq]))
                 ·skip
                  refine cSeq ?_
                  refine cSeq ?_
                  refine cR ?_
                  refine rO 82 (vB (op == 32)) ?_
                  refine rO 81 (vB (op == 32)) ?_
                  refine rE 42 ?_
                  refine cEq op 32 (fun h18 => ?_) (fun h18 => ?_)
                  ·skip
                   refine cSkip ?_
                   refine cT (pEq.2 h18) ?_
                   refine cSeq ?_
                   refine cR ?_
                   refine rO 84 (vU a) ?_
                   refine rO 85 (vU b) ?_
                   refine rX 86 (vB (decide (a < b))) (okB (ltN _ _)) ?_
                   refine rCall (args := [vB (decide (a < b))]) (d := 87) (x := vU (if (decide (a < b)) = true then 1 else 0)) rfl rfl rfl rfl (.inl rfl) rfl (rOne _) ?_
                   refine rO 6 (vU (if (decide (a < b)) = true then 1 else 0)) ?_
                   refine rE 47 ?_
                   refine cRet ?_
                   exact fI rfl (congrArg Int.ofNat (by rw [dp32 a b (by omega)]; simp only [decide_eq_true_eq]))
                  ·skip
                   refine cR ?_
                   refine rO 83 (vB (op == 21)) ?_
                   refine rO 81 (vB (op == 21)) ?_
                   refine rE 44 ?_
                   refine cEq op 21 (fun h19 => ?_) (fun h19 => ?_)
                   ·skip
                    refine cSeq ?_
                    refine cR ?_
                    refine rO 84 (vU a) ?_
                    refine rO 85 (vU b) ?_
                    refine rX 86 (vB (decide (a < b))) (okB (ltN _ _)) ?_
                    refine rCall (args := [vB (decide (a < b))]) (d := 87) (x := vU (if (decide (a < b)) = true then 1 else 0)) rfl rfl rfl rfl (.inl rfl) rfl (rOne _) ?_
                    refine rO 6 (vU (if (decide (a < b)) = true then 1 else 0)) ?_
                    refine rE 49 ?_
                    refine cRet ?_
                    exact fI rfl (congrArg Int.ofNat (by rw [dp32 a b (by omega)]; simp only [decide_eq_true_eq]))
                   ·skip
                    refine cSeq ?_
                    refine cR ?_
                    refine rO 89 (vB (op == 1)) ?_
                    refine rO 88 (vB (op == 1)) ?_
                    refine rE 46 ?_
                    refine cEq op 1 (fun h20 => ?_) (fun h20 => ?_)
                    ·skip
                     refine cSeq ?_
                     refine cR ?_
                     refine rO 90 (vU b) ?_
                     refine rO 6 (vU b) ?_
                     refine rE 48 ?_
                     refine cRet ?_
                     exact fI rfl (congrArg Int.ofNat (dp1 a b (by omega)).symm)
                    ·skip
                     refine cSkip ?_
                     refine cSeq ?_
                     refine cR ?_
                     refine rO 6 (.v (.int .u32 0)) ?_
                     refine rE 47 ?_
                     refine cRet ?_
                     exact fI rfl (congrArg Int.ofNat (dp0 a b (by simp; omega)).symm)
def bP (i : SI) (b : Nat) : Nat := if ((i.op = 1 ∨ letterOf i.op = 84) ∨ ((letterOf i.op = 73 ∧ ¬ i.op = 4) ∧ ¬ kindOf i.op = 3)) then i.imm else b
theorem bP_le {i : SI} {b : Nat} (hi : i.imm ≤ 4294967295) (hb : b ≤ 4294967295) : bP i b ≤ 4294967295 := by unfold bP; split <;> assumption
theorem bP_own {i : SI} {b : Nat} (h : kindOf i.op = 1 ∨ kindOf i.op = 2) : bP i b = b := by
 unfold bP
 refine if_neg ?_
 have := kind_spec i.op
 have := letter_spec i.op
 omega
theorem bP_do (i : SI) (a b : Nat) : doP i.op a (bP i b) = doP i.op a (if immP i.op = true then i.imm else b) := by
 by_cases h : ((i.op = 1 ∨ letterOf i.op = 84) ∨ ((letterOf i.op = 73 ∧ ¬ i.op = 4) ∧ ¬ kindOf i.op = 3)) ↔ immP i.op = true
 ·unfold bP; simp only [h]
 ·have h0 : i.op = 11 ∨ i.op = 12 ∨ i.op = 13 ∨ i.op = 14 ∨ i.op = 15 := by
   have h1 := kind_spec i.op
   have h2 := letter_spec i.op
   simp only [immP, Bool.or_eq_true, Bool.and_eq_true, decide_eq_true_eq] at h
   omega
  rw [dp0 _ _ (by simp; omega), dp0 _ _ (by simp; omega)]

set_option maxRecDepth 100000 in
set_option maxHeartbeats 4000000 in
theorem rB (i : SI) (b : Nat) (hi : i.imm ≤ 4294967295) (hb : b ≤ 4294967295) : DCall C0 78 [siA i, .v (.int .u32 (b : Int))] (.v (.int .u32 ((bP i b : Nat) : Int))) := by
 refine DCall.intro c0Ok Try.func78 rfl rfl (by kernel_rfl) rfl ?_
 refine cSeq ?_
 refine cR ?_
 refine rF 2 (.ptr 0 0) (upd _ 0 (some (.box [vI i.op, vI i.rd, vI i.rs1, vI i.rs2, vU i.imm]))) ?_
 refine rO 4 (.v (.int .u32 0)) ?_
 refine rE 2 ?_
 refine cSeq ?_
 refine cR ?_
 refine rO 6 (.ptr 0 0) ?_
 refine rO 7 (vI i.op) ?_
 refine rCall (args := [vI i.op]) (d := 8) (x := .v (.int .u8 ((letterOf i.op : Nat) : Int))) rfl rfl rfl rfl (.inl rfl) rfl (rForm _) ?_
 refine rO 5 (.v (.int .u8 ((letterOf i.op : Nat) : Int))) ?_
 refine rE 6 ?_
 refine cSeq ?_
 refine cSeq ?_
 refine cR ?_
 refine rO 9 (.ptr 0 0) ?_
 refine rO 10 (vI i.op) ?_
 refine rO 11 (vB (i.op == 1)) ?_
 refine rO 12 (vB (i.op == 1)) ?_
 refine gO 13 (!(i.op == 1)) (.v (.int .u8 ((letterOf i.op : Nat) : Int))) ?_
 refine gOkS (d := 14) (x := vB ((letterOf i.op) == 84)) (g := !(i.op == 1)) rfl rfl rfl rfl (fun h => h) rfl (okB (eqN _ _)) ?_
 refine rNeed (d := 15) (x := vB (cond2 (i.op == 1) true ((letterOf i.op) == 84))) rfl rfl rfl (by simp) ?_
 refine rO 16 (vB (cond2 (i.op == 1) true ((letterOf i.op) == 84))) ?_
 refine gO 17 (!(cond2 (i.op == 1) true ((letterOf i.op) == 84))) (.v (.int .u8 ((letterOf i.op : Nat) : Int))) ?_
 refine gOkS (d := 18) (x := vB ((letterOf i.op) == 73)) (g := !(cond2 (i.op == 1) true ((letterOf i.op) == 84))) rfl rfl rfl rfl (fun h => h) rfl (okB (eqN _ _)) ?_
 refine gOkS (d := 19) (x := vB ((letterOf i.op) == 73)) (g := !(cond2 (i.op == 1) true ((letterOf i.op) == 84))) rfl rfl rfl rfl (fun h => h) rfl rfl ?_
 refine gO 20 ((!(cond2 (i.op == 1) true ((letterOf i.op) == 84))) && ((letterOf i.op) == 73)) (.ptr 0 0) ?_
 refine gOkS (d := 21) (x := vI i.op) (g := (!(cond2 (i.op == 1) true ((letterOf i.op) == 84))) && ((letterOf i.op) == 73)) rfl rfl rfl rfl (fun h => h) rfl rfl ?_
 refine gOkS (d := 22) (x := vB (i.op != 4)) (g := (!(cond2 (i.op == 1) true ((letterOf i.op) == 84))) && ((letterOf i.op) == 73)) rfl rfl rfl rfl (fun h => h) rfl rfl ?_
 refine gNeedS (d := 23) (x := vB (cond2 ((letterOf i.op) == 73) (i.op != 4) false)) (g := !(cond2 (i.op == 1) true ((letterOf i.op) == 84))) rfl rfl rfl rfl (fun h => h) rfl rfl (fun hg hc => by first | (rw [hg, hc]; rfl) | simp_all) ?_
 refine gOkS (d := 24) (x := vB (cond2 ((letterOf i.op) == 73) (i.op != 4) false)) (g := !(cond2 (i.op == 1) true ((letterOf i.op) == 84))) rfl rfl rfl rfl (fun h => h) rfl rfl ?_
 refine gO 25 ((!(cond2 (i.op == 1) true ((letterOf i.op) == 84))) && (cond2 ((letterOf i.op) == 73) (i.op != 4) false)) (.ptr 0 0) ?_
 refine gOkS (d := 26) (x := vI i.op) (g := (!(cond2 (i.op == 1) true ((letterOf i.op) == 84))) && (cond2 ((letterOf i.op) == 73) (i.op != 4) false)) rfl rfl rfl rfl (fun h => h) rfl rfl ?_
 refine gCallS (args := [vI i.op]) (d := 27) (x := vN (kindOf i.op)) (g := (!(cond2 (i.op == 1) true ((letterOf i.op) == 84))) && (cond2 ((letterOf i.op) == 73) (i.op != 4) false)) rfl rfl rfl rfl (fun h => h) rfl rfl rfl (.inl rfl) rfl (fun hg => rKind _) ?_
 refine gOkS (d := 28) (x := vB ((kindOf i.op) != 3)) (g := (!(cond2 (i.op == 1) true ((letterOf i.op) == 84))) && (cond2 ((letterOf i.op) == 73) (i.op != 4) false)) rfl rfl rfl rfl (fun h => h) rfl (okB (neN _ _)) ?_
 refine gNeedS (d := 29) (x := vB (cond2 (cond2 ((letterOf i.op) == 73) (i.op != 4) false) ((kindOf i.op) != 3) false)) (g := !(cond2 (i.op == 1) true ((letterOf i.op) == 84))) rfl rfl rfl rfl (fun h => h) rfl rfl (fun hg hc => by first | (rw [hg, hc]; rfl) | simp_all) ?_
 refine rNeed (d := 30) (x := vB (cond2 (cond2 (i.op == 1) true ((letterOf i.op) == 84)) true (cond2 (cond2 ((letterOf i.op) == 73) (i.op != 4) false) ((kindOf i.op) != 3) false))) rfl rfl rfl (by simp) ?_
 refine rE 28 ?_
 refine cPr ((i.op = 1 ∨ (letterOf i.op) = 84) ∨ (((letterOf i.op) = 73 ∧ ¬ i.op = 4) ∧ ¬ (kindOf i.op) = 3)) (c2or _ _ (c2or _ _ pEq pEq) (c2and _ _ (c2and _ _ pEq pNe) pNe)) (fun h1 => ?_) (fun h1 => ?_)
 ·skip
  refine cSeq ?_
  refine cR ?_
  refine rO 31 (.ptr 0 4) ?_
  refine rO 32 (vU i.imm) ?_
  refine rO 4 (vU i.imm) ?_
  refine rE 31 ?_
  refine cRet ?_
  exact fI rfl (by unfold bP; rw [if_pos h1])
 ·skip
  refine cSkip ?_
  refine cSeq ?_
  refine cR ?_
  refine rO 33 (vU b) ?_
  refine rO 4 (vU b) ?_
  refine rE 30 ?_
  refine cRet ?_
  exact fI rfl (by unfold bP; rw [if_neg h1])
set_option maxRecDepth 100000 in
set_option maxHeartbeats 4000000 in
theorem rValue (i : SI) (pc a b : Nat) (hi : i.imm ≤ 4294967295) (hpc : pc ≤ 4294967295) (ha : a ≤ 4294967295) (hb : b ≤ 4294967295) : DCall C0 43 [siA i, .v (.int .u32 ((pc : Nat) : Int)), .v (.int .u32 ((a : Nat) : Int)), .v (.int .u32 ((b : Nat) : Int))] (.v (.int .u32 ((valP i.op i.imm pc a b : Nat) : Int))) := by
 refine DCall.intro c0Ok Try.func43 rfl rfl (by kernel_rfl) rfl ?_
 refine cSeq ?_
 refine cR ?_
 refine rF 4 (.ptr 0 0) (upd _ 0 (some (.box [vI i.op, vI i.rd, vI i.rs1, vI i.rs2, vU i.imm]))) ?_
 refine rO 8 (.v (.int .u32 0)) ?_
 refine rE 2 ?_
 refine cSeq ?_
 refine cR ?_
 refine rO 10 (.agg [vI i.op, vI i.rd, vI i.rs1, vI i.rs2, vU i.imm]) ?_
 refine rO 11 (vU b) ?_
 refine rCall (args := [.agg [vI i.op, vI i.rd, vI i.rs1, vI i.rs2, vU i.imm], vU b]) (d := 12) (x := vU (bP i b)) rfl rfl rfl rfl (.inl rfl) rfl (rB i b hi hb) ?_
 refine rO 9 (vU (bP i b)) ?_
 refine rE 6 ?_
 refine cSeq ?_
 refine cSeq ?_
 refine cR ?_
 refine rO 13 (.ptr 0 0) ?_
 refine rO 14 (vI i.op) ?_
 refine rCall (args := [vI i.op]) (d := 15) (x := vN (kindOf i.op)) rfl rfl rfl rfl (.inl rfl) rfl (rKind _) ?_
 refine rX 16 (vB ((kindOf i.op) == 1)) (okB (eqN _ _)) ?_
 refine rE 10 ?_
 refine cEq (kindOf i.op) 1 (fun h1 => ?_) (fun h1 => ?_)
 ·skip
  refine cSeq ?_
  refine cR ?_
  refine rO 17 (.ptr 0 0) ?_
  refine rO 18 (vI i.op) ?_
  refine rO 19 (vU a) ?_
  refine rO 20 (vU (bP i b)) ?_
  refine rCall (args := [vI i.op, vU a, vU (bP i b)]) (d := 21) (x := vU (mulP i.op a (bP i b))) rfl rfl rfl rfl (.inl rfl) rfl (rMul i.op a (bP i b) ha (bP_le hi hb)) ?_
  refine rO 8 (vU (mulP i.op a (bP i b))) ?_
  refine rE 16 ?_
  refine cRet ?_
  exact fI rfl (congrArg Int.ofNat (by unfold valP; rw [bP_own (.inl h1), if_pos h1]))
 ·skip
  refine cSkip ?_
  refine cSeq ?_
  refine cSeq ?_
  refine cR ?_
  refine rO 22 (.ptr 0 0) ?_
  refine rO 23 (vI i.op) ?_
  refine rCall (args := [vI i.op]) (d := 24) (x := vN (kindOf i.op)) rfl rfl rfl rfl (.inl rfl) rfl (rKind _) ?_
  refine rX 25 (vB ((kindOf i.op) == 2)) (okB (eqN _ _)) ?_
  refine rE 14 ?_
  refine cEq (kindOf i.op) 2 (fun h2 => ?_) (fun h2 => ?_)
  ·skip
   refine cSeq ?_
   refine cR ?_
   refine rO 26 (.ptr 0 0) ?_
   refine rO 27 (vI i.op) ?_
   refine rO 28 (vU a) ?_
   refine rO 29 (vU (bP i b)) ?_
   refine rCall (args := [vI i.op, vU a, vU (bP i b)]) (d := 30) (x := vU (divP i.op a (bP i b))) rfl rfl rfl rfl (.inl rfl) rfl (rDo4 i.op a (bP i b) ha (bP_le hi hb)) ?_
   refine rO 8 (vU (divP i.op a (bP i b))) ?_
   refine rE 20 ?_
   refine cRet ?_
   exact fI rfl (congrArg Int.ofNat (by unfold valP; rw [bP_own (.inr h2), if_neg h1, if_pos h2]))
  ·skip
   refine cSkip ?_
   refine cSeq ?_
   refine cSeq ?_
   refine cR ?_
   refine rO 31 (.ptr 0 0) ?_
   refine rO 32 (vI i.op) ?_
   refine rO 33 (vB (i.op == 2)) ?_
   refine rE 17 ?_
   refine cEq i.op 2 (fun h3 => ?_) (fun h3 => ?_)
   ·skip
    refine cSeq ?_
    refine cR ?_
    refine rO 34 (vU pc) ?_
    refine rO 35 (.ptr 0 4) ?_
    refine rO 36 (vU i.imm) ?_
    have b1 : (pc + i.imm) % 4294967296 ≤ 4294967295 := Nat.le_of_lt_succ (Nat.mod_lt _ (by decide))
    refine rO 37 (vU ((pc + i.imm) % 4294967296)) ?_
    refine rO 8 (vU ((pc + i.imm) % 4294967296)) ?_
    refine rE 22 ?_
    refine cRet ?_
    exact fI rfl (congrArg Int.ofNat (by unfold valP; rw [if_neg h1, if_neg h2, if_pos h3]))
   ·skip
    refine cSkip ?_
    refine cSeq ?_
    refine cSeq ?_
    refine cR ?_
    refine rO 38 (.ptr 0 0) ?_
    refine rO 39 (vI i.op) ?_
    refine rO 40 (vB (i.op == 3)) ?_
    refine rO 41 (vB (i.op == 3)) ?_
    refine gO 42 (!(i.op == 3)) (.ptr 0 0) ?_
    refine gOkS (d := 43) (x := vI i.op) (g := !(i.op == 3)) rfl rfl rfl rfl (fun h => h) rfl rfl ?_
    refine gOkS (d := 44) (x := vB (i.op == 4)) (g := !(i.op == 3)) rfl rfl rfl rfl (fun h => h) rfl rfl ?_
    refine rNeed (d := 45) (x := vB (cond2 (i.op == 3) true (i.op == 4))) rfl rfl rfl (by simp) ?_
    refine rE 25 ?_
    refine cPr (i.op = 3 ∨ i.op = 4) (c2or _ _ pEq pEq) (fun h4 => ?_) (fun h4 => ?_)
    ·skip
     refine cSeq ?_
     refine cR ?_
     refine rO 46 (vU pc) ?_
     have b2 : (pc + 4) % 4294967296 ≤ 4294967295 := Nat.le_of_lt_succ (Nat.mod_lt _ (by decide))
     refine rO 47 (vU ((pc + 4) % 4294967296)) ?_
     refine rO 8 (vU ((pc + 4) % 4294967296)) ?_
     refine rE 28 ?_
     refine cRet ?_
     exact fI rfl (congrArg Int.ofNat (by unfold valP; rw [if_neg h1, if_neg h2, if_neg h3, if_pos h4]))
    ·skip
     refine cSkip ?_
     refine cSeq ?_
     refine cR ?_
     refine rO 48 (.ptr 0 0) ?_
     refine rO 49 (vI i.op) ?_
     refine rO 50 (vU a) ?_
     refine rO 51 (vU (bP i b)) ?_
     refine rCall (args := [vI i.op, vU a, vU (bP i b)]) (d := 52) (x := vU (doP i.op a (bP i b))) rfl rfl rfl rfl (.inl rfl) rfl (rDo i.op a (bP i b) ha (bP_le hi hb)) ?_
     refine rO 8 (vU (doP i.op a (bP i b))) ?_
     refine rE 31 ?_
     refine cRet ?_
     exact fI rfl (congrArg Int.ofNat (by unfold valP; rw [bP_do, if_neg h1, if_neg h2, if_neg h3, if_neg h4]))
end Go.Proofs.Ytckjihpdjefpgaa

namespace Go.Proofs.Ytckjihpdjefpgaa
open Go.RowKit

def capK (n c : Int) : Int := if c < (if (0 : Int) > n then 0 else n) then c else (if (0 : Int) > n then 0 else n)
theorem capK_le (n c : Int) (hc : 0 ≤ c) : 0 ≤ capK n c ∧ capK n c ≤ c := by unfold capK; split <;> split <;> omega
end Go.Proofs.Ytckjihpdjefpgaa

namespace Go.Proofs.Ytckjihpdjefpgaa
open Go.RowKit

theorem fetch_found {prog : List Nat} {pc k x : Nat} (h : pc = 4 * k) (hx : prog[k]? = some x) : fetchP prog pc = some x := by
  unfold fetchP; rw [if_pos (by omega), show pc / 4 = k by omega, hx]
theorem fetch_none {prog : List Nat} {pc : Nat} (h : ∀ i, i < prog.length → pc ≠ 4 * i) : fetchP prog pc = none := by
  refine fetch_no ?_
  by_cases h1 : pc % 4 = 0
  · exact .inr (Nat.le_of_not_lt fun h2 => h _ h2 (by omega))
  · exact .inl h1
def fetA (o : Option Nat) : AV := .tup [.v (.int .u32 ((o.getD 0 : Nat) : Int)), .v (.bool o.isSome)]

set_option maxRecDepth 100000 in
set_option maxHeartbeats 4000000 in
theorem rFetch (prog : List Nat) (pc : Nat) (clip : Bool) (hp : ∀ x ∈ prog, x ≤ 4294967295) (hl : prog.length ≤ 1000000) (hpc : pc ≤ 4294967295) : DCall C0 40 [.sl 1 (prog.map rowU) clip, .v (.int .u32 ((pc : Nat) : Int))] (fetA (fetchP prog pc)) := by
  refine DCall.intro c0Ok Try.func40 rfl rfl (by kernel_rfl) rfl ?_
  refine cSeq ?_
  refine cR ?_
  refine rO 4 (.v (.int .u32 0)) ?_
  refine rO 5 (.v (.bool false)) ?_
  refine rE 2 ?_
  refine cSeq ?_
  refine cSeq ?_
  refine cR ?_
  refine rO 8 (.sl 1 (prog.map rowU) clip) ?_
  refine rOk (d := 9) (x := vN prog.length) rfl rfl (congrArg (fun n : Nat => Res.ok (vI (n : Int))) (List.length_map ..)) ?_
  refine rO 10 (vI 0) ?_
  refine rE 5 ?_
  refine cBlock ?_
  refine cLoop (κ := Nat) (fun k => ⟨slotsF [(0, .sl 1 (prog.map rowU) clip), (1, vU pc), (4, .v (.int .u32 0)), (5, .v (.bool false)), (8, .sl 1 (prog.map rowU) clip), (9, vN prog.length), (10, vN k)], heapF [], 5⟩) (fun k => k ≤ prog.length ∧ ∀ i, i < k → pc ≠ 4 * i) (fun k => prog.length - k) 0 (fun s => s) (Weak.of_lists (fun s => s) ⟨⟨rfl, rfl⟩, ⟨rfl, rfl⟩, ⟨rfl, rfl⟩, ⟨rfl, rfl⟩, ⟨rfl, rfl⟩, ⟨rfl, rfl⟩, ⟨rfl, rfl⟩, trivial⟩ trivial rfl) (⟨Nat.zero_le _, fun i h => absurd h (Nat.not_lt_zero i)⟩) ?_
  intro k hk
  have hkB : k ≤ 1000000 := Nat.le_trans hk.1 hl
  refine cSeq ?_
  refine cR ?_
  refine rOk (d := 11) (x := .v (.bool (decide (k < prog.length)))) rfl rfl (okB (ltN _ _)) ?_
  refine rE 6 ?_
  refine cSeq ?_
  refine cCond (v := decide (k < prog.length)) rfl (fun h1 => ?_) (fun h1 => ?_)
  · skip
    refine cSkip ?_
    refine cSeq ?_
    refine cBlock ?_
    refine cSeq ?_
    refine cR ?_
    refine rO 12 (vN k) ?_
    obtain ⟨x, hx⟩ : ∃ x, prog[k]? = some x := ⟨_, List.getElem?_eq_getElem (of_decide_eq_true h1)⟩
    have hxm := hp x (List.mem_of_getElem? hx)
    refine rIdx (rowU x) (d := 13) (x := .dp 1 0 (rowU x)) rfl rfl rfl (⟨Int.natCast_nonneg _, by rw [Int.toNat_natCast, List.getElem?_map, hx]; rfl⟩) rfl ?_
    refine rO 14 (vU x) ?_
    refine rO 6 (vN k) ?_
    refine rO 7 (vU x) ?_
    refine rE 11 ?_
    refine cSeq ?_
    refine cR ?_
    refine rO 15 (vU pc) ?_
    refine rOk (d := 16) (x := .v (.int .u64 ((pc : Nat) : Int))) rfl rfl (okI (modI hpc rfl)) ?_
    refine rO 17 (vN k) ?_
    refine rOk (d := 18) (x := .v (.int .u64 ((k : Nat) : Int))) rfl rfl (okI (modI hkB rfl)) ?_
    have b1 : 4 * k ≤ 4000000 := Nat.mul_le_mul (Nat.le_refl 4) hkB
    refine rOk (d := 19) (x := .v (.int .u64 ((4 * k : Nat) : Int))) rfl rfl (okI (modI b1 rfl)) ?_
    refine rOk (d := 20) (x := .v (.bool (pc == (4 * k)))) rfl rfl (okB (eqN _ _)) ?_
    refine rE 17 ?_
    refine cCond (v := pc == (4 * k)) rfl (fun h2 => ?_) (fun h2 => ?_)
    · skip
      refine cSeq ?_
      refine cR ?_
      refine rO 21 (vU x) ?_
      refine rO 4 (vU x) ?_
      refine rO 5 (.v (.bool true)) ?_
      refine rE 20 ?_
      refine cRet ?_
      exact finTA rfl trivial rfl (by rw [fetch_found (prog := prog) (by simpa using h2) hx]; rfl)
    · skip
      refine cSkip ?_
      refine cR ?_
      have b2 : k + 1 ≤ 1000001 := Nat.add_le_add hkB (Nat.le_refl 1)
      refine rOk (d := 22) (x := vN (k + 1)) rfl rfl (okI (wrapI64 b2 rfl)) ?_
      refine rO 10 (vN (k + 1)) ?_
      refine rE 19 ?_
      refine ⟨k + 1, fun s => s, Weak.of_lists (fun s => s) ⟨⟨rfl, rfl⟩, ⟨rfl, rfl⟩, ⟨rfl, rfl⟩, ⟨rfl, rfl⟩, ⟨rfl, rfl⟩, ⟨rfl, rfl⟩, ⟨rfl, rfl⟩, trivial⟩ trivial rfl, ⟨of_decide_eq_true h1, fun i hi => if e : i = k then e ▸ (by simpa using h2) else hk.2 i (by omega)⟩, by have := of_decide_eq_true h1; show prog.length - (k + 1) < prog.length - k; omega⟩
  · skip
    refine cExit ?_
    refine cSeq ?_
    refine cR ?_
    refine rO 4 (.v (.int .u32 0)) ?_
    refine rO 5 (.v (.bool false)) ?_
    refine rE 8 ?_
    refine cRet ?_
    exact finTA rfl trivial rfl (by rw [fetch_none (prog := prog) (fun i hi => hk.2 i (by have := of_decide_eq_false h1; omega))]; rfl)
set_option maxRecDepth 100000 in
set_option maxHeartbeats 4000000 in
theorem rRead (m : ByteArray) (addr n : Nat) (hr : addr + n ≤ m.size) (ha : addr ≤ 4294967295) (hn : n ≤ 4) : DCall C0 20 [.v (.string m), .v (.int .u32 ((addr : Nat) : Int)), .v (.int .i64 ((n : Nat) : Int))] (.v (.string (readP m addr n))) := by
  refine DCall.intro c0Ok Try.func20 rfl rfl (by kernel_rfl) rfl ?_
  refine cSeq ?_
  refine cR ?_
  refine rO 6 (.v (.string (⟨#[]⟩))) ?_
  refine rE 1 ?_
  refine cSeq ?_
  refine cR ?_
  refine rO 7 (.v (.string m)) ?_
  refine rO 8 (vU addr) ?_
  refine rOk (d := 9) (x := vN addr) rfl rfl (okI (wrapI64 ha rfl)) ?_
  refine rO 10 (vU addr) ?_
  refine rOk (d := 11) (x := vN addr) rfl rfl (okI (wrapI64 ha rfl)) ?_
  refine rO 12 (vN n) ?_
  refine rOk (d := 13) (x := vN (addr + n)) rfl rfl (okI (wrap_i64 (by omega) (by omega))) ?_
  refine rNeed (d := 14) (x := .v (.string (readP m addr n))) rfl rfl rfl (⟨Int.natCast_nonneg _, by show ((addr : Nat) : Int) ≤ ((addr + n : Nat) : Int); omega, by show ((addr + n : Nat) : Int) ≤ ((m.size : Nat) : Int); omega⟩) ?_
  refine rO 6 (.v (.string (readP m addr n))) ?_
  refine rE 10 ?_
  refine cRet ?_
  exact retA_eq rfl trivial rfl rfl
end Go.Proofs.Ytckjihpdjefpgaa
