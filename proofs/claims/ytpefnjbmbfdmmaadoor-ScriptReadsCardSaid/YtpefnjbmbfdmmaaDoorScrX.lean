/- Package script: how words are read; which plans may be: walks on the second machine. -/
import Derived.Test.YtpefnjbmbfdmmaaDoorAbsT
import Derived.Test.YtpefnjbmbfdmmaaDoorScrW
namespace Go.Proofs.YtpefnjbmbfdmmaaDoor
set_option maxRecDepth 100000
set_option maxHeartbeats 4000000
open Go.RowKit Go.Lib

/-! ### decimal -/
def decA (w : W) : AV := match readD w with | some n => .tup [vI n, vB true] | none => .tup [vI 0, vB false]
theorem decA_none {w : W} (h : ¬ (decOk w ∧ w.length ≤ 9)) : AV.tup [vI 0, vB false] = decA w := by unfold decA readD; rw [if_neg h]
theorem decA_some {w : W} (h : decOk w ∧ w.length ≤ 9) : AV.tup [vN (decV w), vB true] = decA w := by unfold decA readD; rw [if_pos h]
theorem head_getD {w : W} {c : UInt8} (h : w ≠ []) : w.head? = some c ↔ w.getD 0 0 = c := by
  cases w with
  | nil => exact absurd rfl h
  | cons x w => exact ⟨fun q => Option.some.inj q, fun q => congrArg some q⟩
theorem digB_iff {x : UInt8} : digB x = true ↔ 48 ≤ x.toNat ∧ x.toNat ≤ 57 := by unfold digB; simp
theorem dig_next {w : W} {k : Nat} (hk : k < w.length) (hP : ∀ x ∈ w.take k, digB x = true) (h : digB (w.getD k 0) = true) : ∀ x ∈ w.take (k + 1), digB x = true := fun x hx => by
  rw [getD_take hk] at hx
  rcases List.mem_append.1 hx with hx | hx
  · exact hP x hx
  · rw [List.mem_singleton.1 hx]; exact h
theorem getD_mem {w : W} {k : Nat} (hk : k < w.length) : w.getD k 0 ∈ w := by
  rw [List.getD_eq_getElem?_getD, List.getElem?_eq_getElem hk]; exact List.getElem_mem hk
theorem decV_next {w : W} {k : Nat} (hk : k < w.length) (h : digB (w.getD k 0) = true) : 10 * decV (w.take k) + ((w.getD k 0).toNat + 256 - 48) % 256 = decV (w.take (k + 1)) := by
  rw [getD_take hk, decV_snoc]
  have := digB_iff.1 h
  omega
theorem decV_lt : ∀ (k : Nat) (w : W), (∀ x ∈ w.take k, digB x = true) → decV (w.take k) < 10 ^ k
  | 0, w, _ => by show 0 < 1; omega
  | k + 1, w, h => by
    by_cases hk : k < w.length
    · rw [getD_take hk, decV_snoc]
      rw [getD_take hk] at h
      have h1 := decV_lt k w (fun x hx => h x (List.mem_append_left _ hx))
      have h2 := digB_iff.1 (h (w.getD k 0) (by simp))
      rw [Nat.pow_succ]; omega
    · have e : w.take (k + 1) = w.take k := by rw [List.take_of_length_le (by omega), List.take_of_length_le (by omega)]
      rw [e] at h ⊢
      have := decV_lt k w h
      rw [Nat.pow_succ]; omega
theorem decK_le {w : W} {k : Nat} (h : ∀ x ∈ w.take k, digB x = true) (hk : k ≤ 9) : decV (w.take k) ≤ 1000000000 := by
  have h1 := decV_lt k w h
  have : 10 ^ k ≤ 10 ^ 9 := Nat.pow_le_pow_right (by decide) hk
  omega

theorem dDecimal (w : List UInt8) (hw : w.length ≤ 900000) : DCall C0 42 [vS w] (decA w) := by
  refine DCall.intro c0Ok Tryd.func42 rfl rfl (by kernel_rfl) rfl <| cSeq <| cReg rfl <| oR 2 rfl <| rE 2 <| cSeq <| cSeq <| cReg rfl <| oR 1 rfl <| rOk (x := vB (decide (w = []))) rfl rfl (okBo (eq_tL w ([]))) <| oR 1 rfl <| gN rfl <| gBS (x := vN w.length) rfl id rfl <| gBS (x := vB (decide (w.length > 9))) rfl id (okB (gtN _ _)) <| rNeed rfl rfl rfl (by simp) <| oR 1 rfl ?_
  refine gN rfl <| gNeedS (x := .v (.int .u8 (((w.getD 0 0).toNat : Nat) : Int))) (g := !(cond2 (decide (w = [])) true (decide (w.length > 9)))) rfl rfl rfl rfl (fun h => h) rfl rfl (fun hg => ⟨by decide, Int.ofNat_lt.2 (by show 0 < w.length; simp only [cOr, Bool.not_eq_true', Bool.or_eq_false_iff, decide_eq_false_iff_not] at hg; exact List.length_pos_iff.2 hg.1)⟩) <| gBS (x := vB (((w.getD 0 0).toNat) == 48)) rfl id (okB (eqN _ _)) <| gS rfl id <| gN rfl <| gBS (x := vB (!decide (w = [48]))) rfl id (okBo (congrArg (!·) (eq_tL w ([48])))) <| gNeedS (x := vB (cond2 (((w.getD 0 0).toNat) == 48) (!decide (w = [48])) false)) (g := !(cond2 (decide (w = [])) true (decide (w.length > 9)))) rfl rfl rfl rfl (fun h => h) rfl rfl (fun hg hc => by first | (rw [hg, hc]; rfl) | simp_all) <| rNeed rfl rfl rfl (by simp) <| rE 18 ?_
  refine cCond rfl (fun h1 => ?_) (fun h1 => ?_)
  · have hB : ¬ (decOk w ∧ w.length ≤ 9) := fun ⟨q1, q2⟩ => by
      have q3 := q1.1
      have q4 := q1.2.2
      rw [head_getD q3] at q4
      simp only [cOr, cAnd, Bool.or_eq_true, Bool.and_eq_true, decide_eq_true_eq, beq_iff_eq, Bool.not_eq_true', decide_eq_false_iff_not] at h1
      rcases h1 with (q | q) | q
      · exact q3 q
      · omega
      · exact q.2 (q4 (u8_eq (by rw [q.1]; rfl)))
    refine cSeq <| cReg rfl <| oR 2 rfl <| rE 20 <| cRet ?_
    exact finTA rfl trivial rfl (decA_none hB)
  · obtain ⟨hw0, hw9, hwz⟩ : w ≠ [] ∧ w.length ≤ 9 ∧ (w.getD 0 0 = 48 → w = [48]) := by
      simp only [cOr, cAnd, Bool.or_eq_false_iff, Bool.and_eq_false_iff, decide_eq_false_iff_not, beq_eq_false_iff_ne, ne_eq, Bool.not_eq_false', decide_eq_true_eq] at h1
      refine ⟨h1.1.1, by have := h1.1.2; omega, fun q => ?_⟩
      rcases h1.2 with z | z
      · exact absurd (by rw [q]; rfl) z
      · exact z
    refine cSkip <| cSeq <| cReg rfl <| oR 1 rfl <| rE 19 <| cSeq <| cSeq <| cReg rfl <| oR 1 rfl <| rOk (x := vN w.length) rfl rfl rfl <| oR 1 rfl <| rE 22 <| cBlock <| cLoop (κ := Nat) (fun k => ⟨slotsF [(0, vS w), (21, vB (cond2 (cond2 (decide (w = [])) true (decide (w.length > 9))) true (cond2 (((w.getD 0 0).toNat) == 48) (!decide (w = [48])) false))), (23, vN w.length), (4, vN (decV (w.take k))), (24, vN k)], heapF [], 22⟩) (fun k => k ≤ w.length ∧ ∀ x ∈ w.take k, digB x = true) (fun k => w.length - k) 0 (fun s => s) (Weak.of_lists (fun s => s) wT trivial rfl) (⟨Nat.zero_le _, (fun x h => absurd h List.not_mem_nil)⟩) ?_
    intro k hk
    have hkn : k ≤ w.length := hk.1
    have hkB : k ≤ 9 := by omega
    refine cSeq <| cReg rfl <| rOk (x := vB (decide (k < w.length))) rfl rfl (okB (ltN _ _)) <| rE 23 <| cSeq ?_
    refine cCond rfl (fun h2 => ?_) (fun h2 => ?_)
    · have h2p := of_decide_eq_true h2
      refine cSkip <| cSeq <| cBlock <| cSeq <| cReg rfl <| oR 2 rfl <| rE 25 <| cSeq <| cSeq <| cReg rfl <| oR 2 rfl <| rNeed (x := .v (.int .u8 (((w.getD k 0).toNat : Nat) : Int))) rfl rfl rfl (⟨Int.natCast_nonneg _, Int.ofNat_lt.2 (by show k < w.length; omega)⟩) <| rOk (x := vB (decide (((w.getD k 0).toNat) < 48))) rfl rfl (okB (ltN _ _)) <| oR 1 rfl <| gN rfl <| gN rfl ?_
      refine gNeedS (x := .v (.int .u8 (((w.getD k 0).toNat : Nat) : Int))) (g := !(decide (((w.getD k 0).toNat) < 48))) rfl rfl rfl rfl (fun h => by first | (simp_all; done) | exact (Bool.and_eq_true_iff.1 h).1 | exact Bool.and_eq_true_iff.2 ⟨h, h⟩) rfl rfl (fun hg => ⟨Int.natCast_nonneg _, Int.ofNat_lt.2 (by show k < w.length; omega)⟩) <| gBS (x := vB (decide (((w.getD k 0).toNat) > 57))) rfl id (okB (gtN _ _)) <| rNeed rfl rfl rfl (by simp) <| rE 35 ?_
      refine cCond rfl (fun h3 => ?_) (fun h3 => ?_)
      · have hB : ¬ (decOk w ∧ w.length ≤ 9) := fun ⟨q1, q2⟩ => by have q3 := digB_iff.1 (q1.2.1 _ (getD_mem (k := k) (by omega))); simp only [cOr, Bool.or_eq_true, decide_eq_true_eq] at h3; omega
        refine cSeq <| cReg rfl <| oR 2 rfl <| rE 37 <| cRet ?_
        exact finTA rfl trivial rfl (decA_none hB)
      · have hD : digB (w.getD k 0) = true := digB_iff.2 (by simp only [cOr, Bool.or_eq_false_iff, decide_eq_false_iff_not] at h3; omega)
        refine cSkip <| cReg rfl <| oR 1 rfl ?_
        have b1 : 10 * (decV (w.take k)) ≤ 10000000000 := Nat.mul_le_mul (Nat.le_refl 10) (decK_le hk.2 (by omega))
        refine rOk (x := vN (10 * (decV (w.take k)))) rfl rfl (okI (wrapI64 b1 rfl)) <| oR 2 rfl <| rNeed (x := .v (.int .u8 (((w.getD k 0).toNat : Nat) : Int))) rfl rfl rfl (⟨Int.natCast_nonneg _, Int.ofNat_lt.2 (by show k < w.length; omega)⟩) ?_
        have b2 : (((w.getD k 0).toNat) + 256 - 48) % 256 ≤ 255 := Nat.le_of_lt_succ (Nat.mod_lt _ (by decide))
        refine rOk (x := .v (.int .u8 (((((w.getD k 0).toNat) + 256 - 48) % 256 : Nat) : Int))) rfl rfl (okI (subI8 (Nat.le_refl 48) rfl)) <| rOk (x := vN ((((w.getD k 0).toNat) + 256 - 48) % 256)) rfl rfl (okI (wrapI64 b2 rfl)) ?_
        have b3 : (10 * (decV (w.take k))) + ((((w.getD k 0).toNat) + 256 - 48) % 256) ≤ 10000000255 := Nat.add_le_add b1 b2
        refine rOk (x := vN ((10 * (decV (w.take k))) + ((((w.getD k 0).toNat) + 256 - 48) % 256))) rfl rfl (okI (wrapI64 b3 rfl)) <| oR 1 rfl <| rE 44 <| cReg rfl ?_
        have b4 : k + 1 ≤ 10 := Nat.add_le_add hkB (Nat.le_refl 1)
        refine rOk (x := vN (k + 1)) rfl rfl (okI (wrapI64 b4 rfl)) <| oR 1 rfl <| rE 46 ?_
        refine ⟨k + 1, fun s => s, Weak.of_lists (fun s => s) ⟨⟨rfl, rfl⟩, ⟨rfl, rfl⟩, ⟨rfl, rfl⟩, ⟨(congrArg vN (decV_next (by omega) hD)), rfl⟩, ⟨rfl, rfl⟩, trivial⟩ trivial rfl, ⟨by omega, dig_next (by omega) hk.2 hD⟩, by show w.length - (k + 1) < w.length - k; omega⟩
    · have h2p := of_decide_eq_false h2
      refine cExit <| cSeq <| cReg rfl <| oR 3 rfl <| rE 26 <| cRet ?_
      have hT : w.take k = w := List.take_of_length_le (by have := of_decide_eq_false h2; omega)
      have hP := hk.2
      rw [hT] at hP
      refine finTA rfl trivial rfl ?_
      show AV.tup [vN (decV (w.take k)), vB true] = _
      rw [hT]; exact decA_some ⟨⟨hw0, hP, fun q => hwz ((head_getD hw0).1 q)⟩, hw9⟩
/-! ### words -/
def hexIx (c : UInt8) : Int := if hexB c = true then (hexN c : Int) else -1
abbrev hexS : ByteArray := ⟨#[48, 49, 50, 51, 52, 53, 54, 55, 56, 57, 97, 98, 99, 100, 101, 102]⟩
def HexIx : Prop := ∀ c : UInt8, DCall C0 65 [.v (.string hexS), .v (.int .u8 ((c.toNat : Nat) : Int))] (vI (hexIx c))
theorem ix_neg {c : UInt8} (h : hexIx c < 0) : ¬ hexB c = true := fun q => by unfold hexIx at h; rw [if_pos q] at h; omega
theorem ix_pos {c : UInt8} (h : ¬ hexIx c < 0) : hexB c = true ∧ hexIx c = (hexN c : Int) := by
  unfold hexIx at h ⊢
  split
  · rename_i q; exact ⟨q, rfl⟩
  · rename_i q; rw [if_neg q] at h; omega
def codA (w : W) : AV := match readC w with | some n => .tup [vU n, vB true] | none => .tup [vU 0, vB false]
theorem codA_none {w : W} (h : ¬ (w.length = 8 ∧ ∀ x ∈ w, hexB x = true)) : AV.tup [vU 0, vB false] = codA w := by unfold codA readC; rw [if_neg h]
theorem codA_some {w : W} (h : w.length = 8 ∧ ∀ x ∈ w, hexB x = true) : AV.tup [vU (codV w), vB true] = codA w := by unfold codA readC; rw [if_pos h]
theorem hex_next {w : W} {k : Nat} (hk : k < w.length) (hP : ∀ x ∈ w.take k, hexB x = true) (h : hexB (w.getD k 0) = true) : ∀ x ∈ w.take (k + 1), hexB x = true := fun x hx => by
  rw [getD_take hk] at hx
  rcases List.mem_append.1 hx with hx | hx
  · exact hP x hx
  · rw [List.mem_singleton.1 hx]; exact h
theorem codV_lt : ∀ (k : Nat) (w : W), (∀ x ∈ w.take k, hexB x = true) → codV (w.take k) < 16 ^ k
  | 0, w, _ => by show 0 < 1; omega
  | k + 1, w, h => by
    by_cases hk : k < w.length
    · rw [getD_take hk, codV_snoc]
      rw [getD_take hk] at h
      have h1 := codV_lt k w (fun x hx => h x (List.mem_append_left _ hx))
      have h2 := (hex_lt (h (w.getD k 0) (by simp))).1
      rw [Nat.pow_succ]; omega
    · have e : w.take (k + 1) = w.take k := by rw [List.take_of_length_le (by omega), List.take_of_length_le (by omega)]
      rw [e] at h ⊢
      have := codV_lt k w h
      rw [Nat.pow_succ]; omega
theorem codK_le {w : W} {k : Nat} (h : ∀ x ∈ w.take k, hexB x = true) (hk : k ≤ 8) : codV (w.take k) ≤ 4294967295 := by
  have h1 := codV_lt k w h
  have : 16 ^ k ≤ 16 ^ 8 := Nat.pow_le_pow_right (by decide) hk
  omega
theorem codK_le7 {w : W} {k : Nat} (h : ∀ x ∈ w.take k, hexB x = true) (hk : k ≤ 7) : 16 * codV (w.take k) ≤ 4294967280 := by
  have h1 := codV_lt k w h
  have : 16 ^ k ≤ 16 ^ 7 := Nat.pow_le_pow_right (by decide) hk
  omega
theorem or16 {a d : Nat} (h : d < 16) : 16 * a ||| d = 16 * a + d := by
  have := Nat.two_pow_add_eq_or_of_lt (i := 4) h a
  show 2 ^ 4 * a ||| d = _
  rw [← this]
theorem shl32 {a : Nat} (h : 16 * a ≤ 4294967280) : IntKind.wrap .u32 ((a : Int) * 2 ^ (min (Int.toNat (4 : Int)) (IntKind.bits .u32))) = ((16 * a : Nat) : Int) := by
  show IntKind.wrap .u32 ((a : Int) * 2 ^ (min 4 32)) = _
  rw [show ((a : Int) * 2 ^ (min 4 32)) = ((16 * a : Nat) : Int) by rw [show min 4 32 = 4 by decide]; omega]
  exact wrap32 (by omega)
theorem codV_next {w : W} {k : Nat} (hk : k < w.length) (h : hexB (w.getD k 0) = true) : (16 * codV (w.take k) ||| hexN (w.getD k 0)) = codV (w.take (k + 1)) := by
  rw [getD_take hk, codV_snoc, or16 (hex_lt h).1]

theorem dCode (hB : HexIx) (w : List UInt8) (hw : w.length ≤ 900000) : DCall C0 44 [vS w] (codA w) := by
  refine DCall.intro c0Ok Tryd.func44 rfl rfl (by kernel_rfl) rfl <| cSeq <| cReg rfl <| oR 2 rfl <| rE 2 <| cSeq <| cSeq <| cReg rfl <| oR 1 rfl <| rOk (x := vN w.length) rfl rfl rfl <| rOk (x := vB (w.length != 8)) rfl rfl (okB (neN _ _)) <| rE 5 ?_
  refine cCond rfl (fun h1 => ?_) (fun h1 => ?_)
  · have h1p := bne_t h1
    refine cSeq <| cReg rfl <| oR 2 rfl <| rE 7 <| cRet ?_
    exact finTA rfl trivial rfl (codA_none (fun q => by have := h1; simp at this; exact this q.1))
  · have h1p := bne_f h1
    have h8 : w.length = 8 := by simpa using h1
    refine cSkip <| cSeq <| cReg rfl <| oR 1 rfl <| rE 6 <| cSeq <| cSeq <| cReg rfl <| oR 1 rfl <| rOk (x := vN w.length) rfl rfl rfl <| oR 1 rfl <| rE 9 <| cBlock <| cLoop (κ := Nat) (fun k => ⟨slotsF [(0, vS w), (9, vB (w.length != 8)), (11, vN w.length), (4, vU (codV (w.take k))), (12, vN k)], heapF [], 9⟩) (fun k => k ≤ w.length ∧ ∀ x ∈ w.take k, hexB x = true) (fun k => w.length - k) 0 (fun s => s) (Weak.of_lists (fun s => s) wT trivial rfl) (⟨Nat.zero_le _, (fun x h => absurd h List.not_mem_nil)⟩) ?_
    intro k hk
    have hkn : k ≤ w.length := hk.1
    have hkB : k ≤ 8 := by omega
    have h16 : k < w.length → 16 * codV (w.take k) ≤ 4294967280 := fun q => codK_le7 hk.2 (by omega)
    refine cSeq <| cReg rfl <| rOk (x := vB (decide (k < w.length))) rfl rfl (okB (ltN _ _)) <| rE 10 <| cSeq ?_
    refine cCond rfl (fun h2 => ?_) (fun h2 => ?_)
    · have h2p := of_decide_eq_true h2
      refine cSkip <| cSeq <| cBlock <| cSeq <| cReg rfl <| oR 2 rfl <| rE 12 <| cSeq <| cReg rfl <| oR 2 rfl <| rNeed (x := .v (.int .u8 (((w.getD k 0).toNat : Nat) : Int))) rfl rfl rfl (⟨Int.natCast_nonneg _, Int.ofNat_lt.2 (by show k < w.length; omega)⟩) <| rCl rfl (.inl rfl) (hB (w.getD k 0)) <| oR 1 rfl <| rE 17 <| cSeq <| cSeq ?_
      refine cReg rfl <| oR 1 rfl <| rOk (x := vB (decide ((hexIx (w.getD k 0)) < 0))) rfl rfl rfl <| rE 19 ?_
      refine cCond rfl (fun h3 => ?_) (fun h3 => ?_)
      · have h3p := of_decide_eq_true h3
        have hN := ix_neg (of_decide_eq_true h3)
        refine cSeq <| cReg rfl <| oR 2 rfl <| rE 21 <| cRet ?_
        exact finTA rfl trivial rfl (codA_none (fun q => hN (q.2 _ (getD_mem (by omega)))))
      · have h3p := of_decide_eq_false h3
        obtain ⟨hH, hX⟩ := ix_pos (of_decide_eq_false h3)
        have hl := (hex_lt hH).1
        refine cSkip <| cReg rfl <| oR 1 rfl <| rNeed (x := vU (16 * codV (w.take k))) rfl rfl (needI (shl32 (h16 (by omega)))) (by decide) <| rOk (x := vN (hexN (w.getD k 0))) rfl rfl (okI hX) <| rOk (x := vU (hexN (w.getD k 0))) rfl rfl (okI (modI (Nat.le_of_lt_succ hl) rfl)) ?_
        have b1 : (16 * codV (w.take k)) ||| (hexN (w.getD k 0)) ≤ 4294967295 := orLe32 (h16 (by omega)) (Nat.le_of_lt_succ hl) rfl rfl
        refine rOk (x := vU ((16 * codV (w.take k)) ||| (hexN (w.getD k 0)))) rfl rfl (okI (orI32 (h16 (by omega)) (Nat.le_of_lt_succ hl) rfl rfl)) <| oR 1 rfl <| rE 25 <| cReg rfl ?_
        have b2 : k + 1 ≤ 9 := Nat.add_le_add hkB (Nat.le_refl 1)
        refine rOk (x := vN (k + 1)) rfl rfl (okI (wrapI64 b2 rfl)) <| oR 1 rfl <| rE 27 ?_
        refine ⟨k + 1, fun s => s, Weak.of_lists (fun s => s) ⟨⟨rfl, rfl⟩, ⟨rfl, rfl⟩, ⟨rfl, rfl⟩, ⟨(congrArg vU (codV_next (by omega) hH)), rfl⟩, ⟨rfl, rfl⟩, trivial⟩ trivial rfl, ⟨by omega, hex_next (by omega) hk.2 hH⟩, by show w.length - (k + 1) < w.length - k; omega⟩
    · have h2p := of_decide_eq_false h2
      refine cExit <| cSeq <| cReg rfl <| oR 3 rfl <| rE 13 <| cRet ?_
      have hT : w.take k = w := List.take_of_length_le (by have := of_decide_eq_false h2; omega)
      have hP := hk.2
      rw [hT] at hP
      refine finTA rfl trivial rfl ?_
      show AV.tup [vU (codV (w.take k)), vB true] = _
      rw [hT]; exact codA_some ⟨h8, hP⟩
/-! ### bytes -/
def bytA (w : W) : AV := match pairL w with | some b => .tup [vS b, vB true] | none => .tup [vS [], vB false]
theorem bytA_none {w : W} (h : pairL w = none) : AV.tup [vS [], vB false] = bytA w := by unfold bytA; rw [h]
theorem bytA_some {w b : W} (h : pairL w = some b) : AV.tup [vS b, vB true] = bytA w := by unfold bytA; rw [h]
def pairK (w : W) (k : Nat) : W := (List.range k).map fun i => UInt8.ofNat (16 * hexN (w.getD (2 * i) 0) + hexN (w.getD (2 * i + 1) 0))
theorem pairK_next (w : W) (k : Nat) : pairK w k ++ [UInt8.ofNat (16 * hexN (w.getD (2 * k) 0) + hexN (w.getD (2 * k + 1) 0))] = pairK w (k + 1) := by unfold pairK; rw [List.range_succ, List.map_append]; rfl
theorem pairK_len (w : W) (k : Nat) : (pairK w k).length = k := by unfold pairK; rw [List.length_map, List.length_range]
def PairP (w : W) (k : Nat) : Prop := ∀ i, i < k → hexB (w.getD (2 * i) 0) = true ∧ hexB (w.getD (2 * i + 1) 0) = true
theorem pair_odd : ∀ (k : Nat) (w : W), w.length = 2 * k + 1 → pairL w = none
  | 0, [x], _ => rfl
  | k + 1, x :: y :: t, h => by
    unfold pairL; rw [pair_odd k t (by simp at h; omega)]; split <;> rfl
  | 0, [], h => by simp at h
  | 0, _ :: _ :: _, h => by simp at h
  | k + 1, [], h => by simp at h
  | k + 1, [_], h => by simp at h
theorem pairP_cons {x y : UInt8} {t : W} {k : Nat} : PairP (x :: y :: t) (k + 1) ↔ (hexB x = true ∧ hexB y = true) ∧ PairP t k := by
  constructor
  · intro h
    exact ⟨h 0 (by omega), fun i hi => h (i + 1) (by omega)⟩
  · rintro ⟨h1, h2⟩ i hi
    cases i with
    | zero => exact h1
    | succ i => exact h2 i (by omega)
theorem pair_yes : ∀ (k : Nat) (w : W), w.length = 2 * k → PairP w k → pairL w = some (pairK w k)
  | 0, [], _, _ => rfl
  | 0, _ :: _, h, _ => by simp at h
  | k + 1, [], h, _ => by simp at h
  | k + 1, [_], h, _ => by simp at h; omega
  | k + 1, x :: y :: t, h, hp => by
    obtain ⟨h1, h2⟩ := pairP_cons.1 hp
    unfold pairL; rw [if_pos h1, pair_yes k t (by simp at h; omega) h2]
    unfold pairK
    rw [List.range_succ_eq_map, List.map_cons, List.map_map]; rfl
theorem pair_no : ∀ (k : Nat) (w : W), w.length = 2 * k → ¬ PairP w k → pairL w = none
  | 0, w, _, hp => absurd (fun i hi => absurd hi (Nat.not_lt_zero _)) hp
  | k + 1, [], h, _ => by simp at h
  | k + 1, [_], h, _ => by simp at h; omega
  | k + 1, x :: y :: t, h, hp => by
    unfold pairL
    split
    · rename_i h1
      rw [pair_no k t (by simp at h; omega) (fun q => hp (pairP_cons.2 ⟨h1, q⟩))]; rfl
    · rfl
theorem shl64 {a : Nat} (h : a ≤ 15) : IntKind.wrap .i64 ((a : Int) * 2 ^ (min (Int.toNat (4 : Int)) (IntKind.bits .i64))) = ((16 * a : Nat) : Int) := by
  show IntKind.wrap .i64 ((a : Int) * 2 ^ (min 4 64)) = _
  rw [show ((a : Int) * 2 ^ (min 4 64)) = ((16 * a : Nat) : Int) by rw [show min 4 64 = 4 by decide]; omega]
  exact wrap_i64 (by omega) (by omega)
theorem or64 {a d : Nat} (h : a ≤ 15) (h2 : d ≤ 15) : IntKind.wrap .i64 (BitVec.ofInt (IntKind.bits .i64) ((16 * a : Nat) : Int) ||| BitVec.ofInt (IntKind.bits .i64) (d : Int)).toNat = ((16 * a + d : Nat) : Int) := by
  show IntKind.wrap .i64 (BitVec.ofInt 64 ((16 * a : Nat) : Int) ||| BitVec.ofInt 64 (d : Int)).toNat = _
  have e : ∀ x : Nat, x ≤ 255 → (BitVec.ofInt 64 (x : Int)).toNat = x := fun x hx => by rw [BitVec.toNat_ofInt]; omega
  rw [BitVec.toNat_or, e _ (by omega), e _ (by omega), or16 (by omega)]
  exact wrap_i64 (by omega) (by omega)
theorem cvt8 (a : Nat) : IntKind.wrap .u8 (a : Int) = (((UInt8.ofNat a).toNat : Nat) : Int) := by
  have e : (UInt8.ofNat a).toNat = a % 256 := rfl
  rw [e]
  simp only [IntKind.wrap, IntKind.signed, IntKind.bits]
  simp

theorem dBytes (hB : HexIx) (w : List UInt8) (hw : w.length ≤ 900000) : DCall C0 47 [vS w] (bytA w) := by
  refine DCall.intro c0Ok Tryd.func47 rfl rfl (by kernel_rfl) rfl <| cSeq <| cReg rfl <| oR 2 rfl <| rE 2 <| cSeq <| cSeq <| cReg rfl <| oR 1 rfl <| rOk (x := vN w.length) rfl rfl rfl ?_
  have b1 : w.length % 2 ≤ 900000 := Nat.le_trans (Nat.mod_le _ _) hw
  refine rNeed (x := vN (w.length % 2)) rfl rfl (needI (tmodN _ _)) omT <| rOk (x := vB ((w.length % 2) != 0)) rfl rfl (okB (neN _ _)) <| rE 6 ?_
  refine cCond rfl (fun h1 => ?_) (fun h1 => ?_)
  · have h1p := bne_t h1
    refine cSeq <| cReg rfl <| oR 2 rfl <| rE 8 <| cRet ?_
    exact finTA rfl trivial rfl (bytA_none (pair_odd (w.length / 2) w (by have := h1p; omega)))
  · have h1p := bne_f h1
    have hev : w.length % 2 = 0 := by simpa using h1
    refine cSkip <| cSeq <| cReg rfl <| oR 1 rfl <| rOk (x := vN w.length) rfl rfl rfl ?_
    have b2 : w.length / 2 ≤ 450000 := by omega
    refine rNeed (x := vN (w.length / 2)) rfl rfl (needI (by rw [show Int.tdiv ((w.length : Nat) : Int) 2 = ((w.length / 2 : Nat) : Int) from rfl]; exact wrap_i64 (by omega) (by omega))) (by decide) <| rFx (x := .osl 9 0 0 false) (h' := upd _ 9 (some (.arr (([] : List UInt8).map row8) 1))) rfl rfl (rfl) (⟨by decide, Int.ofNat_le.2 omT, by show (((w.length / 2) : Nat) : Int) ≤ 1000000; omega⟩) <| oR 1 rfl <| rE 11 <| cSeq <| cSeq <| cReg rfl <| oR 1 rfl <| rE 12 <| cBlock <| cLoop (κ := Nat) (fun k => ⟨slotsF [(0, vS w), (2, .v (.string (⟨#[]⟩ : ByteArray))), (3, vB false), (4, .osl 12 0 k false), (5, vN (2 * k))], heapF [(12, .arr ((pairK w k).map row8) 1)], 13⟩) (fun k => 2 * k ≤ w.length ∧ PairP w k) (fun k => w.length - 2 * k) 0 (fun i => match i with | 12 => 9 | i => i) (Weak.of_lists (fun i => match i with | 12 => 9 | i => i) wT wH rfl) (⟨Nat.zero_le _, fun i hi => absurd hi (Nat.not_lt_zero _)⟩) ?_
    intro k hk
    have hkk : 2 * k ≤ w.length := hk.1
    have hkB : k ≤ 900000 := by omega
    have hkC : 2 * k ≤ 1800000 := by omega
    have hKl := pairK_len w k
    refine cSeq <| cSeq <| cReg rfl <| oR 2 rfl <| rOk (x := vN w.length) rfl rfl rfl <| rOk (x := vB (decide ((2 * k) < w.length))) rfl rfl (okB (ltN _ _)) <| rE 17 ?_
    refine cCond rfl (fun h2 => ?_) (fun h2 => ?_)
    · have h2p := of_decide_eq_true h2
      refine cSkip <| cSeq <| cBlock <| cSeq <| cReg rfl <| oR 2 rfl <| rNeed (x := .v (.int .u8 (((w.getD (2 * k) 0).toNat : Nat) : Int))) rfl rfl rfl (⟨Int.natCast_nonneg _, Int.ofNat_lt.2 (by show (2 * k) < w.length; omega)⟩) <| rCl rfl (.inl rfl) (hB (w.getD (2 * k) 0)) <| oR 1 rfl <| rE 22 <| cSeq <| cReg rfl <| oR 2 rfl ?_
      have b3 : (2 * k) + 1 ≤ 1800001 := Nat.add_le_add hkC (Nat.le_refl 1)
      refine rOk (x := vN ((2 * k) + 1)) rfl rfl (okI (wrapI64 b3 rfl)) <| rNeed (x := .v (.int .u8 (((w.getD ((2 * k) + 1) 0).toNat : Nat) : Int))) rfl rfl rfl (⟨Int.natCast_nonneg _, Int.ofNat_lt.2 (by show ((2 * k) + 1) < w.length; omega)⟩) <| rCl rfl (.inl rfl) (hB (w.getD ((2 * k) + 1) 0)) <| oR 1 rfl <| rE 28 <| cSeq <| cSeq <| cReg rfl <| oR 1 rfl <| rOk (x := vB (decide ((hexIx (w.getD (2 * k) 0)) < 0))) rfl rfl rfl <| oR 1 rfl <| gN rfl <| gBS (x := vB (decide ((hexIx (w.getD ((2 * k) + 1) 0)) < 0))) rfl id rfl <| rNeed rfl rfl rfl (by simp) <| rE 34 ?_
      refine cCond rfl (fun h3 => ?_) (fun h3 => ?_)
      · have hN : ¬ PairP w (w.length / 2) := fun q => by have q2 := q k (by omega); simp only [cOr, Bool.or_eq_true, decide_eq_true_eq] at h3; rcases h3 with z | z; exact ix_neg z q2.1; exact ix_neg z q2.2
        refine cSeq <| cReg rfl <| oR 2 rfl <| rE 36 <| cRet ?_
        exact finTA rfl trivial rfl (bytA_none (pair_no (w.length / 2) w (by omega) hN))
      · simp only [cOr, Bool.or_eq_false_iff, decide_eq_false_iff_not] at h3
        obtain ⟨hH, hX⟩ := ix_pos h3.1
        obtain ⟨hH2, hX2⟩ := ix_pos h3.2
        have hl := Nat.le_of_lt_succ (hex_lt hH).1
        have hl2 := Nat.le_of_lt_succ (hex_lt hH2).1
        refine cSkip <| cReg rfl <| oR 1 rfl <| rOk (x := vN (hexN (w.getD (2 * k) 0))) rfl rfl (okI hX) <| rNeed (x := vN (16 * hexN (w.getD (2 * k) 0))) rfl rfl (needI (shl64 hl)) (by decide) <| rOk (x := vN (hexN (w.getD (2 * k + 1) 0))) rfl rfl (okI hX2) <| rOk (x := vN (16 * hexN (w.getD (2 * k) 0) + hexN (w.getD (2 * k + 1) 0))) rfl rfl (okI (or64 hl hl2)) <| rOk (x := .v (.int .u8 (((UInt8.ofNat (16 * hexN (w.getD (2 * k) 0) + hexN (w.getD (2 * k + 1) 0))).toNat : Nat) : Int))) rfl rfl (okI (cvt8 _)) <| rOk (x := .sl 1 ([[.v (.int .u8 (((UInt8.ofNat (16 * hexN (w.getD (2 * k) 0) + hexN (w.getD (2 * k + 1) 0))).toNat : Nat) : Int))]]) true) rfl rfl rfl <| rFx (x := .osl 41 0 (k + 1) false) (h' := upd (upd _ 12 none) 41 (some (.arr (((pairK w k) ++ ([(UInt8.ofNat (16 * hexN (w.getD (2 * k) 0) + hexN (w.getD (2 * k + 1) 0)))])).map row8) 1))) rfl rfl (app_own row8 (pairK w k) ([(UInt8.ofNat (16 * hexN (w.getD (2 * k) 0) + hexN (w.getD (2 * k + 1) 0)))]) omT omT) (⟨by exact omT, by exact omT, trivial⟩) <| oR 1 rfl <| rE 43 <| cReg rfl <| oR 1 rfl ?_
        have b4 : (2 * k) + 2 ≤ 1800002 := Nat.add_le_add hkC (Nat.le_refl 2)
        refine rOk (x := vN ((2 * k) + 2)) rfl rfl (okI (wrapI64 b4 rfl)) <| oR 1 rfl <| rE 46 ?_
        refine ⟨k + 1, fun i => match i with | 12 => 41 | i => i, Weak.of_lists (fun i => match i with | 12 => 41 | i => i) ⟨⟨rfl, rfl⟩, ⟨rfl, rfl⟩, ⟨rfl, rfl⟩, ⟨(show AV.osl 41 0 (k + 1) false = AV.osl 41 0 (k + 1) false from rfl), rfl⟩, ⟨rfl, rfl⟩, trivial⟩ ⟨⟨rfl, (congrArg (fun z : List UInt8 => some (Blk.arr (z.map row8) 1)) (pairK_next w k)), rfl⟩, trivial⟩ rfl, ⟨by omega, fun i hi => by rcases Nat.lt_or_ge i k with q | q; exact hk.2 i q; obtain rfl : i = k := (by omega); exact ⟨hH, hH2⟩⟩, by show w.length - 2 * (k + 1) < w.length - 2 * k; omega⟩
    · have h2p := of_decide_eq_false h2
      refine cExit <| cSeq <| cReg rfl <| oR 1 rfl <| rStr (pairK w k) (d := 46) rfl rfl rfl ((by show 0 + k ≤ ((pairK w k).map row8).length; rw [List.length_map, pairK_len]; omega)) (own8 (by rw [pairK_len]; omega)) <| oR 2 rfl <| rE 21 <| cRet ?_
      exact finTA rfl trivial rfl (bytA_some (pair_yes k w (by have := of_decide_eq_false h2; omega) hk.2))
end Go.Proofs.YtpefnjbmbfdmmaaDoor
