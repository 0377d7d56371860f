/- Joined texts. -/
import Derived.Test.YtpefnjbmbfdmmaaDoorS7
import Derived.Test.YtpefnjbmbfdmmaaDoorS9
namespace Go.Proofs.YtpefnjbmbfdmmaaDoor
set_option maxRecDepth 100000
set_option maxHeartbeats 4000000
open Go.RowKit Go.Lib
def decA (w : W) : AV := match readD w with | some n => .tup [vI n, vB true] | none => .tup [vI 0, vB false]
theorem decA_none {w : W} (h : ¬ (decOk w ∧ w.length ≤ 9)) : AV.tup [vI 0, vB false] = decA w := by unfold decA readD; rw [if_neg h]
theorem decA_some {w : W} (h : decOk w ∧ w.length ≤ 9) : AV.tup [vN (decV w), vB true] = decA w := by unfold decA readD; rw [if_pos h]
theorem head_getD {w : W} {c : UInt8} (h : w ≠ []) : w.head? = some c ↔ w.getD 0 0 = c := by
  cases w with
  | nil => exact absurd rfl h
  | cons x w => exact ⟨fun q => Option.some.inj q, fun q => congrArg some q⟩
theorem digB_iff {x : UInt8} : digB x = true ↔ 48 ≤ x.toNat ∧ x.toNat ≤ 57 := by unfold digB; simp
theorem dig_next {w : W} {k : Nat} (hk : k < w.length) (hP : ∀ x ∈ w.take k, digB x = true) (h : digB (w.getD k 0) = true) : ∀ x ∈ w.take (k + 1), digB x = true := fun x hx => by
  rw [getD_take hk] at hx
  rcases List.mem_append.1 hx with hx | hx
  · exact hP x hx
  · rw [List.mem_singleton.1 hx]; exact h
theorem getD_mem {w : W} {k : Nat} (hk : k < w.length) : w.getD k 0 ∈ w := by
  rw [List.getD_eq_getElem?_getD, List.getElem?_eq_getElem hk]; exact List.getElem_mem hk
theorem decV_next {w : W} {k : Nat} (hk : k < w.length) (h : digB (w.getD k 0) = true) : 10 * decV (w.take k) + ((w.getD k 0).toNat + 256 - 48) % 256 = decV (w.take (k + 1)) := by
  rw [getD_take hk, decV_snoc]
  have := digB_iff.1 h
  omega
theorem decV_lt : ∀ (k : Nat) (w : W), (∀ x ∈ w.take k, digB x = true) → decV (w.take k) < 10 ^ k
  | 0, w, _ => by show 0 < 1; omega
  | k + 1, w, h => by
    by_cases hk : k < w.length
    · rw [getD_take hk, decV_snoc]
      rw [getD_take hk] at h
      have h1 := decV_lt k w (fun x hx => h x (List.mem_append_left _ hx))
      have h2 := digB_iff.1 (h (w.getD k 0) (by simp))
      rw [Nat.pow_succ]; omega
    · have e : w.take (k + 1) = w.take k := by rw [List.take_of_length_le (by omega), List.take_of_length_le (by omega)]
      rw [e] at h ⊢
      have := decV_lt k w h
      rw [Nat.pow_succ]; omega
theorem decK_le {w : W} {k : Nat} (h : ∀ x ∈ w.take k, digB x = true) (hk : k ≤ 9) : decV (w.take k) ≤ 1000000000 := by
  have h1 := decV_lt k w h
  have : 10 ^ k ≤ 10 ^ 9 := Nat.pow_le_pow_right (by decide) hk
  omega
theorem dDecimal (w : List UInt8) (hw : w.length ≤ 900000) : DCall C0 42 [vS w] (decA w) := by
  refine DCall.intro c0Ok Tryd.func42 rfl rfl (by kernel_rfl) rfl <| cSeq <| cReg rfl <| oR 2 rfl <| rE 2 <| cSeq <| cSeq <| cReg rfl <| oR 1 rfl <| rOk (x := vB (decide (w = []))) rfl rfl (okBo (eq_tL w ([]))) <| oR 1 rfl <| gN rfl <| gBS (x := vN w.length) rfl id rfl <| gBS (x := vB (decide (w.length > 9))) rfl id (okB (gtN _ _)) <| rNeed rfl rfl rfl (by simp) <| oR 1 rfl ?_
  refine gN rfl <| gNeedS (x := .v (.int .u8 (((w.getD 0 0).toNat : Nat) : Int))) (g := !(cond2 (decide (w = [])) true (decide (w.length > 9)))) rfl rfl rfl rfl (fun h => h) rfl rfl (fun hg => ⟨by decide, Int.ofNat_lt.2 (by show 0 < w.length; simp only [cOr, Bool.not_eq_true', Bool.or_eq_false_iff, decide_eq_false_iff_not] at hg; exact List.length_pos_iff.2 hg.1)⟩) <| gBS (x := vB (((w.getD 0 0).toNat) == 48)) rfl id (okB (eqN _ _)) <| gS rfl id <| gN rfl <| gBS (x := vB (!decide (w = [48]))) rfl id (okBo (congrArg (!·) (eq_tL w ([48])))) <| gNeedS (x := vB (cond2 (((w.getD 0 0).toNat) == 48) (!decide (w = [48])) false)) (g := !(cond2 (decide (w = [])) true (decide (w.length > 9)))) rfl rfl rfl rfl (fun h => h) rfl rfl (fun hg hc => by first | (rw [hg, hc]; rfl) | simp_all) <| rNeed rfl rfl rfl (by simp) <| rE 18 ?_
  refine cCond rfl (fun h1 => ?_) (fun h1 => ?_)
  · have hB : ¬ (decOk w ∧ w.length ≤ 9) := fun ⟨q1, q2⟩ => by
      have q3 := q1.1
      have q4 := q1.2.2
      rw [head_getD q3] at q4
      simp only [cOr, cAnd, Bool.or_eq_true, Bool.and_eq_true, decide_eq_true_eq, beq_iff_eq, Bool.not_eq_true', decide_eq_false_iff_not] at h1
      rcases h1 with (q | q) | q
      · exact q3 q
      · omega
      · exact q.2 (q4 (u8_eq (by rw [q.1]; rfl)))
    refine cSeq <| cReg rfl <| oR 2 rfl <| rE 20 <| cRet ?_
    exact finTA rfl trivial rfl (decA_none hB)
  · obtain ⟨hw0, hw9, hwz⟩ : w ≠ [] ∧ w.length ≤ 9 ∧ (w.getD 0 0 = 48 → w = [48]) := by
      simp only [cOr, cAnd, Bool.or_eq_false_iff, Bool.and_eq_false_iff, decide_eq_false_iff_not, beq_eq_false_iff_ne, ne_eq, Bool.not_eq_false', decide_eq_true_eq] at h1
      refine ⟨h1.1.1, by have := h1.1.2; omega, fun q => ?_⟩
      rcases h1.2 with z | z
      · exact absurd (by rw [q]; rfl) z
      · exact z
    refine cSkip <| cSeq <| cReg rfl <| oR 1 rfl <| rE 19 <| cSeq <| cSeq <| cReg rfl <| oR 1 rfl <| rOk (x := vN w.length) rfl rfl rfl <| oR 1 rfl <| rE 22 <| cBlock <| cLoop (κ := Nat) (fun k => ⟨slotsF [(0, vS w), (21, vB (cond2 (cond2 (decide (w = [])) true (decide (w.length > 9))) true (cond2 (((w.getD 0 0).toNat) == 48) (!decide (w = [48])) false))), (23, vN w.length), (4, vN (decV (w.take k))), (24, vN k)], heapF [], 22⟩) (fun k => k ≤ w.length ∧ ∀ x ∈ w.take k, digB x = true) (fun k => w.length - k) 0 (fun s => s) (Weak.of_lists (fun s => s) wT trivial rfl) (⟨Nat.zero_le _, (fun x h => absurd h List.not_mem_nil)⟩) ?_
    intro k hk
    have hkn : k ≤ w.length := hk.1
    have hkB : k ≤ 9 := by omega
    refine cSeq <| cReg rfl <| rOk (x := vB (decide (k < w.length))) rfl rfl (okB (ltN _ _)) <| rE 23 <| cSeq ?_
    refine cCond rfl (fun h2 => ?_) (fun h2 => ?_)
    · have h2p := of_decide_eq_true h2
      refine cSkip <| cSeq <| cBlock <| cSeq <| cReg rfl <| oR 2 rfl <| rE 25 <| cSeq <| cSeq <| cReg rfl <| oR 2 rfl <| rNeed (x := .v (.int .u8 (((w.getD k 0).toNat : Nat) : Int))) rfl rfl rfl (⟨Int.natCast_nonneg _, Int.ofNat_lt.2 (by show k < w.length; omega)⟩) <| rOk (x := vB (decide (((w.getD k 0).toNat) < 48))) rfl rfl (okB (ltN _ _)) <| oR 1 rfl <| gN rfl <| gN rfl ?_
      refine gNeedS (x := .v (.int .u8 (((w.getD k 0).toNat : Nat) : Int))) (g := !(decide (((w.getD k 0).toNat) < 48))) rfl rfl rfl rfl (fun h => by first | (simp_all; done) | exact (Bool.and_eq_true_iff.1 h).1 | exact Bool.and_eq_true_iff.2 ⟨h, h⟩) rfl rfl (fun hg => ⟨Int.natCast_nonneg _, Int.ofNat_lt.2 (by show k < w.length; omega)⟩) <| gBS (x := vB (decide (((w.getD k 0).toNat) > 57))) rfl id (okB (gtN _ _)) <| rNeed rfl rfl rfl (by simp) <| rE 35 ?_
      refine cCond rfl (fun h3 => ?_) (fun h3 => ?_)
      · have hB : ¬ (decOk w ∧ w.length ≤ 9) := fun ⟨q1, q2⟩ => by have q3 := digB_iff.1 (q1.2.1 _ (getD_mem (k := k) (by omega))); simp only [cOr, Bool.or_eq_true, decide_eq_true_eq] at h3; omega
        refine cSeq <| cReg rfl <| oR 2 rfl <| rE 37 <| cRet ?_
        exact finTA rfl trivial rfl (decA_none hB)
      · have hD : digB (w.getD k 0) = true := digB_iff.2 (by simp only [cOr, Bool.or_eq_false_iff, decide_eq_false_iff_not] at h3; omega)
        refine cSkip <| cReg rfl <| oR 1 rfl ?_
        have b1 : 10 * (decV (w.take k)) ≤ 10000000000 := Nat.mul_le_mul (Nat.le_refl 10) (decK_le hk.2 (by omega))
        refine rOk (x := vN (10 * (decV (w.take k)))) rfl rfl (okI (wrapI64 b1 rfl)) <| oR 2 rfl <| rNeed (x := .v (.int .u8 (((w.getD k 0).toNat : Nat) : Int))) rfl rfl rfl (⟨Int.natCast_nonneg _, Int.ofNat_lt.2 (by show k < w.length; omega)⟩) ?_
        have b2 : (((w.getD k 0).toNat) + 256 - 48) % 256 ≤ 255 := Nat.le_of_lt_succ (Nat.mod_lt _ (by decide))
        refine rOk (x := .v (.int .u8 (((((w.getD k 0).toNat) + 256 - 48) % 256 : Nat) : Int))) rfl rfl (okI (subI8 (Nat.le_refl 48) rfl)) <| rOk (x := vN ((((w.getD k 0).toNat) + 256 - 48) % 256)) rfl rfl (okI (wrapI64 b2 rfl)) ?_
        have b3 : (10 * (decV (w.take k))) + ((((w.getD k 0).toNat) + 256 - 48) % 256) ≤ 10000000255 := Nat.add_le_add b1 b2
        refine rOk (x := vN ((10 * (decV (w.take k))) + ((((w.getD k 0).toNat) + 256 - 48) % 256))) rfl rfl (okI (wrapI64 b3 rfl)) <| oR 1 rfl <| rE 44 <| cReg rfl ?_
        have b4 : k + 1 ≤ 10 := Nat.add_le_add hkB (Nat.le_refl 1)
        refine rOk (x := vN (k + 1)) rfl rfl (okI (wrapI64 b4 rfl)) <| oR 1 rfl <| rE 46 ?_
        refine ⟨k + 1, fun s => s, Weak.of_lists (fun s => s) ⟨⟨rfl, rfl⟩, ⟨rfl, rfl⟩, ⟨rfl, rfl⟩, ⟨(congrArg vN (decV_next (by omega) hD)), rfl⟩, ⟨rfl, rfl⟩, trivial⟩ trivial rfl, ⟨by omega, dig_next (by omega) hk.2 hD⟩, by show w.length - (k + 1) < w.length - k; omega⟩
    · have h2p := of_decide_eq_false h2
      refine cExit <| cSeq <| cReg rfl <| oR 3 rfl <| rE 26 <| cRet ?_
      have hT : w.take k = w := List.take_of_length_le (by have := of_decide_eq_false h2; omega)
      have hP := hk.2
      rw [hT] at hP
      refine finTA rfl trivial rfl ?_
      show AV.tup [vN (decV (w.take k)), vB true] = _
      rw [hT]; exact decA_some ⟨⟨hw0, hP, fun q => hwz ((head_getD hw0).1 q)⟩, hw9⟩
def hexIx (c : UInt8) : Int := if hexB c = true then (hexN c : Int) else -1
abbrev hexS : ByteArray := ⟨#[48, 49, 50, 51, 52, 53, 54, 55, 56, 57, 97, 98, 99, 100, 101, 102]⟩
def HexIx : Prop := ∀ c : UInt8, DCall C0 65 [.v (.string hexS), .v (.int .u8 ((c.toNat : Nat) : Int))] (vI (hexIx c))
theorem ix_neg {c : UInt8} (h : hexIx c < 0) : ¬ hexB c = true := fun q => by unfold hexIx at h; rw [if_pos q] at h; omega
theorem ix_pos {c : UInt8} (h : ¬ hexIx c < 0) : hexB c = true ∧ hexIx c = (hexN c : Int) := by
  unfold hexIx at h ⊢
  split
  · rename_i q; exact ⟨q, rfl⟩
  · rename_i q; rw [if_neg q] at h; omega
def codA (w : W) : AV := match readC w with | some n => .tup [vU n, vB true] | none => .tup [vU 0, vB false]
theorem codA_none {w : W} (h : ¬ (w.length = 8 ∧ ∀ x ∈ w, hexB x = true)) : AV.tup [vU 0, vB false] = codA w := by unfold codA readC; rw [if_neg h]
theorem codA_some {w : W} (h : w.length = 8 ∧ ∀ x ∈ w, hexB x = true) : AV.tup [vU (codV w), vB true] = codA w := by unfold codA readC; rw [if_pos h]
theorem hex_next {w : W} {k : Nat} (hk : k < w.length) (hP : ∀ x ∈ w.take k, hexB x = true) (h : hexB (w.getD k 0) = true) : ∀ x ∈ w.take (k + 1), hexB x = true := fun x hx => by
  rw [getD_take hk] at hx
  rcases List.mem_append.1 hx with hx | hx
  · exact hP x hx
  · rw [List.mem_singleton.1 hx]; exact h
theorem codV_lt : ∀ (k : Nat) (w : W), (∀ x ∈ w.take k, hexB x = true) → codV (w.take k) < 16 ^ k
  | 0, w, _ => by show 0 < 1; omega
  | k + 1, w, h => by
    by_cases hk : k < w.length
    · rw [getD_take hk, codV_snoc]
      rw [getD_take hk] at h
      have h1 := codV_lt k w (fun x hx => h x (List.mem_append_left _ hx))
      have h2 := (hex_lt (h (w.getD k 0) (by simp))).1
      rw [Nat.pow_succ]; omega
    · have e : w.take (k + 1) = w.take k := by rw [List.take_of_length_le (by omega), List.take_of_length_le (by omega)]
      rw [e] at h ⊢
      have := codV_lt k w h
      rw [Nat.pow_succ]; omega
theorem codK_le {w : W} {k : Nat} (h : ∀ x ∈ w.take k, hexB x = true) (hk : k ≤ 8) : codV (w.take k) ≤ 4294967295 := by
  have h1 := codV_lt k w h
  have : 16 ^ k ≤ 16 ^ 8 := Nat.pow_le_pow_right (by decide) hk
  omega
theorem codK_le7 {w : W} {k : Nat} (h : ∀ x ∈ w.take k, hexB x = true) (hk : k ≤ 7) : 16 * codV (w.take k) ≤ 4294967280 := by
  have h1 := codV_lt k w h
  have : 16 ^ k ≤ 16 ^ 7 := Nat.pow_le_pow_right (by decide) hk
  omega
theorem or16 {a d : Nat} (h : d < 16) : 16 * a ||| d = 16 * a + d := by
  have := Nat.two_pow_add_eq_or_of_lt (i := 4) h a
  show 2 ^ 4 * a ||| d = _
  rw [← this]
theorem shl32 {a : Nat} (h : 16 * a ≤ 4294967280) : IntKind.wrap .u32 ((a : Int) * 2 ^ (min (Int.toNat (4 : Int)) (IntKind.bits .u32))) = ((16 * a : Nat) : Int) := by
  show IntKind.wrap .u32 ((a : Int) * 2 ^ (min 4 32)) = _
  rw [show ((a : Int) * 2 ^ (min 4 32)) = ((16 * a : Nat) : Int) by rw [show min 4 32 = 4 by decide]; omega]
  exact wrap32 (by omega)
theorem codV_next {w : W} {k : Nat} (hk : k < w.length) (h : hexB (w.getD k 0) = true) : (16 * codV (w.take k) ||| hexN (w.getD k 0)) = codV (w.take (k + 1)) := by
  rw [getD_take hk, codV_snoc, or16 (hex_lt h).1]
theorem dCode (hB : HexIx) (w : List UInt8) (hw : w.length ≤ 900000) : DCall C0 44 [vS w] (codA w) := by
  refine DCall.intro c0Ok Tryd.func44 rfl rfl (by kernel_rfl) rfl <| cSeq <| cReg rfl <| oR 2 rfl <| rE 2 <| cSeq <| cSeq <| cReg rfl <| oR 1 rfl <| rOk (x := vN w.length) rfl rfl rfl <| rOk (x := vB (w.length != 8)) rfl rfl (okB (neN _ _)) <| rE 5 ?_
  refine cCond rfl (fun h1 => ?_) (fun h1 => ?_)
  · have h1p := bne_t h1
    refine cSeq <| cReg rfl <| oR 2 rfl <| rE 7 <| cRet ?_
    exact finTA rfl trivial rfl (codA_none (fun q => by have := h1; simp at this; exact this q.1))
  · have h1p := bne_f h1
    have h8 : w.length = 8 := by simpa using h1
    refine cSkip <| cSeq <| cReg rfl <| oR 1 rfl <| rE 6 <| cSeq <| cSeq <| cReg rfl <| oR 1 rfl <| rOk (x := vN w.length) rfl rfl rfl <| oR 1 rfl <| rE 9 <| cBlock <| cLoop (κ := Nat) (fun k => ⟨slotsF [(0, vS w), (9, vB (w.length != 8)), (11, vN w.length), (4, vU (codV (w.take k))), (12, vN k)], heapF [], 9⟩) (fun k => k ≤ w.length ∧ ∀ x ∈ w.take k, hexB x = true) (fun k => w.length - k) 0 (fun s => s) (Weak.of_lists (fun s => s) wT trivial rfl) (⟨Nat.zero_le _, (fun x h => absurd h List.not_mem_nil)⟩) ?_
    intro k hk
    have hkn : k ≤ w.length := hk.1
    have hkB : k ≤ 8 := by omega
    have h16 : k < w.length → 16 * codV (w.take k) ≤ 4294967280 := fun q => codK_le7 hk.2 (by omega)
    refine cSeq <| cReg rfl <| rOk (x := vB (decide (k < w.length))) rfl rfl (okB (ltN _ _)) <| rE 10 <| cSeq ?_
    refine cCond rfl (fun h2 => ?_) (fun h2 => ?_)
    · have h2p := of_decide_eq_true h2
      refine cSkip <| cSeq <| cBlock <| cSeq <| cReg rfl <| oR 2 rfl <| rE 12 <| cSeq <| cReg rfl <| oR 2 rfl <| rNeed (x := .v (.int .u8 (((w.getD k 0).toNat : Nat) : Int))) rfl rfl rfl (⟨Int.natCast_nonneg _, Int.ofNat_lt.2 (by show k < w.length; omega)⟩) <| rCl rfl (.inl rfl) (hB (w.getD k 0)) <| oR 1 rfl <| rE 17 <| cSeq <| cSeq ?_
      refine cReg rfl <| oR 1 rfl <| rOk (x := vB (decide ((hexIx (w.getD k 0)) < 0))) rfl rfl rfl <| rE 19 ?_
      refine cCond rfl (fun h3 => ?_) (fun h3 => ?_)
      · have h3p := of_decide_eq_true h3
        have hN := ix_neg (of_decide_eq_true h3)
        refine cSeq <| cReg rfl <| oR 2 rfl <| rE 21 <| cRet ?_
        exact finTA rfl trivial rfl (codA_none (fun q => hN (q.2 _ (getD_mem (by omega)))))
      · have h3p := of_decide_eq_false h3
        obtain ⟨hH, hX⟩ := ix_pos (of_decide_eq_false h3)
        have hl := (hex_lt hH).1
        refine cSkip <| cReg rfl <| oR 1 rfl <| rNeed (x := vU (16 * codV (w.take k))) rfl rfl (needI (shl32 (h16 (by omega)))) (by decide) <| rOk (x := vN (hexN (w.getD k 0))) rfl rfl (okI hX) <| rOk (x := vU (hexN (w.getD k 0))) rfl rfl (okI (modI (Nat.le_of_lt_succ hl) rfl)) ?_
        have b1 : (16 * codV (w.take k)) ||| (hexN (w.getD k 0)) ≤ 4294967295 := orLe32 (h16 (by omega)) (Nat.le_of_lt_succ hl) rfl rfl
        refine rOk (x := vU ((16 * codV (w.take k)) ||| (hexN (w.getD k 0)))) rfl rfl (okI (orI32 (h16 (by omega)) (Nat.le_of_lt_succ hl) rfl rfl)) <| oR 1 rfl <| rE 25 <| cReg rfl ?_
        have b2 : k + 1 ≤ 9 := Nat.add_le_add hkB (Nat.le_refl 1)
        refine rOk (x := vN (k + 1)) rfl rfl (okI (wrapI64 b2 rfl)) <| oR 1 rfl <| rE 27 ?_
        refine ⟨k + 1, fun s => s, Weak.of_lists (fun s => s) ⟨⟨rfl, rfl⟩, ⟨rfl, rfl⟩, ⟨rfl, rfl⟩, ⟨(congrArg vU (codV_next (by omega) hH)), rfl⟩, ⟨rfl, rfl⟩, trivial⟩ trivial rfl, ⟨by omega, hex_next (by omega) hk.2 hH⟩, by show w.length - (k + 1) < w.length - k; omega⟩
    · have h2p := of_decide_eq_false h2
      refine cExit <| cSeq <| cReg rfl <| oR 3 rfl <| rE 13 <| cRet ?_
      have hT : w.take k = w := List.take_of_length_le (by have := of_decide_eq_false h2; omega)
      have hP := hk.2
      rw [hT] at hP
      refine finTA rfl trivial rfl ?_
      show AV.tup [vU (codV (w.take k)), vB true] = _
      rw [hT]; exact codA_some ⟨h8, hP⟩
def bytA (w : W) : AV := match pairL w with | some b => .tup [vS b, vB true] | none => .tup [vS [], vB false]
theorem bytA_none {w : W} (h : pairL w = none) : AV.tup [vS [], vB false] = bytA w := by unfold bytA; rw [h]
theorem bytA_some {w b : W} (h : pairL w = some b) : AV.tup [vS b, vB true] = bytA w := by unfold bytA; rw [h]
def pairK (w : W) (k : Nat) : W := (List.range k).map fun i => UInt8.ofNat (16 * hexN (w.getD (2 * i) 0) + hexN (w.getD (2 * i + 1) 0))
theorem pairK_next (w : W) (k : Nat) : pairK w k ++ [UInt8.ofNat (16 * hexN (w.getD (2 * k) 0) + hexN (w.getD (2 * k + 1) 0))] = pairK w (k + 1) := by unfold pairK; rw [List.range_succ, List.map_append]; rfl
theorem pairK_len (w : W) (k : Nat) : (pairK w k).length = k := by unfold pairK; rw [List.length_map, List.length_range]
def PairP (w : W) (k : Nat) : Prop := ∀ i, i < k → hexB (w.getD (2 * i) 0) = true ∧ hexB (w.getD (2 * i + 1) 0) = true
theorem pair_odd : ∀ (k : Nat) (w : W), w.length = 2 * k + 1 → pairL w = none
  | 0, [x], _ => rfl
  | k + 1, x :: y :: t, h => by
    unfold pairL; rw [pair_odd k t (by simp at h; omega)]; split <;> rfl
  | 0, [], h => by simp at h
  | 0, _ :: _ :: _, h => by simp at h
  | k + 1, [], h => by simp at h
  | k + 1, [_], h => by simp at h
theorem pairP_cons {x y : UInt8} {t : W} {k : Nat} : PairP (x :: y :: t) (k + 1) ↔ (hexB x = true ∧ hexB y = true) ∧ PairP t k := by
  constructor
  · intro h
    exact ⟨h 0 (by omega), fun i hi => h (i + 1) (by omega)⟩
  · rintro ⟨h1, h2⟩ i hi
    cases i with
    | zero => exact h1
    | succ i => exact h2 i (by omega)
theorem pair_yes : ∀ (k : Nat) (w : W), w.length = 2 * k → PairP w k → pairL w = some (pairK w k)
  | 0, [], _, _ => rfl
  | 0, _ :: _, h, _ => by simp at h
  | k + 1, [], h, _ => by simp at h
  | k + 1, [_], h, _ => by simp at h; omega
  | k + 1, x :: y :: t, h, hp => by
    obtain ⟨h1, h2⟩ := pairP_cons.1 hp
    unfold pairL; rw [if_pos h1, pair_yes k t (by simp at h; omega) h2]
    unfold pairK
    rw [List.range_succ_eq_map, List.map_cons, List.map_map]; rfl
theorem pair_no : ∀ (k : Nat) (w : W), w.length = 2 * k → ¬ PairP w k → pairL w = none
  | 0, w, _, hp => absurd (fun i hi => absurd hi (Nat.not_lt_zero _)) hp
  | k + 1, [], h, _ => by simp at h
  | k + 1, [_], h, _ => by simp at h; omega
  | k + 1, x :: y :: t, h, hp => by
    unfold pairL
    split
    · rename_i h1
      rw [pair_no k t (by simp at h; omega) (fun q => hp (pairP_cons.2 ⟨h1, q⟩))]; rfl
    · rfl
theorem shl64 {a : Nat} (h : a ≤ 15) : IntKind.wrap .i64 ((a : Int) * 2 ^ (min (Int.toNat (4 : Int)) (IntKind.bits .i64))) = ((16 * a : Nat) : Int) := by
  show IntKind.wrap .i64 ((a : Int) * 2 ^ (min 4 64)) = _
  rw [show ((a : Int) * 2 ^ (min 4 64)) = ((16 * a : Nat) : Int) by rw [show min 4 64 = 4 by decide]; omega]
  exact wrap_i64 (by omega) (by omega)
theorem or64 {a d : Nat} (h : a ≤ 15) (h2 : d ≤ 15) : IntKind.wrap .i64 (BitVec.ofInt (IntKind.bits .i64) ((16 * a : Nat) : Int) ||| BitVec.ofInt (IntKind.bits .i64) (d : Int)).toNat = ((16 * a + d : Nat) : Int) := by
  show IntKind.wrap .i64 (BitVec.ofInt 64 ((16 * a : Nat) : Int) ||| BitVec.ofInt 64 (d : Int)).toNat = _
  have e : ∀ x : Nat, x ≤ 255 → (BitVec.ofInt 64 (x : Int)).toNat = x := fun x hx => by rw [BitVec.toNat_ofInt]; omega
  rw [BitVec.toNat_or, e _ (by omega), e _ (by omega), or16 (by omega)]
  exact wrap_i64 (by omega) (by omega)
theorem cvt8 (a : Nat) : IntKind.wrap .u8 (a : Int) = (((UInt8.ofNat a).toNat : Nat) : Int) := by
  have e : (UInt8.ofNat a).toNat = a % 256 := rfl
  rw [e]
  simp only [IntKind.wrap, IntKind.signed, IntKind.bits]
  simp
theorem dBytes (hB : HexIx) (w : List UInt8) (hw : w.length ≤ 900000) : DCall C0 47 [vS w] (bytA w) := by
  refine DCall.intro c0Ok Tryd.func47 rfl rfl (by kernel_rfl) rfl <| cSeq <| cReg rfl <| oR 2 rfl <| rE 2 <| cSeq <| cSeq <| cReg rfl <| oR 1 rfl <| rOk (x := vN w.length) rfl rfl rfl ?_
  have b1 : w.length % 2 ≤ 900000 := Nat.le_trans (Nat.mod_le _ _) hw
  refine rNeed (x := vN (w.length % 2)) rfl rfl (needI (tmodN _ _)) omT <| rOk (x := vB ((w.length % 2) != 0)) rfl rfl (okB (neN _ _)) <| rE 6 ?_
  refine cCond rfl (fun h1 => ?_) (fun h1 => ?_)
  · have h1p := bne_t h1
    refine cSeq <| cReg rfl <| oR 2 rfl <| rE 8 <| cRet ?_
    exact finTA rfl trivial rfl (bytA_none (pair_odd (w.length / 2) w (by have := h1p; omega)))
  · have h1p := bne_f h1
    have hev : w.length % 2 = 0 := by simpa using h1
    refine cSkip <| cSeq <| cReg rfl <| oR 1 rfl <| rOk (x := vN w.length) rfl rfl rfl ?_
    have b2 : w.length / 2 ≤ 450000 := by omega
    refine rNeed (x := vN (w.length / 2)) rfl rfl (needI (by rw [show Int.tdiv ((w.length : Nat) : Int) 2 = ((w.length / 2 : Nat) : Int) from rfl]; exact wrap_i64 (by omega) (by omega))) (by decide) <| rFx (x := .osl 9 0 0 false) (h' := upd _ 9 (some (.arr (([] : List UInt8).map row8) 1))) rfl rfl (rfl) (⟨by decide, Int.ofNat_le.2 omT, by show (((w.length / 2) : Nat) : Int) ≤ 1000000; omega⟩) <| oR 1 rfl <| rE 11 <| cSeq <| cSeq <| cReg rfl <| oR 1 rfl <| rE 12 <| cBlock <| cLoop (κ := Nat) (fun k => ⟨slotsF [(0, vS w), (2, .v (.string (⟨#[]⟩ : ByteArray))), (3, vB false), (4, .osl 12 0 k false), (5, vN (2 * k))], heapF [(12, .arr ((pairK w k).map row8) 1)], 13⟩) (fun k => 2 * k ≤ w.length ∧ PairP w k) (fun k => w.length - 2 * k) 0 (fun i => match i with | 12 => 9 | i => i) (Weak.of_lists (fun i => match i with | 12 => 9 | i => i) wT wH rfl) (⟨Nat.zero_le _, fun i hi => absurd hi (Nat.not_lt_zero _)⟩) ?_
    intro k hk
    have hkk : 2 * k ≤ w.length := hk.1
    have hkB : k ≤ 900000 := by omega
    have hkC : 2 * k ≤ 1800000 := by omega
    have hKl := pairK_len w k
    refine cSeq <| cSeq <| cReg rfl <| oR 2 rfl <| rOk (x := vN w.length) rfl rfl rfl <| rOk (x := vB (decide ((2 * k) < w.length))) rfl rfl (okB (ltN _ _)) <| rE 17 ?_
    refine cCond rfl (fun h2 => ?_) (fun h2 => ?_)
    · have h2p := of_decide_eq_true h2
      refine cSkip <| cSeq <| cBlock <| cSeq <| cReg rfl <| oR 2 rfl <| rNeed (x := .v (.int .u8 (((w.getD (2 * k) 0).toNat : Nat) : Int))) rfl rfl rfl (⟨Int.natCast_nonneg _, Int.ofNat_lt.2 (by show (2 * k) < w.length; omega)⟩) <| rCl rfl (.inl rfl) (hB (w.getD (2 * k) 0)) <| oR 1 rfl <| rE 22 <| cSeq <| cReg rfl <| oR 2 rfl ?_
      have b3 : (2 * k) + 1 ≤ 1800001 := Nat.add_le_add hkC (Nat.le_refl 1)
      refine rOk (x := vN ((2 * k) + 1)) rfl rfl (okI (wrapI64 b3 rfl)) <| rNeed (x := .v (.int .u8 (((w.getD ((2 * k) + 1) 0).toNat : Nat) : Int))) rfl rfl rfl (⟨Int.natCast_nonneg _, Int.ofNat_lt.2 (by show ((2 * k) + 1) < w.length; omega)⟩) <| rCl rfl (.inl rfl) (hB (w.getD ((2 * k) + 1) 0)) <| oR 1 rfl <| rE 28 <| cSeq <| cSeq <| cReg rfl <| oR 1 rfl <| rOk (x := vB (decide ((hexIx (w.getD (2 * k) 0)) < 0))) rfl rfl rfl <| oR 1 rfl <| gN rfl <| gBS (x := vB (decide ((hexIx (w.getD ((2 * k) + 1) 0)) < 0))) rfl id rfl <| rNeed rfl rfl rfl (by simp) <| rE 34 ?_
      refine cCond rfl (fun h3 => ?_) (fun h3 => ?_)
      · have hN : ¬ PairP w (w.length / 2) := fun q => by have q2 := q k (by omega); simp only [cOr, Bool.or_eq_true, decide_eq_true_eq] at h3; rcases h3 with z | z; exact ix_neg z q2.1; exact ix_neg z q2.2
        refine cSeq <| cReg rfl <| oR 2 rfl <| rE 36 <| cRet ?_
        exact finTA rfl trivial rfl (bytA_none (pair_no (w.length / 2) w (by omega) hN))
      · simp only [cOr, Bool.or_eq_false_iff, decide_eq_false_iff_not] at h3
        obtain ⟨hH, hX⟩ := ix_pos h3.1
        obtain ⟨hH2, hX2⟩ := ix_pos h3.2
        have hl := Nat.le_of_lt_succ (hex_lt hH).1
        have hl2 := Nat.le_of_lt_succ (hex_lt hH2).1
        refine cSkip <| cReg rfl <| oR 1 rfl <| rOk (x := vN (hexN (w.getD (2 * k) 0))) rfl rfl (okI hX) <| rNeed (x := vN (16 * hexN (w.getD (2 * k) 0))) rfl rfl (needI (shl64 hl)) (by decide) <| rOk (x := vN (hexN (w.getD (2 * k + 1) 0))) rfl rfl (okI hX2) <| rOk (x := vN (16 * hexN (w.getD (2 * k) 0) + hexN (w.getD (2 * k + 1) 0))) rfl rfl (okI (or64 hl hl2)) <| rOk (x := .v (.int .u8 (((UInt8.ofNat (16 * hexN (w.getD (2 * k) 0) + hexN (w.getD (2 * k + 1) 0))).toNat : Nat) : Int))) rfl rfl (okI (cvt8 _)) <| rOk (x := .sl 1 ([[.v (.int .u8 (((UInt8.ofNat (16 * hexN (w.getD (2 * k) 0) + hexN (w.getD (2 * k + 1) 0))).toNat : Nat) : Int))]]) true) rfl rfl rfl <| rFx (x := .osl 41 0 (k + 1) false) (h' := upd (upd _ 12 none) 41 (some (.arr (((pairK w k) ++ ([(UInt8.ofNat (16 * hexN (w.getD (2 * k) 0) + hexN (w.getD (2 * k + 1) 0)))])).map row8) 1))) rfl rfl (app_own row8 (pairK w k) ([(UInt8.ofNat (16 * hexN (w.getD (2 * k) 0) + hexN (w.getD (2 * k + 1) 0)))]) omT omT) (⟨by exact omT, by exact omT, trivial⟩) <| oR 1 rfl <| rE 43 <| cReg rfl <| oR 1 rfl ?_
        have b4 : (2 * k) + 2 ≤ 1800002 := Nat.add_le_add hkC (Nat.le_refl 2)
        refine rOk (x := vN ((2 * k) + 2)) rfl rfl (okI (wrapI64 b4 rfl)) <| oR 1 rfl <| rE 46 ?_
        refine ⟨k + 1, fun i => match i with | 12 => 41 | i => i, Weak.of_lists (fun i => match i with | 12 => 41 | i => i) ⟨⟨rfl, rfl⟩, ⟨rfl, rfl⟩, ⟨rfl, rfl⟩, ⟨(show AV.osl 41 0 (k + 1) false = AV.osl 41 0 (k + 1) false from rfl), rfl⟩, ⟨rfl, rfl⟩, trivial⟩ ⟨⟨rfl, (congrArg (fun z : List UInt8 => some (Blk.arr (z.map row8) 1)) (pairK_next w k)), rfl⟩, trivial⟩ rfl, ⟨by omega, fun i hi => by rcases Nat.lt_or_ge i k with q | q; exact hk.2 i q; obtain rfl : i = k := (by omega); exact ⟨hH, hH2⟩⟩, by show w.length - 2 * (k + 1) < w.length - 2 * k; omega⟩
    · have h2p := of_decide_eq_false h2
      refine cExit <| cSeq <| cReg rfl <| oR 1 rfl <| rStr (pairK w k) (d := 46) rfl rfl rfl ((by show 0 + k ≤ ((pairK w k).map row8).length; rw [List.length_map, pairK_len]; omega)) (own8 (by rw [pairK_len]; omega)) <| oR 2 rfl <| rE 21 <| cRet ?_
      exact finTA rfl trivial rfl (bytA_some (pair_yes k w (by have := of_decide_eq_false h2; omega) hk.2))
theorem dDecimal2 (w : W) (hw : w.length ≤ 900000) : DCall C0 42 [vS w] (.tup [vI ((readD w).getD 0), vB (readD w).isSome]) := by
  have h := dDecimal w hw
  unfold decA at h
  cases hr : readD w with
  | none => rw [hr] at h; exact h
  | some n => rw [hr] at h; exact h
theorem dCode2 (hB : HexIx) (w : W) (hw : w.length ≤ 900000) : DCall C0 44 [vS w] (.tup [vU ((readC w).getD 0), vB (readC w).isSome]) := by
  have h := dCode hB w hw
  unfold codA at h
  cases hr : readC w with
  | none => rw [hr] at h; exact h
  | some n => rw [hr] at h; exact h
theorem dBytes2 (hB : HexIx) (w : W) (hw : w.length ≤ 900000) : DCall C0 47 [vS w] (.tup [vS ((pairL w).getD []), vB (pairL w).isSome]) := by
  have h := dBytes hB w hw
  unfold bytA at h
  cases hr : pairL w with
  | none => rw [hr] at h; exact h
  | some n => rw [hr] at h; exact h
theorem readC_le (w : W) : (readC w).getD 0 ≤ 4294967295 := by
  unfold readC
  split
  · rename_i h
    show codV w ≤ _
    have := codK_le (w := w) (k := 8) (by rw [List.take_of_length_le (by omega)]; exact h.2) (Nat.le_refl _)
    rwa [List.take_of_length_le (by omega)] at this
  · decide
theorem prt_next {α : Type} {g : W → α} {t : List W} {k : Nat} {x : W} (h : t[k]? = some x) : (t.take k).map g ++ [g x] = (t.take (k + 1)).map g := by rw [List.take_add_one, h, List.map_append]; rfl
theorem prt_P {p : W → Bool} {t : List W} {k : Nat} {x : W} (h : t[k]? = some x) (hP : ∀ w ∈ t.take k, p w = true) (hx : p x = true) : ∀ w ∈ t.take (k + 1), p w = true := fun w hw => by
  rw [List.take_add_one, h] at hw
  rcases List.mem_append.1 hw with hw | hw
  · exact hP w hw
  · rw [List.mem_singleton.1 hw]; exact hx
theorem parts_yes {α : Type} {rd : W → Option α} {z : α} : ∀ {t : List W}, (∀ w ∈ t, (rd w).isSome = true) → partsL rd t = some (t.map fun w => (rd w).getD z)
  | [], _ => rfl
  | w :: t, h => by
    have h1 := h w List.mem_cons_self
    unfold partsL
    cases hr : rd w with
    | none => rw [hr] at h1; cases h1
    | some a =>
      show (partsL rd t).map (a :: ·) = _
      rw [parts_yes (z := z) (fun v hv => h v (List.mem_cons_of_mem _ hv)), List.map_cons, hr]; rfl
theorem parts_no {α : Type} {rd : W → Option α} {x : W} : ∀ {t : List W}, x ∈ t → rd x = none → partsL rd t = none
  | [], h, _ => absurd h List.not_mem_nil
  | w :: t, h, hx => by
    unfold partsL
    cases hr : rd w with
    | none => rfl
    | some a =>
      rcases List.mem_cons.1 h with e | e
      · rw [← e, hx] at hr; cases hr
      · show (partsL rd t).map (a :: ·) = _
        rw [parts_no e hx]; rfl
def prtA {α : Type} (row : α → List AV) : Option (List α) → AV
  | some l => .tup [.sl 1 (l.map row) false, vB true]
  | none => .tup [.sl 0 [] true, vB false]
def prtB {α : Type} (row : α → List AV) : Option (List α) → AV
  | some l => .tup [.sl 1 (l.map row) l.isEmpty, vB true]
  | none => .tup [.sl 1 [] true, vB false]
theorem dPartsIE (t : List W) (ck : Bool) (ht : t.length ≤ 900000) (hT : t.length = 0) : DCall C0 41 [.sl 1 (t.map rowS) ck, .clo 42 [] []] (.tup [.sl 0 [] true, vB true]) := by
  refine DCall.intro c0Ok Tryd.func41 rfl rfl (by kernel_rfl) rfl <| cSeq <| cReg rfl <| oR 2 rfl <| rE 2 <| cSeq <| cReg rfl <| oR 1 rfl <| rE 3 <| cSeq <| cSeq <| cReg rfl <| oR 1 rfl <| rOk (x := vN t.length) rfl rfl (lenMap rowS t) <| oR 1 rfl <| rE 6 ?_
  refine cBlock <| cLoop (κ := Nat) (fun k => ⟨slotsF [(1, .clo 42 [] []), (11, .sl 1 (t.map rowS) ck), (12, vN t.length), (6, .sl 0 ([]) true), (13, vN k)], heapF [], 6⟩) (fun k => k ≤ t.length) (fun k => t.length - k) 0 (fun s => s) (Weak.of_lists (fun s => s) wT trivial rfl) (Nat.zero_le _) ?_
  intro k hk
  have hkn : k ≤ t.length := hk
  have hkB : k ≤ 900000 := by omega
  refine cSeq <| cReg rfl <| rOk (x := vB (decide (k < t.length))) rfl rfl (okB (ltN _ _)) <| rE 7 <| cSeq ?_
  refine cCond rfl (fun h1 => by exact absurd (of_decide_eq_true h1) (by omega)) (fun _ => ?_)
  refine cExit <| cSeq <| cReg rfl <| oR 3 rfl <| rE 10 <| cRet ?_
  exact finTA rfl trivial rfl rfl
theorem dPartsIO (t : List W) (ck : Bool) (ht : t.length ≤ 900000) (hw : ∀ x ∈ t, x.length ≤ 900000) (hT : ¬ t.length = 0) : DCall C0 41 [.sl 1 (t.map rowS) ck, .clo 42 [] []] (prtA rowI (partsL readD t)) := by
  refine DCall.intro c0Ok Tryd.func41 rfl rfl (by kernel_rfl) rfl <| cSeq <| cReg rfl <| oR 2 rfl <| rE 2 <| cSeq <| cReg rfl <| oR 1 rfl <| rE 3 <| cSeq <| cSeq <| cReg rfl <| oR 1 rfl <| rOk (x := vN t.length) rfl rfl (lenMap rowS t) <| oR 1 rfl <| rE 6 ?_
  refine cBlock <| cLoop (κ := Nat × Bool) (fun z_ => match z_ with | (k, false) => ⟨slotsF [(1, .clo 42 [] []), (11, .sl 1 (t.map rowS) ck), (12, vN t.length), (13, vN k), (6, .sl 0 ([]) true)], heapF [], 7⟩ | (k, true) => ⟨slotsF [(1, .clo 42 [] []), (11, .sl 1 (t.map rowS) ck), (12, vN t.length), (13, vN k), (6, .osl 6 0 (((t.take k).map (fun w => (readD w).getD 0)).length) false)], heapF [(6, .arr (((t.take k).map (fun w => (readD w).getD 0)).map rowI) 1)], 7⟩) (fun z_ => match z_ with | (k, false) => (k ≤ t.length ∧ (t.take k).map (fun w => (readD w).getD 0) = [] ∧ ∀ w ∈ t.take k, (readD w).isSome = true) | (k, true) => (k ≤ t.length ∧ ∀ w ∈ t.take k, (readD w).isSome = true)) (fun z_ => t.length - z_.1) (0, false) (fun s => s) (Weak.of_lists (fun s => s) wT trivial rfl) (⟨Nat.zero_le _, (show (t.take 0).map (fun w => (readD w).getD 0) = [] from rfl), (fun x h => absurd h List.not_mem_nil)⟩) ?_
  intro z_ hk
  obtain ⟨k, b_⟩ := z_; cases b_
  · have hk_ := hk
    have hnn : k ≤ t.length := hk_.1
    have hkB : k ≤ 1000000 := by omega
    have hNk : (t.take k).map (fun w => (readD w).getD 0) = [] := hk_.2.1
    have hPk : ∀ w ∈ t.take k, (readD w).isSome = true := hk_.2.2
    refine cSeq <| cReg rfl <| rOk (x := vB (decide (k < t.length))) rfl rfl (okB (ltN _ _)) <| rE 8 <| cSeq ?_
    refine cCond rfl (fun h1 => ?_) (fun h1 => ?_)
    · have h1p := of_decide_eq_true h1
      refine cSkip <| cSeq <| cBlock <| cSeq <| cReg rfl ?_
      obtain ⟨x, hx⟩ : ∃ y_, t[k]? = some y_ := ⟨_, List.getElem?_eq_getElem omT⟩
      have hxo := hw x (List.mem_of_getElem? hx)
      refine rIdx (rowS x) (x := .dp 1 0 (rowS x)) rfl rfl rfl (⟨Int.natCast_nonneg _, getM hx⟩) rfl <| oR 2 rfl <| rE 11 <| cSeq <| cReg rfl <| oR 2 rfl <| rCl rfl (.inl rfl) (dDecimal2 x hxo) <| oR 5 rfl <| rE 19 <| cSeq <| cSeq <| cReg rfl <| oR 2 rfl <| rE 21 ?_
      refine cCond rfl (fun h2 => ?_) (fun h2 => ?_)
      · refine cSeq <| cReg rfl <| oR 2 rfl <| rE 23 <| cRet <| finTA rfl (by repeat' (first | exact trivial | constructor)) rfl ?_
        rw [parts_no (x := x) (List.mem_of_getElem? hx) (by simpa using h2)]; rfl
      · refine cSkip <| cReg rfl <| oR 2 rfl <| rOk (x := .sl 1 ([[vI ((readD x).getD 0)]]) true) rfl rfl rfl <| rFx (x := .osl 24 0 1 false) (h' := upd _ 24 (some (.arr (([((readD x).getD 0 : Int)]).map rowI) 1))) rfl rfl (app_nil omT) (⟨rfl, by exact omT, by exact omT, trivial⟩) <| oR 1 rfl <| rE 26 <| cReg rfl ?_
        have b1 : k + 1 ≤ 1000001 := Nat.add_le_add hkB (Nat.le_refl 1)
        refine rOk (x := vN (k + 1)) rfl rfl (okI (wrapI64 b1 rfl)) <| oR 1 rfl <| rE 28 ?_
        refine ⟨(k + 1, true), fun i => match i with | 6 => 24 | i => i, Weak.of_lists (fun i => match i with | 6 => 24 | i => i) ⟨⟨rfl, rfl⟩, ⟨rfl, rfl⟩, ⟨rfl, rfl⟩, ⟨rfl, rfl⟩, ⟨(show AV.osl 24 0 (1) false = AV.osl 24 0 ((t.take (k + 1)).map (fun w => (readD w).getD 0)).length false from by rw [← (show [((readD x).getD 0 : Int)] = (t.take (k + 1)).map (fun w => (readD w).getD 0) from (by rw [← (prt_next hx), hNk]; rfl))]; first | done | rfl | (congr 1 <;> (first | exact omT | simp))), rfl⟩, trivial⟩ ⟨⟨rfl, (congrArg (fun z : List Int => some (Blk.arr (z.map rowI) 1)) (show [((readD x).getD 0 : Int)] = (t.take (k + 1)).map (fun w => (readD w).getD 0) from (by rw [← (prt_next hx), hNk]; rfl))), rfl⟩, trivial⟩ rfl, ⟨by omega, prt_P hx hPk (by simpa using h2)⟩, by show t.length - (k + 1) < t.length - k; omega⟩
    · have h1p := of_decide_eq_false h1
      refine cExit <| cSeq <| cReg rfl <| oR 3 rfl <| rE 11 <| cRet ?_
      exact absurd (by have q := congrArg List.length hNk; rw [List.length_map, List.length_take] at q; have q2 : min k t.length = 0 := q; omega : t.length = 0) hT
  · have hk_ := hk
    have hnn : k ≤ t.length := hk_.1
    have hkB : k ≤ 1000000 := by omega
    have hPk : ∀ w ∈ t.take k, (readD w).isSome = true := hk_.2
    have habk : ((t.take k).map (fun w => (readD w).getD 0)).length ≤ 900000 := (by rw [List.length_map, List.length_take]; omega)
    refine cSeq <| cReg rfl <| rOk (x := vB (decide (k < t.length))) rfl rfl (okB (ltN _ _)) <| rE 8 <| cSeq ?_
    refine cCond rfl (fun h3 => ?_) (fun h3 => ?_)
    · have h3p := of_decide_eq_true h3
      refine cSkip <| cSeq <| cBlock <| cSeq <| cReg rfl ?_
      obtain ⟨x, hx⟩ : ∃ y_, t[k]? = some y_ := ⟨_, List.getElem?_eq_getElem omT⟩
      have hxo := hw x (List.mem_of_getElem? hx)
      refine rIdx (rowS x) (x := .dp 1 0 (rowS x)) rfl rfl rfl (⟨Int.natCast_nonneg _, getM hx⟩) rfl <| oR 2 rfl <| rE 11 <| cSeq <| cReg rfl <| oR 2 rfl <| rCl rfl (.inl rfl) (dDecimal2 x hxo) <| oR 5 rfl <| rE 19 <| cSeq <| cSeq <| cReg rfl <| oR 2 rfl <| rE 21 ?_
      refine cCond rfl (fun h4 => ?_) (fun h4 => ?_)
      · refine cSeq <| cReg rfl <| oR 2 rfl <| rE 23 <| cRet <| finTA rfl (by repeat' (first | exact trivial | constructor)) rfl ?_
        rw [parts_no (x := x) (List.mem_of_getElem? hx) (by simpa using h4)]; rfl
      · refine cSkip <| cReg rfl <| oR 2 rfl <| rOk (x := .sl 1 ([[vI ((readD x).getD 0)]]) true) rfl rfl rfl <| rFx (x := .osl 24 0 (((t.take k).map (fun w => (readD w).getD 0)).length + 1) false) (h' := upd (upd _ 6 none) 24 (some (.arr ((((t.take k).map (fun w => (readD w).getD 0)) ++ ([((readD x).getD 0 : Int)])).map rowI) 1))) rfl rfl (app_own rowI ((t.take k).map (fun w => (readD w).getD 0)) ([((readD x).getD 0 : Int)]) omT omT) (⟨by exact omT, by exact omT, trivial⟩) <| oR 1 rfl <| rE 26 <| cReg rfl ?_
        have b2 : k + 1 ≤ 1000001 := Nat.add_le_add hkB (Nat.le_refl 1)
        refine rOk (x := vN (k + 1)) rfl rfl (okI (wrapI64 b2 rfl)) <| oR 1 rfl <| rE 28 ?_
        refine ⟨(k + 1, true), fun i => match i with | 6 => 24 | i => i, Weak.of_lists (fun i => match i with | 6 => 24 | i => i) ⟨⟨rfl, rfl⟩, ⟨rfl, rfl⟩, ⟨rfl, rfl⟩, ⟨rfl, rfl⟩, ⟨(show AV.osl 24 0 (((t.take k).map (fun w => (readD w).getD 0)).length + 1) false = AV.osl 24 0 ((t.take (k + 1)).map (fun w => (readD w).getD 0)).length false from by rw [← (show ((t.take k).map (fun w => (readD w).getD 0)) ++ ([((readD x).getD 0 : Int)]) = (t.take (k + 1)).map (fun w => (readD w).getD 0) from prt_next hx)]; first | done | rfl | (congr 1 <;> (first | exact omT | simp))), rfl⟩, trivial⟩ ⟨⟨rfl, (congrArg (fun z : List Int => some (Blk.arr (z.map rowI) 1)) (show ((t.take k).map (fun w => (readD w).getD 0)) ++ ([((readD x).getD 0 : Int)]) = (t.take (k + 1)).map (fun w => (readD w).getD 0) from prt_next hx)), rfl⟩, trivial⟩ rfl, ⟨by omega, prt_P hx hPk (by simpa using h4)⟩, by show t.length - (k + 1) < t.length - k; omega⟩
    · have h3p := of_decide_eq_false h3
      refine cExit <| cSeq <| cReg rfl <| oR 3 rfl <| rE 11 <| cRet ?_
      have hT2 : t.take k = t := List.take_of_length_le (by omega)
      have hY := hPk
      rw [hT2] at hY
      refine finTA rfl ⟨(by show 0 + (((t.take k).map (fun w => (readD w).getD 0)).length) ≤ (((t.take k).map (fun w => (readD w).getD 0)).map rowI).length; exact omT), trivial, trivial⟩ rfl ?_
      show AV.tup [.sl 1 (List.take (((t.take k).map (fun w => (readD w).getD 0)).length) (List.drop 0 (((t.take k).map (fun w => (readD w).getD 0)).map rowI))) false, vB true] = _
      rw [List.drop_zero, List.take_of_length_le (by simp), hT2, parts_yes (z := 0) hY]; rfl
theorem dPartsI (t : List W) (ck : Bool) (ht : t.length ≤ 900000) (hw : ∀ x ∈ t, x.length ≤ 900000) : DCall C0 41 [.sl 1 (t.map rowS) ck, .clo 42 [] []] (prtB rowI (partsL readD t)) := by
  cases t with
  | nil => exact (dPartsIE [] ck ht rfl).rmono fun S w v h => rep_nil_tup (i := 0) (n := 1) h rfl
  | cons x t =>
    have h := dPartsIO (x :: t) ck ht hw (by simp)
    have hl : ∀ l, partsL readD (x :: t) = some l → l.isEmpty = false := fun l hl => by
      unfold partsL at hl
      split at hl
      · cases hl
      · obtain ⟨q, _, rfl⟩ := Option.map_eq_some_iff.1 hl; rfl
    cases hp : partsL readD (x :: t) with
    | none => rw [hp] at h; exact h.rmono fun S w v h => rep_nil_tup (i := 0) (n := 1) h rfl
    | some l => rw [hp] at h; show DCall C0 _ _ (.tup [.sl 1 (l.map _) l.isEmpty, vB true]); rw [hl l hp]; exact h
theorem dPartsUE (t : List W) (ck : Bool) (ht : t.length ≤ 900000) (hT : t.length = 0) : DCall C0 43 [.sl 1 (t.map rowS) ck, .clo 44 [] []] (.tup [.sl 0 [] true, vB true]) := by
  refine DCall.intro c0Ok Tryd.func43 rfl rfl (by kernel_rfl) rfl <| cSeq <| cReg rfl <| oR 2 rfl <| rE 2 <| cSeq <| cReg rfl <| oR 1 rfl <| rE 3 <| cSeq <| cSeq <| cReg rfl <| oR 1 rfl <| rOk (x := vN t.length) rfl rfl (lenMap rowS t) <| oR 1 rfl <| rE 6 ?_
  refine cBlock <| cLoop (κ := Nat) (fun k => ⟨slotsF [(1, .clo 44 [] []), (11, .sl 1 (t.map rowS) ck), (12, vN t.length), (6, .sl 0 ([]) true), (13, vN k)], heapF [], 6⟩) (fun k => k ≤ t.length) (fun k => t.length - k) 0 (fun s => s) (Weak.of_lists (fun s => s) wT trivial rfl) (Nat.zero_le _) ?_
  intro k hk
  have hkn : k ≤ t.length := hk
  have hkB : k ≤ 900000 := by omega
  refine cSeq <| cReg rfl <| rOk (x := vB (decide (k < t.length))) rfl rfl (okB (ltN _ _)) <| rE 7 <| cSeq ?_
  refine cCond rfl (fun h1 => by exact absurd (of_decide_eq_true h1) (by omega)) (fun _ => ?_)
  refine cExit <| cSeq <| cReg rfl <| oR 3 rfl <| rE 10 <| cRet ?_
  exact finTA rfl trivial rfl rfl
theorem dPartsUO (hB : HexIx) (t : List W) (ck : Bool) (ht : t.length ≤ 900000) (hw : ∀ x ∈ t, x.length ≤ 900000) (hT : ¬ t.length = 0) : DCall C0 43 [.sl 1 (t.map rowS) ck, .clo 44 [] []] (prtA rowU (partsL readC t)) := by
  refine DCall.intro c0Ok Tryd.func43 rfl rfl (by kernel_rfl) rfl <| cSeq <| cReg rfl <| oR 2 rfl <| rE 2 <| cSeq <| cReg rfl <| oR 1 rfl <| rE 3 <| cSeq <| cSeq <| cReg rfl <| oR 1 rfl <| rOk (x := vN t.length) rfl rfl (lenMap rowS t) <| oR 1 rfl <| rE 6 ?_
  refine cBlock <| cLoop (κ := Nat × Bool) (fun z_ => match z_ with | (k, false) => ⟨slotsF [(1, .clo 44 [] []), (11, .sl 1 (t.map rowS) ck), (12, vN t.length), (13, vN k), (6, .sl 0 ([]) true)], heapF [], 7⟩ | (k, true) => ⟨slotsF [(1, .clo 44 [] []), (11, .sl 1 (t.map rowS) ck), (12, vN t.length), (13, vN k), (6, .osl 6 0 (((t.take k).map (fun w => (readC w).getD 0)).length) false)], heapF [(6, .arr (((t.take k).map (fun w => (readC w).getD 0)).map rowU) 1)], 7⟩) (fun z_ => match z_ with | (k, false) => (k ≤ t.length ∧ (t.take k).map (fun w => (readC w).getD 0) = [] ∧ ∀ w ∈ t.take k, (readC w).isSome = true) | (k, true) => (k ≤ t.length ∧ ∀ w ∈ t.take k, (readC w).isSome = true)) (fun z_ => t.length - z_.1) (0, false) (fun s => s) (Weak.of_lists (fun s => s) wT trivial rfl) (⟨Nat.zero_le _, (show (t.take 0).map (fun w => (readC w).getD 0) = [] from rfl), (fun x h => absurd h List.not_mem_nil)⟩) ?_
  intro z_ hk
  obtain ⟨k, b_⟩ := z_; cases b_
  · have hk_ := hk
    have hnn : k ≤ t.length := hk_.1
    have hkB : k ≤ 1000000 := by omega
    have hNk : (t.take k).map (fun w => (readC w).getD 0) = [] := hk_.2.1
    have hPk : ∀ w ∈ t.take k, (readC w).isSome = true := hk_.2.2
    refine cSeq <| cReg rfl <| rOk (x := vB (decide (k < t.length))) rfl rfl (okB (ltN _ _)) <| rE 8 <| cSeq ?_
    refine cCond rfl (fun h1 => ?_) (fun h1 => ?_)
    · have h1p := of_decide_eq_true h1
      refine cSkip <| cSeq <| cBlock <| cSeq <| cReg rfl ?_
      obtain ⟨x, hx⟩ : ∃ y_, t[k]? = some y_ := ⟨_, List.getElem?_eq_getElem omT⟩
      have hxo := hw x (List.mem_of_getElem? hx)
      refine rIdx (rowS x) (x := .dp 1 0 (rowS x)) rfl rfl rfl (⟨Int.natCast_nonneg _, getM hx⟩) rfl <| oR 2 rfl <| rE 11 <| cSeq <| cReg rfl <| oR 2 rfl <| rCl rfl (.inl rfl) (dCode2 hB x hxo) <| oR 5 rfl <| rE 19 <| cSeq <| cSeq <| cReg rfl <| oR 2 rfl <| rE 21 ?_
      refine cCond rfl (fun h2 => ?_) (fun h2 => ?_)
      · refine cSeq <| cReg rfl <| oR 2 rfl <| rE 23 <| cRet <| finTA rfl (by repeat' (first | exact trivial | constructor)) rfl ?_
        rw [parts_no (x := x) (List.mem_of_getElem? hx) (by simpa using h2)]; rfl
      · refine cSkip <| cReg rfl <| oR 2 rfl <| rOk (x := .sl 1 ([[vU ((readC x).getD 0)]]) true) rfl rfl rfl <| rFx (x := .osl 24 0 1 false) (h' := upd _ 24 (some (.arr (([(readC x).getD 0]).map rowU) 1))) rfl rfl (app_nil omT) (⟨rfl, by exact omT, by exact omT, trivial⟩) <| oR 1 rfl <| rE 26 <| cReg rfl ?_
        have b1 : k + 1 ≤ 1000001 := Nat.add_le_add hkB (Nat.le_refl 1)
        refine rOk (x := vN (k + 1)) rfl rfl (okI (wrapI64 b1 rfl)) <| oR 1 rfl <| rE 28 ?_
        refine ⟨(k + 1, true), fun i => match i with | 6 => 24 | i => i, Weak.of_lists (fun i => match i with | 6 => 24 | i => i) ⟨⟨rfl, rfl⟩, ⟨rfl, rfl⟩, ⟨rfl, rfl⟩, ⟨rfl, rfl⟩, ⟨(show AV.osl 24 0 (1) false = AV.osl 24 0 ((t.take (k + 1)).map (fun w => (readC w).getD 0)).length false from by rw [← (show [(readC x).getD 0] = (t.take (k + 1)).map (fun w => (readC w).getD 0) from (by rw [← (prt_next hx), hNk]; rfl))]; first | done | rfl | (congr 1 <;> (first | exact omT | simp))), rfl⟩, trivial⟩ ⟨⟨rfl, (congrArg (fun z : List Nat => some (Blk.arr (z.map rowU) 1)) (show [(readC x).getD 0] = (t.take (k + 1)).map (fun w => (readC w).getD 0) from (by rw [← (prt_next hx), hNk]; rfl))), rfl⟩, trivial⟩ rfl, ⟨by omega, prt_P hx hPk (by simpa using h2)⟩, by show t.length - (k + 1) < t.length - k; omega⟩
    · have h1p := of_decide_eq_false h1
      refine cExit <| cSeq <| cReg rfl <| oR 3 rfl <| rE 11 <| cRet ?_
      exact absurd (by have q := congrArg List.length hNk; rw [List.length_map, List.length_take] at q; have q2 : min k t.length = 0 := q; omega : t.length = 0) hT
  · have hk_ := hk
    have hnn : k ≤ t.length := hk_.1
    have hkB : k ≤ 1000000 := by omega
    have hPk : ∀ w ∈ t.take k, (readC w).isSome = true := hk_.2
    have habk : ((t.take k).map (fun w => (readC w).getD 0)).length ≤ 900000 := (by rw [List.length_map, List.length_take]; omega)
    refine cSeq <| cReg rfl <| rOk (x := vB (decide (k < t.length))) rfl rfl (okB (ltN _ _)) <| rE 8 <| cSeq ?_
    refine cCond rfl (fun h3 => ?_) (fun h3 => ?_)
    · have h3p := of_decide_eq_true h3
      refine cSkip <| cSeq <| cBlock <| cSeq <| cReg rfl ?_
      obtain ⟨x, hx⟩ : ∃ y_, t[k]? = some y_ := ⟨_, List.getElem?_eq_getElem omT⟩
      have hxo := hw x (List.mem_of_getElem? hx)
      refine rIdx (rowS x) (x := .dp 1 0 (rowS x)) rfl rfl rfl (⟨Int.natCast_nonneg _, getM hx⟩) rfl <| oR 2 rfl <| rE 11 <| cSeq <| cReg rfl <| oR 2 rfl <| rCl rfl (.inl rfl) (dCode2 hB x hxo) <| oR 5 rfl <| rE 19 <| cSeq <| cSeq <| cReg rfl <| oR 2 rfl <| rE 21 ?_
      refine cCond rfl (fun h4 => ?_) (fun h4 => ?_)
      · refine cSeq <| cReg rfl <| oR 2 rfl <| rE 23 <| cRet <| finTA rfl (by repeat' (first | exact trivial | constructor)) rfl ?_
        rw [parts_no (x := x) (List.mem_of_getElem? hx) (by simpa using h4)]; rfl
      · refine cSkip <| cReg rfl <| oR 2 rfl <| rOk (x := .sl 1 ([[vU ((readC x).getD 0)]]) true) rfl rfl rfl <| rFx (x := .osl 24 0 (((t.take k).map (fun w => (readC w).getD 0)).length + 1) false) (h' := upd (upd _ 6 none) 24 (some (.arr ((((t.take k).map (fun w => (readC w).getD 0)) ++ ([(readC x).getD 0])).map rowU) 1))) rfl rfl (app_own rowU ((t.take k).map (fun w => (readC w).getD 0)) ([(readC x).getD 0]) omT omT) (⟨by exact omT, by exact omT, trivial⟩) <| oR 1 rfl <| rE 26 <| cReg rfl ?_
        have b2 : k + 1 ≤ 1000001 := Nat.add_le_add hkB (Nat.le_refl 1)
        refine rOk (x := vN (k + 1)) rfl rfl (okI (wrapI64 b2 rfl)) <| oR 1 rfl <| rE 28 ?_
        refine ⟨(k + 1, true), fun i => match i with | 6 => 24 | i => i, Weak.of_lists (fun i => match i with | 6 => 24 | i => i) ⟨⟨rfl, rfl⟩, ⟨rfl, rfl⟩, ⟨rfl, rfl⟩, ⟨rfl, rfl⟩, ⟨(show AV.osl 24 0 (((t.take k).map (fun w => (readC w).getD 0)).length + 1) false = AV.osl 24 0 ((t.take (k + 1)).map (fun w => (readC w).getD 0)).length false from by rw [← (show ((t.take k).map (fun w => (readC w).getD 0)) ++ ([(readC x).getD 0]) = (t.take (k + 1)).map (fun w => (readC w).getD 0) from prt_next hx)]; first | done | rfl | (congr 1 <;> (first | exact omT | simp))), rfl⟩, trivial⟩ ⟨⟨rfl, (congrArg (fun z : List Nat => some (Blk.arr (z.map rowU) 1)) (show ((t.take k).map (fun w => (readC w).getD 0)) ++ ([(readC x).getD 0]) = (t.take (k + 1)).map (fun w => (readC w).getD 0) from prt_next hx)), rfl⟩, trivial⟩ rfl, ⟨by omega, prt_P hx hPk (by simpa using h4)⟩, by show t.length - (k + 1) < t.length - k; omega⟩
    · have h3p := of_decide_eq_false h3
      refine cExit <| cSeq <| cReg rfl <| oR 3 rfl <| rE 11 <| cRet ?_
      have hT2 : t.take k = t := List.take_of_length_le (by omega)
      have hY := hPk
      rw [hT2] at hY
      refine finTA rfl ⟨(by show 0 + (((t.take k).map (fun w => (readC w).getD 0)).length) ≤ (((t.take k).map (fun w => (readC w).getD 0)).map rowU).length; exact omT), trivial, trivial⟩ rfl ?_
      show AV.tup [.sl 1 (List.take (((t.take k).map (fun w => (readC w).getD 0)).length) (List.drop 0 (((t.take k).map (fun w => (readC w).getD 0)).map rowU))) false, vB true] = _
      rw [List.drop_zero, List.take_of_length_le (by simp), hT2, parts_yes (z := 0) hY]; rfl
theorem dPartsU (hB : HexIx) (t : List W) (ck : Bool) (ht : t.length ≤ 900000) (hw : ∀ x ∈ t, x.length ≤ 900000) : DCall C0 43 [.sl 1 (t.map rowS) ck, .clo 44 [] []] (prtB rowU (partsL readC t)) := by
  cases t with
  | nil => exact (dPartsUE [] ck ht rfl).rmono fun S w v h => rep_nil_tup (i := 0) (n := 1) h rfl
  | cons x t =>
    have h := dPartsUO hB (x :: t) ck ht hw (by simp)
    have hl : ∀ l, partsL readC (x :: t) = some l → l.isEmpty = false := fun l hl => by
      unfold partsL at hl
      split at hl
      · cases hl
      · obtain ⟨q, _, rfl⟩ := Option.map_eq_some_iff.1 hl; rfl
    cases hp : partsL readC (x :: t) with
    | none => rw [hp] at h; exact h.rmono fun S w v h => rep_nil_tup (i := 0) (n := 1) h rfl
    | some l => rw [hp] at h; show DCall C0 _ _ (.tup [.sl 1 (l.map _) l.isEmpty, vB true]); rw [hl l hp]; exact h
def inB (n lo hi : Int) : Bool := decide (lo ≤ n ∧ n ≤ hi)
theorem dWithin (n lo hi : Int) : DCall C0 59 [vI n, vI lo, vI hi] (vB (inB n lo hi)) := by
  refine DCall.intro c0Ok Tryd.func59 rfl rfl (by kernel_rfl) rfl <| cSeq <| cReg rfl <| oR 1 rfl <| rE 1 <| cSeq <| cReg rfl <| oR 2 rfl <| rOk (x := vB (decide (n ≥ lo))) rfl rfl rfl <| oR 1 rfl <| gN rfl <| gN rfl <| gBS (x := vB (decide (n ≤ hi))) rfl (fun h => by first | (simp_all; done) | exact (Bool.and_eq_true_iff.1 h).1 | exact Bool.and_eq_true_iff.2 ⟨h, h⟩) rfl <| rNeed rfl rfl rfl (fun h => h) <| oR 1 rfl <| rE 10 ?_
  refine cRet ?_
  exact finTA rfl trivial rfl (bool_eq (by rw [Bool.eq_iff_iff]; simp [cAnd, inB]))
theorem dRightCf (c : Cf) (cl ct : Bool) (hc : c.ok) : DCall C0 36 [.agg (cfL c cl ct)] (vB (decide (CfR c))) := by
  refine DCall.intro c0Ok Tryd.func36 rfl rfl (by kernel_rfl) rfl <| cSeq <| cReg rfl <| rAl 0 rfl rfl <| oR 1 rfl <| rE 2 <| cSeq <| cReg rfl <| oR 1 rfl <| rE 3 <| cSeq <| cSeq <| cReg rfl <| oR 2 rfl <| rOk (x := vN c.lat.length) rfl rfl (lenMap rowI c.lat) <| oR 1 rfl ?_
  refine rE 7 <| cBlock <| cLoop (κ := Nat) (fun k => ⟨slotsF [(1, .ptr 0 0), (3, .clo 59 [] []), (7, .sl 1 (c.lat.map rowI) cl), (8, vN c.lat.length), (9, vN k)], heapF [(0, .box [vI c.mode, vI c.width, vI c.rob, vI c.queue, vI c.stores, vI c.slots, vI c.sets, vI c.ways, .sl 1 (c.lat.map rowI) cl, vB c.tables, .sl 1 (c.tape.map rowU) ct])], 7⟩) (fun k => k ≤ c.lat.length ∧ ∀ a ∈ c.lat.take k, 1 ≤ a ∧ a ≤ 8) (fun k => c.lat.length - k) 0 (fun s => s) (Weak.of_lists (fun s => s) wT wH rfl) (⟨Nat.zero_le _, (fun x h => absurd h List.not_mem_nil)⟩) ?_
  intro k hk
  have hkn : k ≤ c.lat.length := hk.1
  have hkB : k ≤ 9223372036854775807 := by have := hc.lat; omega
  have hqa := hc.lat
  refine cSeq <| cReg rfl <| rOk (x := vB (decide (k < c.lat.length))) rfl rfl (okB (ltN _ _)) <| rE 8 <| cSeq ?_
  refine cCond rfl (fun h1 => ?_) (fun h1 => ?_)
  · have h1p := of_decide_eq_true h1
    refine cSkip <| cSeq <| cBlock <| cSeq <| cReg rfl ?_
    obtain ⟨x, hx⟩ : ∃ y_, c.lat[k]? = some y_ := ⟨_, List.getElem?_eq_getElem omT⟩
    refine rIdx (rowI x) (x := .dp 1 0 (rowI x)) rfl rfl rfl (⟨Int.natCast_nonneg _, getM hx⟩) rfl <| oR 2 rfl <| rE 11 <| cSeq <| cReg rfl <| oR 2 rfl <| rCl rfl (.inl rfl) (dWithin x 1 8) <| oR 1 rfl <| rE 15 ?_
    refine cCond rfl (fun h2 => ?_) (fun h2 => ?_)
    · refine cSeq <| cReg rfl <| oR 1 rfl <| rE 16 <| cRet ?_
      exact finTA rfl trivial rfl (bool_eq (decide_eq_false (fun q => by have := q.2.2.2.2.2.2.2.2.1.2 x (List.mem_of_getElem? hx); simp [inB] at h2; omega) : decide (CfR c) = false).symm)
    · refine cSkip <| cReg rfl ?_
      have b1 : k + 1 ≤ 9223372036854775807 := by omega
      refine rOk (x := vN (k + 1)) rfl rfl (okI (wrapI64 (show k + 1 ≤ 9223372036854775807 by omega) rfl)) <| oR 1 rfl <| rE 17 ?_
      refine ⟨k + 1, fun s => s, Weak.of_lists (fun s => s) wT wH rfl, ⟨by omega, (fun a ha => by rw [List.take_add_one, hx] at ha; rcases List.mem_append.1 ha with ha | ha; exact hk.2 a ha; (rw [List.mem_singleton.1 ha]; simp [inB] at h2; omega))⟩, by show c.lat.length - (k + 1) < c.lat.length - k; omega⟩
  · have h1p := of_decide_eq_false h1
    refine cExit <| cSeq <| cReg rfl <| oR 3 rfl <| rCl rfl (.inl rfl) (dWithin c.mode 0 2) <| oR 1 rfl <| gN rfl <| gN rfl <| gS rfl id <| gCallS (args := [vI c.width, vI 1, vI 2]) (x := vB (inB c.width 1 2)) (g := inB c.mode 0 2) rfl rfl rfl rfl (fun h => by first | (simp_all; done) | exact (Bool.and_eq_true_iff.1 h).1 | exact Bool.and_eq_true_iff.2 ⟨h, h⟩) rfl rfl rfl (.inl rfl) rfl (fun hg => dWithin c.width 1 2) <| rNeed rfl rfl rfl (fun h => h) <| oR 1 rfl <| gN rfl <| gN rfl <| gS rfl id <| gCallS (args := [vI c.rob, vI 2, vI 8]) (x := vB (inB c.rob 2 8)) (g := cond2 (inB c.mode 0 2) (inB c.width 1 2) false) rfl rfl rfl rfl (fun h => by first | (simp_all; done) | exact (Bool.and_eq_true_iff.1 h).1 | exact Bool.and_eq_true_iff.2 ⟨h, h⟩) rfl rfl rfl (.inl rfl) rfl (fun hg => dWithin c.rob 2 8) ?_
    refine rNeed rfl rfl rfl (fun h => h) <| oR 1 rfl <| gN rfl <| gN rfl <| gS rfl id <| gCallS (args := [vI c.queue, vI 1, vI 4]) (x := vB (inB c.queue 1 4)) (g := cond2 (cond2 (inB c.mode 0 2) (inB c.width 1 2) false) (inB c.rob 2 8) false) rfl rfl rfl rfl (fun h => by first | (simp_all; done) | exact (Bool.and_eq_true_iff.1 h).1 | exact Bool.and_eq_true_iff.2 ⟨h, h⟩) rfl rfl rfl (.inl rfl) rfl (fun hg => dWithin c.queue 1 4) <| rNeed rfl rfl rfl (fun h => h) <| oR 1 rfl <| gN rfl <| gN rfl <| gS rfl id <| gCallS (args := [vI c.stores, vI 1, vI 4]) (x := vB (inB c.stores 1 4)) (g := cond2 (cond2 (cond2 (inB c.mode 0 2) (inB c.width 1 2) false) (inB c.rob 2 8) false) (inB c.queue 1 4) false) rfl rfl rfl rfl (fun h => by first | (simp_all; done) | exact (Bool.and_eq_true_iff.1 h).1 | exact Bool.and_eq_true_iff.2 ⟨h, h⟩) rfl rfl rfl (.inl rfl) rfl (fun hg => dWithin c.stores 1 4) <| rNeed rfl rfl rfl (fun h => h) <| oR 1 rfl <| gN rfl <| gN rfl ?_
    refine gS rfl id <| gCallS (args := [vI c.slots, vI 2, vI 6]) (x := vB (inB c.slots 2 6)) (g := cond2 (cond2 (cond2 (cond2 (inB c.mode 0 2) (inB c.width 1 2) false) (inB c.rob 2 8) false) (inB c.queue 1 4) false) (inB c.stores 1 4) false) rfl rfl rfl rfl (fun h => by first | (simp_all; done) | exact (Bool.and_eq_true_iff.1 h).1 | exact Bool.and_eq_true_iff.2 ⟨h, h⟩) rfl rfl rfl (.inl rfl) rfl (fun hg => dWithin c.slots 2 6) <| rNeed rfl rfl rfl (fun h => h) <| oR 1 rfl <| gN rfl <| gN rfl <| gS rfl id <| gCallS (args := [vI c.sets, vI 1, vI 4]) (x := vB (inB c.sets 1 4)) (g := cond2 (cond2 (cond2 (cond2 (cond2 (inB c.mode 0 2) (inB c.width 1 2) false) (inB c.rob 2 8) false) (inB c.queue 1 4) false) (inB c.stores 1 4) false) (inB c.slots 2 6) false) rfl rfl rfl rfl (fun h => by first | (simp_all; done) | exact (Bool.and_eq_true_iff.1 h).1 | exact Bool.and_eq_true_iff.2 ⟨h, h⟩) rfl rfl rfl (.inl rfl) rfl (fun hg => dWithin c.sets 1 4) <| rNeed rfl rfl rfl (fun h => h) <| oR 1 rfl <| gN rfl <| gS rfl id <| gBS (x := vB (c.sets != 3)) rfl id rfl <| rNeed rfl rfl rfl (fun h => h) <| oR 1 rfl <| gN rfl ?_
    refine gN rfl <| gS rfl id <| gCallS (args := [vI c.ways, vI 1, vI 2]) (x := vB (inB c.ways 1 2)) (g := cond2 (cond2 (cond2 (cond2 (cond2 (cond2 (cond2 (inB c.mode 0 2) (inB c.width 1 2) false) (inB c.rob 2 8) false) (inB c.queue 1 4) false) (inB c.stores 1 4) false) (inB c.slots 2 6) false) (inB c.sets 1 4) false) (c.sets != 3) false) rfl rfl rfl rfl (fun h => by first | (simp_all; done) | exact (Bool.and_eq_true_iff.1 h).1 | exact Bool.and_eq_true_iff.2 ⟨h, h⟩) rfl rfl rfl (.inl rfl) rfl (fun hg => dWithin c.ways 1 2) <| rNeed rfl rfl rfl (fun h => h) <| oR 1 rfl <| gN rfl <| gS rfl id <| gBS (x := vN c.lat.length) rfl id (lenMap rowI c.lat) <| gBS (x := vB (decide (c.lat.length ≤ 64))) rfl id (okB (leN _ _)) <| rNeed rfl rfl rfl (fun h => h) <| oR 1 rfl <| gN rfl <| gS rfl id <| gBS (x := vN c.tape.length) rfl id (lenMap rowU c.tape) <| gBS (x := vB (decide (c.tape.length ≤ 64))) rfl id (okB (leN _ _)) <| rNeed rfl rfl rfl (fun h => h) ?_
    refine oR 1 rfl <| rE 72 <| cRet ?_
    have hA : ∀ a ∈ c.lat, 1 ≤ a ∧ a ≤ 8 := by have q := hk.2; rwa [List.take_of_length_le (by have := of_decide_eq_false h1; omega)] at q
    exact finTA rfl trivial rfl (bool_eq (by rw [Bool.eq_iff_iff, decide_eq_true_eq]; unfold CfR; simp [cAnd, inB]; constructor; (rintro ⟨⟨⟨⟨⟨⟨⟨⟨⟨⟨q1, q2⟩, q3⟩, q4⟩, q5⟩, q6⟩, q7⟩, q8⟩, q9⟩, q10⟩, q11⟩; exact ⟨q1, q2, q3, q4, q5, q6, ⟨q7.1, q7.2, q8⟩, q9, ⟨q10, hA⟩, q11⟩); (rintro ⟨q1, q2, q3, q4, q5, q6, ⟨q7, q7b, q8⟩, q9, ⟨q10, _⟩, q11⟩; exact ⟨⟨⟨⟨⟨⟨⟨⟨⟨⟨q1, q2⟩, q3⟩, q4⟩, q5⟩, q6⟩, q7, q7b⟩, q8⟩, q9⟩, q10⟩, q11⟩)))
theorem copy_str (t : W) (n : Nat) (h : t.length ≤ n) : ((List.replicate n (0 : UInt8)).map row8).take 0 ++ (rowsOfBytes (sB t)).take (min (rowsOfBytes (sB t)).length n) ++ ((List.replicate n (0 : UInt8)).map row8).drop (0 + min (rowsOfBytes (sB t)).length n) = (t ++ List.replicate (n - t.length) 0).map row8 := by
  have e : rowsOfBytes (sB t) = t.map row8 := rfl
  have hl : min (t.map row8).length n = t.length := by rw [List.length_map]; omega
  rw [e, List.take_zero, List.nil_append, hl, List.take_of_length_le (by rw [List.length_map]; omega), Nat.zero_add, ← List.map_drop, List.drop_replicate, ← List.map_append]
theorem min256 {m : W} : m.take (min m.length 256) = m.take 256 := by
  rcases Nat.le_total m.length 256 with h | h
  · rw [Nat.min_eq_left h, List.take_of_length_le (Nat.le_refl _), List.take_of_length_le h]
  · rw [Nat.min_eq_right h]
theorem dClean (m : List UInt8) (hm : m.length ≤ 900000) : DCall C0 19 [vS m] (vS (cleanM m)) := by
  refine DCall.intro c0Ok Tryd.func19 rfl rfl (by kernel_rfl) rfl <| cSeq <| cReg rfl <| oR 1 rfl <| rE 1 <| cSeq <| cReg rfl <| oR 2 rfl <| rOk (x := vN m.length) rfl rfl rfl <| rOk (x := vN (min m.length 256)) rfl rfl (minN64 m.length 256) <| rNeed (x := vS (m.take 256)) rfl rfl (needSt ((ext_to m (min m.length 256)).trans (congrArg sB min256))) (⟨Int.le_refl _, Int.natCast_nonneg _, Int.ofNat_le.2 (by show min m.length 256 ≤ m.length; omega)⟩) <| oR 1 rfl <| rE 7 <| cSeq <| cReg rfl <| oR 1 rfl ?_
  refine rE 8 <| cSeq <| cBlock <| cLoop (κ := Nat) (fun k => ⟨slotsF [(0, vS (m.take 256)), (3, vN (16 * 2 ^ k))], heapF [], 8⟩) (fun k => k ≤ 4 ∧ (k ≠ 0 → 16 * 2 ^ (k - 1) < (m.take 256).length)) (fun k => 4 - k) 0 (fun s => s) (Weak.of_lists (fun s => s) wT trivial rfl) (⟨by omega, fun h => absurd rfl h⟩) ?_
  intro k hk
  have hk4 : k ≤ 4 := hk.1
  have hkB : 16 * 2 ^ k ≤ 256 := Nat.mul_le_mul_left 16 (Nat.pow_le_pow_right (by decide) hk4 : 2 ^ k ≤ 2 ^ 4)
  have hT : (m.take 256).length ≤ 256 := by first | exact hT0 | (rw [List.length_take]; omega)
  refine cSeq <| cSeq <| cReg rfl <| oR 2 rfl <| rOk (x := vN ((m.take 256).length)) rfl rfl rfl <| rOk (x := vB (decide ((16 * 2 ^ k) < ((m.take 256).length)))) rfl rfl (okB (ltN _ _)) <| rE 12 ?_
  refine cCond rfl (fun h1 => ?_) (fun h1 => ?_)
  · have h1p := of_decide_eq_true h1
    have hk5 : k < 4 := by rcases Nat.lt_or_ge k 4 with q | q; exact q; (have e : k = 4 := by omega); subst e; have := of_decide_eq_true h1; omega
    refine cSkip <| cBlock <| cReg rfl <| oR 1 rfl ?_
    have b1 : 16 * 2 ^ k * 2 ≤ 512 := by omega
    refine rOk (x := vN (16 * 2 ^ k * 2)) rfl rfl (okI (wrapI64 (show 16 * 2 ^ k * 2 ≤ 512 by omega) rfl)) <| oR 1 rfl <| rE 15 ?_
    refine ⟨k + 1, fun s => s, Weak.of_lists (fun s => s) ⟨⟨rfl, rfl⟩, ⟨(congrArg vN (show 16 * 2 ^ k * 2 = 16 * 2 ^ (k + 1) by rw [Nat.pow_succ]; omega)), rfl⟩, trivial⟩ trivial rfl, ⟨by have := trivial; have q := hk5; omega, fun _ => by have := of_decide_eq_true h1; show 16 * 2 ^ k < _; omega⟩, by show 4 - (k + 1) < 4 - k; have q := hk5; omega⟩
  · have h1p := of_decide_eq_false h1
    refine cExit <| cSeq <| cReg rfl <| oR 1 rfl <| rFx (x := .osl 13 0 (16 * 2 ^ k) false) (h' := upd _ 13 (some (.arr ((List.replicate (16 * 2 ^ k) 0).map row8) 1))) rfl rfl (mk_eq (List.map_replicate (f := row8) (a := 0)).symm) (⟨Int.natCast_nonneg _, Int.ofNat_le.2 omT, by show (((16 * 2 ^ k) : Nat) : Int) ≤ 1000000; omega⟩) <| oR 1 rfl <| rE 15 <| cSeq <| cReg rfl <| oR 2 rfl <| rFx (x := vI ((min (rowsOfBytes (sB (m.take 256))).length (16 * 2 ^ k) : Nat) : Int)) (h' := upd _ 13 (some (.arr ((m.take 256 ++ List.replicate (16 * 2 ^ k - (m.take 256).length) 0).map row8) 1))) rfl rfl (cp_eq (copy_str (m.take 256) (16 * 2 ^ k) (by have := of_decide_eq_false h1; omega))) (⟨by show 0 + 16 * 2 ^ k ≤ ((List.replicate (16 * 2 ^ k) (0 : UInt8)).map row8).length; rw [List.length_map, List.length_replicate]; omega, trivial⟩) <| rE 18 <| cSeq <| cReg rfl <| oR 1 rfl <| rStr (m.take 256 ++ List.replicate (16 * 2 ^ k - (m.take 256).length) 0) (d := 22) rfl rfl rfl ((by show 0 + 16 * 2 ^ k ≤ ((m.take 256 ++ List.replicate (16 * 2 ^ k - (m.take 256).length) 0).map row8).length; rw [List.length_map, List.length_append, List.length_replicate]; omega)) (own8 (by rw [List.length_append, List.length_replicate]; have := of_decide_eq_false h1; omega)) ?_
    refine oR 1 rfl <| rE 21 <| cRet ?_
    exact finTA rfl trivial rfl (congrArg vS (cleanM_at rfl hk4 (by have := of_decide_eq_false h1; omega) hk.2))
theorem dRight (p : ScPlan) (a b c : Bool) (hp : p.ok) : DCall C0 14 [.agg (planL p a b c)] (vB (rightP p)) := by
  refine dc1 (DCall.intro c1Ok Tryd.func14 rfl rfl (by kernel_rfl) rfl ?_)
  refine cSeq <| cReg rfl <| rAl 0 rfl rfl <| oR 1 rfl <| rE 2 <| cSeq <| cReg rfl <| oR 2 rfl <| rCl rfl (.inl rfl) (dRightCf (cfOf p) a b hp.cf) <| oR 1 rfl <| gN rfl <| gS rfl id <| gBS (x := vN p.prog.length) rfl id (lenMap rowU p.prog) <| gBS (x := vB (decide (p.prog.length ≤ 64))) rfl id (okB (leN _ _)) <| rNeed rfl rfl rfl (fun h => h) <| oR 1 rfl ?_
  refine gN rfl <| gS rfl id <| gN rfl <| gS rfl id <| gCallS (args := [vS p.mem]) (x := vS (cleanM p.mem)) (g := cond2 (decide (CfR (cfOf p))) (decide (p.prog.length ≤ 64)) false) rfl rfl rfl rfl (fun h => h) rfl rfl rfl (.inl rfl) rfl (fun hg => dClean p.mem hp.mem) <| gBS (x := vB (decide (p.mem = cleanM p.mem))) rfl (fun h => by first | (simp_all; done) | exact (Bool.and_eq_true_iff.1 h).1 | exact Bool.and_eq_true_iff.2 ⟨h, h⟩) (okBo (eq_tL p.mem (cleanM p.mem))) <| rNeed rfl rfl rfl (fun h => h) <| oR 1 rfl <| gN rfl <| gS rfl id <| gBS (x := vB (decide (p.cycles ≥ 0))) rfl id rfl <| rNeed rfl rfl rfl (fun h => h) <| oR 1 rfl <| gN rfl <| gS rfl id <| gBS (x := vB (decide (p.cycles ≤ 600))) rfl id rfl ?_
  refine rNeed rfl rfl rfl (fun h => h) <| oR 1 rfl <| rE 30 <| cRet ?_
  exact finTA rfl trivial rfl (bool_eq (by rw [Bool.eq_iff_iff]; unfold rightP; rw [decide_eq_true_eq]; unfold PlR okM; rw [show (cleanM p.mem = p.mem) = (p.mem = cleanM p.mem) from propext eq_comm]; simp [cAnd, and_assoc]))
theorem hNum_0 (p : ScPlan) (a b c : Bool) : HSem C0.P C0.G 45 [.ptr 0 0, vI 0] (heapF [(0, .box (planL p a b c))]) 1 (fun x h' => x = .v (.pointer none) ∧ h' = heapF [(0, .box (planL p a b c))]) := by
  refine HCall.intro (C := C0) (s := 1) c0Ok.at Tryd.func45 rfl rfl (by kernel_rfl) rfl rfl <| cSeq <| cReg rfl <| oR 1 rfl <| rE 2 <| cSeq <| cSeq <| cReg rfl <| oR 1 rfl <| rCl rfl (.inl rfl) (dName_0) <| rE 4 <| cBlock <| cSeq <| cReg rfl <| rOk (x := vB false) rfl rfl (okBo ((eq_tL [109, 111, 100, 101] [119, 105, 100, 116, 104]).trans (by decide))) <| oR 1 rfl ?_
  refine rE 6 ?_
  refine cCond rfl (fun h => by cases h) (fun _ => ?_)
  refine cSeq <| cReg rfl <| rOk (x := vB false) rfl rfl (okBo ((eq_tL [109, 111, 100, 101] [114, 111, 98]).trans (by decide))) <| oR 1 rfl <| rE 8 ?_
  refine cCond rfl (fun h => by cases h) (fun _ => ?_)
  refine cSeq <| cReg rfl <| rOk (x := vB false) rfl rfl (okBo ((eq_tL [109, 111, 100, 101] [113, 117, 101, 117, 101]).trans (by decide))) <| oR 1 rfl <| rE 10 ?_
  refine cCond rfl (fun h => by cases h) (fun _ => ?_)
  refine cSeq <| cReg rfl <| rOk (x := vB false) rfl rfl (okBo ((eq_tL [109, 111, 100, 101] [115, 116, 111, 114, 101, 115]).trans (by decide))) <| oR 1 rfl <| rE 12 ?_
  refine cCond rfl (fun h => by cases h) (fun _ => ?_)
  refine cSeq <| cReg rfl <| rOk (x := vB false) rfl rfl (okBo ((eq_tL [109, 111, 100, 101] [115, 108, 111, 116, 115]).trans (by decide))) <| oR 1 rfl <| rE 14 ?_
  refine cCond rfl (fun h => by cases h) (fun _ => ?_)
  refine cSeq <| cReg rfl <| rOk (x := vB false) rfl rfl (okBo ((eq_tL [109, 111, 100, 101] [115, 101, 116, 115]).trans (by decide))) <| oR 1 rfl <| rE 16 ?_
  refine cCond rfl (fun h => by cases h) (fun _ => ?_)
  refine cSeq <| cReg rfl <| rOk (x := vB false) rfl rfl (okBo ((eq_tL [109, 111, 100, 101] [119, 97, 121, 115]).trans (by decide))) <| oR 1 rfl <| rE 18 ?_
  refine cCond rfl (fun h => by cases h) (fun _ => ?_)
  refine cSeq <| cReg rfl <| rOk (x := vB false) rfl rfl (okBo ((eq_tL [109, 111, 100, 101] [99, 121, 99, 108, 101, 115]).trans (by decide))) <| oR 1 rfl <| rE 20 ?_
  refine cCond rfl (fun h => by cases h) (fun _ => ?_)
  refine cSkip <| cSeq <| cReg rfl <| oR 1 rfl <| rE 21 <| cRet ?_
  exact finH (rs := [.v (.pointer none)]) rfl (r := .v (.pointer none)) (σ := fun z => z) ⟨rfl, rfl⟩ rfl (weak_ret (fun z => z) rfl rfl wH rfl)
theorem numAt_0 {p : ScPlan} {a b c : Bool} {n : Nat} {K : AH} {s2 : Nat} (hb : Nat.blt n s2 = true) (hK : K n = some (.box (planL p a b c))) :
    HSem C0.P C0.G 45 [.ptr n 0, vI 0] K s2 (fun x h' => x = .v (.pointer none) ∧ h' = upd K n (some (.box (planL p a b c)))) :=
  (hNum_0 p a b c).frame1 n K s2 (Nat.le_of_ble_eq_true hb) rfl hK rfl
theorem hNum_1 (p : ScPlan) (a b c : Bool) : HSem C0.P C0.G 45 [.ptr 0 0, vI 1] (heapF [(0, .box (planL p a b c))]) 1 (fun x h' => x = .ptr 0 1 ∧ h' = heapF [(0, .box (planL p a b c))]) := by
  refine HCall.intro (C := C0) (s := 1) c0Ok.at Tryd.func45 rfl rfl (by kernel_rfl) rfl rfl <| cSeq <| cReg rfl <| oR 1 rfl <| rE 2 <| cSeq <| cSeq <| cReg rfl <| oR 1 rfl <| rCl rfl (.inl rfl) (dName_1) <| rE 4 <| cBlock <| cSeq <| cReg rfl <| rOk (x := vB true) rfl rfl (okBo ((eq_tL [119, 105, 100, 116, 104] [119, 105, 100, 116, 104]).trans (by decide))) <| oR 1 rfl ?_
  refine rE 6 ?_
  refine cCond rfl (fun _ => ?_) (fun h => by cases h)
  refine cSeq <| cReg rfl <| oR 5 rfl <| rE 11 <| cRet ?_
  exact finH (rs := [.ptr 0 1]) rfl (r := .ptr 0 1) (σ := fun z => z) ⟨rfl, rfl⟩ rfl (weak_ret (fun z => z) rfl rfl wH rfl)
theorem numAt_1 {p : ScPlan} {a b c : Bool} {n : Nat} {K : AH} {s2 : Nat} (hb : Nat.blt n s2 = true) (hK : K n = some (.box (planL p a b c))) :
    HSem C0.P C0.G 45 [.ptr n 0, vI 1] K s2 (fun x h' => x = .ptr n 1 ∧ h' = upd K n (some (.box (planL p a b c)))) :=
  (hNum_1 p a b c).frame1 n K s2 (Nat.le_of_ble_eq_true hb) rfl hK rfl
theorem hNum_2 (p : ScPlan) (a b c : Bool) : HSem C0.P C0.G 45 [.ptr 0 0, vI 2] (heapF [(0, .box (planL p a b c))]) 1 (fun x h' => x = .ptr 0 2 ∧ h' = heapF [(0, .box (planL p a b c))]) := by
  refine HCall.intro (C := C0) (s := 1) c0Ok.at Tryd.func45 rfl rfl (by kernel_rfl) rfl rfl <| cSeq <| cReg rfl <| oR 1 rfl <| rE 2 <| cSeq <| cSeq <| cReg rfl <| oR 1 rfl <| rCl rfl (.inl rfl) (dName_2) <| rE 4 <| cBlock <| cSeq <| cReg rfl <| rOk (x := vB false) rfl rfl (okBo ((eq_tL [114, 111, 98] [119, 105, 100, 116, 104]).trans (by decide))) <| oR 1 rfl ?_
  refine rE 6 ?_
  refine cCond rfl (fun h => by cases h) (fun _ => ?_)
  refine cSeq <| cReg rfl <| rOk (x := vB true) rfl rfl (okBo ((eq_tL [114, 111, 98] [114, 111, 98]).trans (by decide))) <| oR 1 rfl <| rE 8 ?_
  refine cCond rfl (fun _ => ?_) (fun h => by cases h)
  refine cSeq <| cReg rfl <| oR 5 rfl <| rE 13 <| cRet ?_
  exact finH (rs := [.ptr 0 2]) rfl (r := .ptr 0 2) (σ := fun z => z) ⟨rfl, rfl⟩ rfl (weak_ret (fun z => z) rfl rfl wH rfl)
theorem numAt_2 {p : ScPlan} {a b c : Bool} {n : Nat} {K : AH} {s2 : Nat} (hb : Nat.blt n s2 = true) (hK : K n = some (.box (planL p a b c))) :
    HSem C0.P C0.G 45 [.ptr n 0, vI 2] K s2 (fun x h' => x = .ptr n 2 ∧ h' = upd K n (some (.box (planL p a b c)))) :=
  (hNum_2 p a b c).frame1 n K s2 (Nat.le_of_ble_eq_true hb) rfl hK rfl
theorem hNum_3 (p : ScPlan) (a b c : Bool) : HSem C0.P C0.G 45 [.ptr 0 0, vI 3] (heapF [(0, .box (planL p a b c))]) 1 (fun x h' => x = .ptr 0 3 ∧ h' = heapF [(0, .box (planL p a b c))]) := by
  refine HCall.intro (C := C0) (s := 1) c0Ok.at Tryd.func45 rfl rfl (by kernel_rfl) rfl rfl <| cSeq <| cReg rfl <| oR 1 rfl <| rE 2 <| cSeq <| cSeq <| cReg rfl <| oR 1 rfl <| rCl rfl (.inl rfl) (dName_3) <| rE 4 <| cBlock <| cSeq <| cReg rfl <| rOk (x := vB false) rfl rfl (okBo ((eq_tL [113, 117, 101, 117, 101] [119, 105, 100, 116, 104]).trans (by decide))) <| oR 1 rfl ?_
  refine rE 6 ?_
  refine cCond rfl (fun h => by cases h) (fun _ => ?_)
  refine cSeq <| cReg rfl <| rOk (x := vB false) rfl rfl (okBo ((eq_tL [113, 117, 101, 117, 101] [114, 111, 98]).trans (by decide))) <| oR 1 rfl <| rE 8 ?_
  refine cCond rfl (fun h => by cases h) (fun _ => ?_)
  refine cSeq <| cReg rfl <| rOk (x := vB true) rfl rfl (okBo ((eq_tL [113, 117, 101, 117, 101] [113, 117, 101, 117, 101]).trans (by decide))) <| oR 1 rfl <| rE 10 ?_
  refine cCond rfl (fun _ => ?_) (fun h => by cases h)
  refine cSeq <| cReg rfl <| oR 5 rfl <| rE 15 <| cRet ?_
  exact finH (rs := [.ptr 0 3]) rfl (r := .ptr 0 3) (σ := fun z => z) ⟨rfl, rfl⟩ rfl (weak_ret (fun z => z) rfl rfl wH rfl)
theorem numAt_3 {p : ScPlan} {a b c : Bool} {n : Nat} {K : AH} {s2 : Nat} (hb : Nat.blt n s2 = true) (hK : K n = some (.box (planL p a b c))) :
    HSem C0.P C0.G 45 [.ptr n 0, vI 3] K s2 (fun x h' => x = .ptr n 3 ∧ h' = upd K n (some (.box (planL p a b c)))) :=
  (hNum_3 p a b c).frame1 n K s2 (Nat.le_of_ble_eq_true hb) rfl hK rfl
theorem hNum_4 (p : ScPlan) (a b c : Bool) : HSem C0.P C0.G 45 [.ptr 0 0, vI 4] (heapF [(0, .box (planL p a b c))]) 1 (fun x h' => x = .ptr 0 4 ∧ h' = heapF [(0, .box (planL p a b c))]) := by
  refine HCall.intro (C := C0) (s := 1) c0Ok.at Tryd.func45 rfl rfl (by kernel_rfl) rfl rfl <| cSeq <| cReg rfl <| oR 1 rfl <| rE 2 <| cSeq <| cSeq <| cReg rfl <| oR 1 rfl <| rCl rfl (.inl rfl) (dName_4) <| rE 4 <| cBlock <| cSeq <| cReg rfl <| rOk (x := vB false) rfl rfl (okBo ((eq_tL [115, 116, 111, 114, 101, 115] [119, 105, 100, 116, 104]).trans (by decide))) <| oR 1 rfl ?_
  refine rE 6 ?_
  refine cCond rfl (fun h => by cases h) (fun _ => ?_)
  refine cSeq <| cReg rfl <| rOk (x := vB false) rfl rfl (okBo ((eq_tL [115, 116, 111, 114, 101, 115] [114, 111, 98]).trans (by decide))) <| oR 1 rfl <| rE 8 ?_
  refine cCond rfl (fun h => by cases h) (fun _ => ?_)
  refine cSeq <| cReg rfl <| rOk (x := vB false) rfl rfl (okBo ((eq_tL [115, 116, 111, 114, 101, 115] [113, 117, 101, 117, 101]).trans (by decide))) <| oR 1 rfl <| rE 10 ?_
  refine cCond rfl (fun h => by cases h) (fun _ => ?_)
  refine cSeq <| cReg rfl <| rOk (x := vB true) rfl rfl (okBo ((eq_tL [115, 116, 111, 114, 101, 115] [115, 116, 111, 114, 101, 115]).trans (by decide))) <| oR 1 rfl <| rE 12 ?_
  refine cCond rfl (fun _ => ?_) (fun h => by cases h)
  refine cSeq <| cReg rfl <| oR 5 rfl <| rE 17 <| cRet ?_
  exact finH (rs := [.ptr 0 4]) rfl (r := .ptr 0 4) (σ := fun z => z) ⟨rfl, rfl⟩ rfl (weak_ret (fun z => z) rfl rfl wH rfl)
theorem numAt_4 {p : ScPlan} {a b c : Bool} {n : Nat} {K : AH} {s2 : Nat} (hb : Nat.blt n s2 = true) (hK : K n = some (.box (planL p a b c))) :
    HSem C0.P C0.G 45 [.ptr n 0, vI 4] K s2 (fun x h' => x = .ptr n 4 ∧ h' = upd K n (some (.box (planL p a b c)))) :=
  (hNum_4 p a b c).frame1 n K s2 (Nat.le_of_ble_eq_true hb) rfl hK rfl
theorem hNum_5 (p : ScPlan) (a b c : Bool) : HSem C0.P C0.G 45 [.ptr 0 0, vI 5] (heapF [(0, .box (planL p a b c))]) 1 (fun x h' => x = .ptr 0 5 ∧ h' = heapF [(0, .box (planL p a b c))]) := by
  refine HCall.intro (C := C0) (s := 1) c0Ok.at Tryd.func45 rfl rfl (by kernel_rfl) rfl rfl <| cSeq <| cReg rfl <| oR 1 rfl <| rE 2 <| cSeq <| cSeq <| cReg rfl <| oR 1 rfl <| rCl rfl (.inl rfl) (dName_5) <| rE 4 <| cBlock <| cSeq <| cReg rfl <| rOk (x := vB false) rfl rfl (okBo ((eq_tL [115, 108, 111, 116, 115] [119, 105, 100, 116, 104]).trans (by decide))) <| oR 1 rfl ?_
  refine rE 6 ?_
  refine cCond rfl (fun h => by cases h) (fun _ => ?_)
  refine cSeq <| cReg rfl <| rOk (x := vB false) rfl rfl (okBo ((eq_tL [115, 108, 111, 116, 115] [114, 111, 98]).trans (by decide))) <| oR 1 rfl <| rE 8 ?_
  refine cCond rfl (fun h => by cases h) (fun _ => ?_)
  refine cSeq <| cReg rfl <| rOk (x := vB false) rfl rfl (okBo ((eq_tL [115, 108, 111, 116, 115] [113, 117, 101, 117, 101]).trans (by decide))) <| oR 1 rfl <| rE 10 ?_
  refine cCond rfl (fun h => by cases h) (fun _ => ?_)
  refine cSeq <| cReg rfl <| rOk (x := vB false) rfl rfl (okBo ((eq_tL [115, 108, 111, 116, 115] [115, 116, 111, 114, 101, 115]).trans (by decide))) <| oR 1 rfl <| rE 12 ?_
  refine cCond rfl (fun h => by cases h) (fun _ => ?_)
  refine cSeq <| cReg rfl <| rOk (x := vB true) rfl rfl (okBo ((eq_tL [115, 108, 111, 116, 115] [115, 108, 111, 116, 115]).trans (by decide))) <| oR 1 rfl <| rE 14 ?_
  refine cCond rfl (fun _ => ?_) (fun h => by cases h)
  refine cSeq <| cReg rfl <| oR 5 rfl <| rE 19 <| cRet ?_
  exact finH (rs := [.ptr 0 5]) rfl (r := .ptr 0 5) (σ := fun z => z) ⟨rfl, rfl⟩ rfl (weak_ret (fun z => z) rfl rfl wH rfl)
theorem numAt_5 {p : ScPlan} {a b c : Bool} {n : Nat} {K : AH} {s2 : Nat} (hb : Nat.blt n s2 = true) (hK : K n = some (.box (planL p a b c))) :
    HSem C0.P C0.G 45 [.ptr n 0, vI 5] K s2 (fun x h' => x = .ptr n 5 ∧ h' = upd K n (some (.box (planL p a b c)))) :=
  (hNum_5 p a b c).frame1 n K s2 (Nat.le_of_ble_eq_true hb) rfl hK rfl
theorem hNum_6 (p : ScPlan) (a b c : Bool) : HSem C0.P C0.G 45 [.ptr 0 0, vI 6] (heapF [(0, .box (planL p a b c))]) 1 (fun x h' => x = .ptr 0 6 ∧ h' = heapF [(0, .box (planL p a b c))]) := by
  refine HCall.intro (C := C0) (s := 1) c0Ok.at Tryd.func45 rfl rfl (by kernel_rfl) rfl rfl <| cSeq <| cReg rfl <| oR 1 rfl <| rE 2 <| cSeq <| cSeq <| cReg rfl <| oR 1 rfl <| rCl rfl (.inl rfl) (dName_6) <| rE 4 <| cBlock <| cSeq <| cReg rfl <| rOk (x := vB false) rfl rfl (okBo ((eq_tL [115, 101, 116, 115] [119, 105, 100, 116, 104]).trans (by decide))) <| oR 1 rfl ?_
  refine rE 6 ?_
  refine cCond rfl (fun h => by cases h) (fun _ => ?_)
  refine cSeq <| cReg rfl <| rOk (x := vB false) rfl rfl (okBo ((eq_tL [115, 101, 116, 115] [114, 111, 98]).trans (by decide))) <| oR 1 rfl <| rE 8 ?_
  refine cCond rfl (fun h => by cases h) (fun _ => ?_)
  refine cSeq <| cReg rfl <| rOk (x := vB false) rfl rfl (okBo ((eq_tL [115, 101, 116, 115] [113, 117, 101, 117, 101]).trans (by decide))) <| oR 1 rfl <| rE 10 ?_
  refine cCond rfl (fun h => by cases h) (fun _ => ?_)
  refine cSeq <| cReg rfl <| rOk (x := vB false) rfl rfl (okBo ((eq_tL [115, 101, 116, 115] [115, 116, 111, 114, 101, 115]).trans (by decide))) <| oR 1 rfl <| rE 12 ?_
  refine cCond rfl (fun h => by cases h) (fun _ => ?_)
  refine cSeq <| cReg rfl <| rOk (x := vB false) rfl rfl (okBo ((eq_tL [115, 101, 116, 115] [115, 108, 111, 116, 115]).trans (by decide))) <| oR 1 rfl <| rE 14 ?_
  refine cCond rfl (fun h => by cases h) (fun _ => ?_)
  refine cSeq <| cReg rfl <| rOk (x := vB true) rfl rfl (okBo ((eq_tL [115, 101, 116, 115] [115, 101, 116, 115]).trans (by decide))) <| oR 1 rfl <| rE 16 ?_
  refine cCond rfl (fun _ => ?_) (fun h => by cases h)
  refine cSeq <| cReg rfl <| oR 5 rfl <| rE 21 <| cRet ?_
  exact finH (rs := [.ptr 0 6]) rfl (r := .ptr 0 6) (σ := fun z => z) ⟨rfl, rfl⟩ rfl (weak_ret (fun z => z) rfl rfl wH rfl)
theorem numAt_6 {p : ScPlan} {a b c : Bool} {n : Nat} {K : AH} {s2 : Nat} (hb : Nat.blt n s2 = true) (hK : K n = some (.box (planL p a b c))) :
    HSem C0.P C0.G 45 [.ptr n 0, vI 6] K s2 (fun x h' => x = .ptr n 6 ∧ h' = upd K n (some (.box (planL p a b c)))) :=
  (hNum_6 p a b c).frame1 n K s2 (Nat.le_of_ble_eq_true hb) rfl hK rfl
theorem hNum_7 (p : ScPlan) (a b c : Bool) : HSem C0.P C0.G 45 [.ptr 0 0, vI 7] (heapF [(0, .box (planL p a b c))]) 1 (fun x h' => x = .ptr 0 7 ∧ h' = heapF [(0, .box (planL p a b c))]) := by
  refine HCall.intro (C := C0) (s := 1) c0Ok.at Tryd.func45 rfl rfl (by kernel_rfl) rfl rfl <| cSeq <| cReg rfl <| oR 1 rfl <| rE 2 <| cSeq <| cSeq <| cReg rfl <| oR 1 rfl <| rCl rfl (.inl rfl) (dName_7) <| rE 4 <| cBlock <| cSeq <| cReg rfl <| rOk (x := vB false) rfl rfl (okBo ((eq_tL [119, 97, 121, 115] [119, 105, 100, 116, 104]).trans (by decide))) <| oR 1 rfl ?_
  refine rE 6 ?_
  refine cCond rfl (fun h => by cases h) (fun _ => ?_)
  refine cSeq <| cReg rfl <| rOk (x := vB false) rfl rfl (okBo ((eq_tL [119, 97, 121, 115] [114, 111, 98]).trans (by decide))) <| oR 1 rfl <| rE 8 ?_
  refine cCond rfl (fun h => by cases h) (fun _ => ?_)
  refine cSeq <| cReg rfl <| rOk (x := vB false) rfl rfl (okBo ((eq_tL [119, 97, 121, 115] [113, 117, 101, 117, 101]).trans (by decide))) <| oR 1 rfl <| rE 10 ?_
  refine cCond rfl (fun h => by cases h) (fun _ => ?_)
  refine cSeq <| cReg rfl <| rOk (x := vB false) rfl rfl (okBo ((eq_tL [119, 97, 121, 115] [115, 116, 111, 114, 101, 115]).trans (by decide))) <| oR 1 rfl <| rE 12 ?_
  refine cCond rfl (fun h => by cases h) (fun _ => ?_)
  refine cSeq <| cReg rfl <| rOk (x := vB false) rfl rfl (okBo ((eq_tL [119, 97, 121, 115] [115, 108, 111, 116, 115]).trans (by decide))) <| oR 1 rfl <| rE 14 ?_
  refine cCond rfl (fun h => by cases h) (fun _ => ?_)
  refine cSeq <| cReg rfl <| rOk (x := vB false) rfl rfl (okBo ((eq_tL [119, 97, 121, 115] [115, 101, 116, 115]).trans (by decide))) <| oR 1 rfl <| rE 16 ?_
  refine cCond rfl (fun h => by cases h) (fun _ => ?_)
  refine cSeq <| cReg rfl <| rOk (x := vB true) rfl rfl (okBo ((eq_tL [119, 97, 121, 115] [119, 97, 121, 115]).trans (by decide))) <| oR 1 rfl <| rE 18 ?_
  refine cCond rfl (fun _ => ?_) (fun h => by cases h)
  refine cSeq <| cReg rfl <| oR 5 rfl <| rE 23 <| cRet ?_
  exact finH (rs := [.ptr 0 7]) rfl (r := .ptr 0 7) (σ := fun z => z) ⟨rfl, rfl⟩ rfl (weak_ret (fun z => z) rfl rfl wH rfl)
theorem numAt_7 {p : ScPlan} {a b c : Bool} {n : Nat} {K : AH} {s2 : Nat} (hb : Nat.blt n s2 = true) (hK : K n = some (.box (planL p a b c))) :
    HSem C0.P C0.G 45 [.ptr n 0, vI 7] K s2 (fun x h' => x = .ptr n 7 ∧ h' = upd K n (some (.box (planL p a b c)))) :=
  (hNum_7 p a b c).frame1 n K s2 (Nat.le_of_ble_eq_true hb) rfl hK rfl
theorem hNum_8 (p : ScPlan) (a b c : Bool) : HSem C0.P C0.G 45 [.ptr 0 0, vI 8] (heapF [(0, .box (planL p a b c))]) 1 (fun x h' => x = .v (.pointer none) ∧ h' = heapF [(0, .box (planL p a b c))]) := by
  refine HCall.intro (C := C0) (s := 1) c0Ok.at Tryd.func45 rfl rfl (by kernel_rfl) rfl rfl <| cSeq <| cReg rfl <| oR 1 rfl <| rE 2 <| cSeq <| cSeq <| cReg rfl <| oR 1 rfl <| rCl rfl (.inl rfl) (dName_8) <| rE 4 <| cBlock <| cSeq <| cReg rfl <| rOk (x := vB false) rfl rfl (okBo ((eq_tL [103, 117, 101, 115, 115] [119, 105, 100, 116, 104]).trans (by decide))) <| oR 1 rfl ?_
  refine rE 6 ?_
  refine cCond rfl (fun h => by cases h) (fun _ => ?_)
  refine cSeq <| cReg rfl <| rOk (x := vB false) rfl rfl (okBo ((eq_tL [103, 117, 101, 115, 115] [114, 111, 98]).trans (by decide))) <| oR 1 rfl <| rE 8 ?_
  refine cCond rfl (fun h => by cases h) (fun _ => ?_)
  refine cSeq <| cReg rfl <| rOk (x := vB false) rfl rfl (okBo ((eq_tL [103, 117, 101, 115, 115] [113, 117, 101, 117, 101]).trans (by decide))) <| oR 1 rfl <| rE 10 ?_
  refine cCond rfl (fun h => by cases h) (fun _ => ?_)
  refine cSeq <| cReg rfl <| rOk (x := vB false) rfl rfl (okBo ((eq_tL [103, 117, 101, 115, 115] [115, 116, 111, 114, 101, 115]).trans (by decide))) <| oR 1 rfl <| rE 12 ?_
  refine cCond rfl (fun h => by cases h) (fun _ => ?_)
  refine cSeq <| cReg rfl <| rOk (x := vB false) rfl rfl (okBo ((eq_tL [103, 117, 101, 115, 115] [115, 108, 111, 116, 115]).trans (by decide))) <| oR 1 rfl <| rE 14 ?_
  refine cCond rfl (fun h => by cases h) (fun _ => ?_)
  refine cSeq <| cReg rfl <| rOk (x := vB false) rfl rfl (okBo ((eq_tL [103, 117, 101, 115, 115] [115, 101, 116, 115]).trans (by decide))) <| oR 1 rfl <| rE 16 ?_
  refine cCond rfl (fun h => by cases h) (fun _ => ?_)
  refine cSeq <| cReg rfl <| rOk (x := vB false) rfl rfl (okBo ((eq_tL [103, 117, 101, 115, 115] [119, 97, 121, 115]).trans (by decide))) <| oR 1 rfl <| rE 18 ?_
  refine cCond rfl (fun h => by cases h) (fun _ => ?_)
  refine cSeq <| cReg rfl <| rOk (x := vB false) rfl rfl (okBo ((eq_tL [103, 117, 101, 115, 115] [99, 121, 99, 108, 101, 115]).trans (by decide))) <| oR 1 rfl <| rE 20 ?_
  refine cCond rfl (fun h => by cases h) (fun _ => ?_)
  refine cSkip <| cSeq <| cReg rfl <| oR 1 rfl <| rE 21 <| cRet ?_
  exact finH (rs := [.v (.pointer none)]) rfl (r := .v (.pointer none)) (σ := fun z => z) ⟨rfl, rfl⟩ rfl (weak_ret (fun z => z) rfl rfl wH rfl)
theorem numAt_8 {p : ScPlan} {a b c : Bool} {n : Nat} {K : AH} {s2 : Nat} (hb : Nat.blt n s2 = true) (hK : K n = some (.box (planL p a b c))) :
    HSem C0.P C0.G 45 [.ptr n 0, vI 8] K s2 (fun x h' => x = .v (.pointer none) ∧ h' = upd K n (some (.box (planL p a b c)))) :=
  (hNum_8 p a b c).frame1 n K s2 (Nat.le_of_ble_eq_true hb) rfl hK rfl
theorem hNum_9 (p : ScPlan) (a b c : Bool) : HSem C0.P C0.G 45 [.ptr 0 0, vI 9] (heapF [(0, .box (planL p a b c))]) 1 (fun x h' => x = .v (.pointer none) ∧ h' = heapF [(0, .box (planL p a b c))]) := by
  refine HCall.intro (C := C0) (s := 1) c0Ok.at Tryd.func45 rfl rfl (by kernel_rfl) rfl rfl <| cSeq <| cReg rfl <| oR 1 rfl <| rE 2 <| cSeq <| cSeq <| cReg rfl <| oR 1 rfl <| rCl rfl (.inl rfl) (dName_9) <| rE 4 <| cBlock <| cSeq <| cReg rfl <| rOk (x := vB false) rfl rfl (okBo ((eq_tL [108, 97, 116] [119, 105, 100, 116, 104]).trans (by decide))) <| oR 1 rfl ?_
  refine rE 6 ?_
  refine cCond rfl (fun h => by cases h) (fun _ => ?_)
  refine cSeq <| cReg rfl <| rOk (x := vB false) rfl rfl (okBo ((eq_tL [108, 97, 116] [114, 111, 98]).trans (by decide))) <| oR 1 rfl <| rE 8 ?_
  refine cCond rfl (fun h => by cases h) (fun _ => ?_)
  refine cSeq <| cReg rfl <| rOk (x := vB false) rfl rfl (okBo ((eq_tL [108, 97, 116] [113, 117, 101, 117, 101]).trans (by decide))) <| oR 1 rfl <| rE 10 ?_
  refine cCond rfl (fun h => by cases h) (fun _ => ?_)
  refine cSeq <| cReg rfl <| rOk (x := vB false) rfl rfl (okBo ((eq_tL [108, 97, 116] [115, 116, 111, 114, 101, 115]).trans (by decide))) <| oR 1 rfl <| rE 12 ?_
  refine cCond rfl (fun h => by cases h) (fun _ => ?_)
  refine cSeq <| cReg rfl <| rOk (x := vB false) rfl rfl (okBo ((eq_tL [108, 97, 116] [115, 108, 111, 116, 115]).trans (by decide))) <| oR 1 rfl <| rE 14 ?_
  refine cCond rfl (fun h => by cases h) (fun _ => ?_)
  refine cSeq <| cReg rfl <| rOk (x := vB false) rfl rfl (okBo ((eq_tL [108, 97, 116] [115, 101, 116, 115]).trans (by decide))) <| oR 1 rfl <| rE 16 ?_
  refine cCond rfl (fun h => by cases h) (fun _ => ?_)
  refine cSeq <| cReg rfl <| rOk (x := vB false) rfl rfl (okBo ((eq_tL [108, 97, 116] [119, 97, 121, 115]).trans (by decide))) <| oR 1 rfl <| rE 18 ?_
  refine cCond rfl (fun h => by cases h) (fun _ => ?_)
  refine cSeq <| cReg rfl <| rOk (x := vB false) rfl rfl (okBo ((eq_tL [108, 97, 116] [99, 121, 99, 108, 101, 115]).trans (by decide))) <| oR 1 rfl <| rE 20 ?_
  refine cCond rfl (fun h => by cases h) (fun _ => ?_)
  refine cSkip <| cSeq <| cReg rfl <| oR 1 rfl <| rE 21 <| cRet ?_
  exact finH (rs := [.v (.pointer none)]) rfl (r := .v (.pointer none)) (σ := fun z => z) ⟨rfl, rfl⟩ rfl (weak_ret (fun z => z) rfl rfl wH rfl)
theorem numAt_9 {p : ScPlan} {a b c : Bool} {n : Nat} {K : AH} {s2 : Nat} (hb : Nat.blt n s2 = true) (hK : K n = some (.box (planL p a b c))) :
    HSem C0.P C0.G 45 [.ptr n 0, vI 9] K s2 (fun x h' => x = .v (.pointer none) ∧ h' = upd K n (some (.box (planL p a b c)))) :=
  (hNum_9 p a b c).frame1 n K s2 (Nat.le_of_ble_eq_true hb) rfl hK rfl
theorem hNum_10 (p : ScPlan) (a b c : Bool) : HSem C0.P C0.G 45 [.ptr 0 0, vI 10] (heapF [(0, .box (planL p a b c))]) 1 (fun x h' => x = .v (.pointer none) ∧ h' = heapF [(0, .box (planL p a b c))]) := by
  refine HCall.intro (C := C0) (s := 1) c0Ok.at Tryd.func45 rfl rfl (by kernel_rfl) rfl rfl <| cSeq <| cReg rfl <| oR 1 rfl <| rE 2 <| cSeq <| cSeq <| cReg rfl <| oR 1 rfl <| rCl rfl (.inl rfl) (dName_10) <| rE 4 <| cBlock <| cSeq <| cReg rfl <| rOk (x := vB false) rfl rfl (okBo ((eq_tL [116, 97, 112, 101] [119, 105, 100, 116, 104]).trans (by decide))) <| oR 1 rfl ?_
  refine rE 6 ?_
  refine cCond rfl (fun h => by cases h) (fun _ => ?_)
  refine cSeq <| cReg rfl <| rOk (x := vB false) rfl rfl (okBo ((eq_tL [116, 97, 112, 101] [114, 111, 98]).trans (by decide))) <| oR 1 rfl <| rE 8 ?_
  refine cCond rfl (fun h => by cases h) (fun _ => ?_)
  refine cSeq <| cReg rfl <| rOk (x := vB false) rfl rfl (okBo ((eq_tL [116, 97, 112, 101] [113, 117, 101, 117, 101]).trans (by decide))) <| oR 1 rfl <| rE 10 ?_
  refine cCond rfl (fun h => by cases h) (fun _ => ?_)
  refine cSeq <| cReg rfl <| rOk (x := vB false) rfl rfl (okBo ((eq_tL [116, 97, 112, 101] [115, 116, 111, 114, 101, 115]).trans (by decide))) <| oR 1 rfl <| rE 12 ?_
  refine cCond rfl (fun h => by cases h) (fun _ => ?_)
  refine cSeq <| cReg rfl <| rOk (x := vB false) rfl rfl (okBo ((eq_tL [116, 97, 112, 101] [115, 108, 111, 116, 115]).trans (by decide))) <| oR 1 rfl <| rE 14 ?_
  refine cCond rfl (fun h => by cases h) (fun _ => ?_)
  refine cSeq <| cReg rfl <| rOk (x := vB false) rfl rfl (okBo ((eq_tL [116, 97, 112, 101] [115, 101, 116, 115]).trans (by decide))) <| oR 1 rfl <| rE 16 ?_
  refine cCond rfl (fun h => by cases h) (fun _ => ?_)
  refine cSeq <| cReg rfl <| rOk (x := vB false) rfl rfl (okBo ((eq_tL [116, 97, 112, 101] [119, 97, 121, 115]).trans (by decide))) <| oR 1 rfl <| rE 18 ?_
  refine cCond rfl (fun h => by cases h) (fun _ => ?_)
  refine cSeq <| cReg rfl <| rOk (x := vB false) rfl rfl (okBo ((eq_tL [116, 97, 112, 101] [99, 121, 99, 108, 101, 115]).trans (by decide))) <| oR 1 rfl <| rE 20 ?_
  refine cCond rfl (fun h => by cases h) (fun _ => ?_)
  refine cSkip <| cSeq <| cReg rfl <| oR 1 rfl <| rE 21 <| cRet ?_
  exact finH (rs := [.v (.pointer none)]) rfl (r := .v (.pointer none)) (σ := fun z => z) ⟨rfl, rfl⟩ rfl (weak_ret (fun z => z) rfl rfl wH rfl)
theorem numAt_10 {p : ScPlan} {a b c : Bool} {n : Nat} {K : AH} {s2 : Nat} (hb : Nat.blt n s2 = true) (hK : K n = some (.box (planL p a b c))) :
    HSem C0.P C0.G 45 [.ptr n 0, vI 10] K s2 (fun x h' => x = .v (.pointer none) ∧ h' = upd K n (some (.box (planL p a b c)))) :=
  (hNum_10 p a b c).frame1 n K s2 (Nat.le_of_ble_eq_true hb) rfl hK rfl
theorem hNum_11 (p : ScPlan) (a b c : Bool) : HSem C0.P C0.G 45 [.ptr 0 0, vI 11] (heapF [(0, .box (planL p a b c))]) 1 (fun x h' => x = .v (.pointer none) ∧ h' = heapF [(0, .box (planL p a b c))]) := by
  refine HCall.intro (C := C0) (s := 1) c0Ok.at Tryd.func45 rfl rfl (by kernel_rfl) rfl rfl <| cSeq <| cReg rfl <| oR 1 rfl <| rE 2 <| cSeq <| cSeq <| cReg rfl <| oR 1 rfl <| rCl rfl (.inl rfl) (dName_11) <| rE 4 <| cBlock <| cSeq <| cReg rfl <| rOk (x := vB false) rfl rfl (okBo ((eq_tL [112, 114, 111, 103] [119, 105, 100, 116, 104]).trans (by decide))) <| oR 1 rfl ?_
  refine rE 6 ?_
  refine cCond rfl (fun h => by cases h) (fun _ => ?_)
  refine cSeq <| cReg rfl <| rOk (x := vB false) rfl rfl (okBo ((eq_tL [112, 114, 111, 103] [114, 111, 98]).trans (by decide))) <| oR 1 rfl <| rE 8 ?_
  refine cCond rfl (fun h => by cases h) (fun _ => ?_)
  refine cSeq <| cReg rfl <| rOk (x := vB false) rfl rfl (okBo ((eq_tL [112, 114, 111, 103] [113, 117, 101, 117, 101]).trans (by decide))) <| oR 1 rfl <| rE 10 ?_
  refine cCond rfl (fun h => by cases h) (fun _ => ?_)
  refine cSeq <| cReg rfl <| rOk (x := vB false) rfl rfl (okBo ((eq_tL [112, 114, 111, 103] [115, 116, 111, 114, 101, 115]).trans (by decide))) <| oR 1 rfl <| rE 12 ?_
  refine cCond rfl (fun h => by cases h) (fun _ => ?_)
  refine cSeq <| cReg rfl <| rOk (x := vB false) rfl rfl (okBo ((eq_tL [112, 114, 111, 103] [115, 108, 111, 116, 115]).trans (by decide))) <| oR 1 rfl <| rE 14 ?_
  refine cCond rfl (fun h => by cases h) (fun _ => ?_)
  refine cSeq <| cReg rfl <| rOk (x := vB false) rfl rfl (okBo ((eq_tL [112, 114, 111, 103] [115, 101, 116, 115]).trans (by decide))) <| oR 1 rfl <| rE 16 ?_
  refine cCond rfl (fun h => by cases h) (fun _ => ?_)
  refine cSeq <| cReg rfl <| rOk (x := vB false) rfl rfl (okBo ((eq_tL [112, 114, 111, 103] [119, 97, 121, 115]).trans (by decide))) <| oR 1 rfl <| rE 18 ?_
  refine cCond rfl (fun h => by cases h) (fun _ => ?_)
  refine cSeq <| cReg rfl <| rOk (x := vB false) rfl rfl (okBo ((eq_tL [112, 114, 111, 103] [99, 121, 99, 108, 101, 115]).trans (by decide))) <| oR 1 rfl <| rE 20 ?_
  refine cCond rfl (fun h => by cases h) (fun _ => ?_)
  refine cSkip <| cSeq <| cReg rfl <| oR 1 rfl <| rE 21 <| cRet ?_
  exact finH (rs := [.v (.pointer none)]) rfl (r := .v (.pointer none)) (σ := fun z => z) ⟨rfl, rfl⟩ rfl (weak_ret (fun z => z) rfl rfl wH rfl)
theorem numAt_11 {p : ScPlan} {a b c : Bool} {n : Nat} {K : AH} {s2 : Nat} (hb : Nat.blt n s2 = true) (hK : K n = some (.box (planL p a b c))) :
    HSem C0.P C0.G 45 [.ptr n 0, vI 11] K s2 (fun x h' => x = .v (.pointer none) ∧ h' = upd K n (some (.box (planL p a b c)))) :=
  (hNum_11 p a b c).frame1 n K s2 (Nat.le_of_ble_eq_true hb) rfl hK rfl
theorem hNum_12 (p : ScPlan) (a b c : Bool) : HSem C0.P C0.G 45 [.ptr 0 0, vI 12] (heapF [(0, .box (planL p a b c))]) 1 (fun x h' => x = .v (.pointer none) ∧ h' = heapF [(0, .box (planL p a b c))]) := by
  refine HCall.intro (C := C0) (s := 1) c0Ok.at Tryd.func45 rfl rfl (by kernel_rfl) rfl rfl <| cSeq <| cReg rfl <| oR 1 rfl <| rE 2 <| cSeq <| cSeq <| cReg rfl <| oR 1 rfl <| rCl rfl (.inl rfl) (dName_12) <| rE 4 <| cBlock <| cSeq <| cReg rfl <| rOk (x := vB false) rfl rfl (okBo ((eq_tL [109, 101, 109] [119, 105, 100, 116, 104]).trans (by decide))) <| oR 1 rfl ?_
  refine rE 6 ?_
  refine cCond rfl (fun h => by cases h) (fun _ => ?_)
  refine cSeq <| cReg rfl <| rOk (x := vB false) rfl rfl (okBo ((eq_tL [109, 101, 109] [114, 111, 98]).trans (by decide))) <| oR 1 rfl <| rE 8 ?_
  refine cCond rfl (fun h => by cases h) (fun _ => ?_)
  refine cSeq <| cReg rfl <| rOk (x := vB false) rfl rfl (okBo ((eq_tL [109, 101, 109] [113, 117, 101, 117, 101]).trans (by decide))) <| oR 1 rfl <| rE 10 ?_
  refine cCond rfl (fun h => by cases h) (fun _ => ?_)
  refine cSeq <| cReg rfl <| rOk (x := vB false) rfl rfl (okBo ((eq_tL [109, 101, 109] [115, 116, 111, 114, 101, 115]).trans (by decide))) <| oR 1 rfl <| rE 12 ?_
  refine cCond rfl (fun h => by cases h) (fun _ => ?_)
  refine cSeq <| cReg rfl <| rOk (x := vB false) rfl rfl (okBo ((eq_tL [109, 101, 109] [115, 108, 111, 116, 115]).trans (by decide))) <| oR 1 rfl <| rE 14 ?_
  refine cCond rfl (fun h => by cases h) (fun _ => ?_)
  refine cSeq <| cReg rfl <| rOk (x := vB false) rfl rfl (okBo ((eq_tL [109, 101, 109] [115, 101, 116, 115]).trans (by decide))) <| oR 1 rfl <| rE 16 ?_
  refine cCond rfl (fun h => by cases h) (fun _ => ?_)
  refine cSeq <| cReg rfl <| rOk (x := vB false) rfl rfl (okBo ((eq_tL [109, 101, 109] [119, 97, 121, 115]).trans (by decide))) <| oR 1 rfl <| rE 18 ?_
  refine cCond rfl (fun h => by cases h) (fun _ => ?_)
  refine cSeq <| cReg rfl <| rOk (x := vB false) rfl rfl (okBo ((eq_tL [109, 101, 109] [99, 121, 99, 108, 101, 115]).trans (by decide))) <| oR 1 rfl <| rE 20 ?_
  refine cCond rfl (fun h => by cases h) (fun _ => ?_)
  refine cSkip <| cSeq <| cReg rfl <| oR 1 rfl <| rE 21 <| cRet ?_
  exact finH (rs := [.v (.pointer none)]) rfl (r := .v (.pointer none)) (σ := fun z => z) ⟨rfl, rfl⟩ rfl (weak_ret (fun z => z) rfl rfl wH rfl)
theorem numAt_12 {p : ScPlan} {a b c : Bool} {n : Nat} {K : AH} {s2 : Nat} (hb : Nat.blt n s2 = true) (hK : K n = some (.box (planL p a b c))) :
    HSem C0.P C0.G 45 [.ptr n 0, vI 12] K s2 (fun x h' => x = .v (.pointer none) ∧ h' = upd K n (some (.box (planL p a b c)))) :=
  (hNum_12 p a b c).frame1 n K s2 (Nat.le_of_ble_eq_true hb) rfl hK rfl
theorem hNum_13 (p : ScPlan) (a b c : Bool) : HSem C0.P C0.G 45 [.ptr 0 0, vI 13] (heapF [(0, .box (planL p a b c))]) 1 (fun x h' => x = .ptr 0 13 ∧ h' = heapF [(0, .box (planL p a b c))]) := by
  refine HCall.intro (C := C0) (s := 1) c0Ok.at Tryd.func45 rfl rfl (by kernel_rfl) rfl rfl <| cSeq <| cReg rfl <| oR 1 rfl <| rE 2 <| cSeq <| cSeq <| cReg rfl <| oR 1 rfl <| rCl rfl (.inl rfl) (dName_13) <| rE 4 <| cBlock <| cSeq <| cReg rfl <| rOk (x := vB false) rfl rfl (okBo ((eq_tL [99, 121, 99, 108, 101, 115] [119, 105, 100, 116, 104]).trans (by decide))) <| oR 1 rfl ?_
  refine rE 6 ?_
  refine cCond rfl (fun h => by cases h) (fun _ => ?_)
  refine cSeq <| cReg rfl <| rOk (x := vB false) rfl rfl (okBo ((eq_tL [99, 121, 99, 108, 101, 115] [114, 111, 98]).trans (by decide))) <| oR 1 rfl <| rE 8 ?_
  refine cCond rfl (fun h => by cases h) (fun _ => ?_)
  refine cSeq <| cReg rfl <| rOk (x := vB false) rfl rfl (okBo ((eq_tL [99, 121, 99, 108, 101, 115] [113, 117, 101, 117, 101]).trans (by decide))) <| oR 1 rfl <| rE 10 ?_
  refine cCond rfl (fun h => by cases h) (fun _ => ?_)
  refine cSeq <| cReg rfl <| rOk (x := vB false) rfl rfl (okBo ((eq_tL [99, 121, 99, 108, 101, 115] [115, 116, 111, 114, 101, 115]).trans (by decide))) <| oR 1 rfl <| rE 12 ?_
  refine cCond rfl (fun h => by cases h) (fun _ => ?_)
  refine cSeq <| cReg rfl <| rOk (x := vB false) rfl rfl (okBo ((eq_tL [99, 121, 99, 108, 101, 115] [115, 108, 111, 116, 115]).trans (by decide))) <| oR 1 rfl <| rE 14 ?_
  refine cCond rfl (fun h => by cases h) (fun _ => ?_)
  refine cSeq <| cReg rfl <| rOk (x := vB false) rfl rfl (okBo ((eq_tL [99, 121, 99, 108, 101, 115] [115, 101, 116, 115]).trans (by decide))) <| oR 1 rfl <| rE 16 ?_
  refine cCond rfl (fun h => by cases h) (fun _ => ?_)
  refine cSeq <| cReg rfl <| rOk (x := vB false) rfl rfl (okBo ((eq_tL [99, 121, 99, 108, 101, 115] [119, 97, 121, 115]).trans (by decide))) <| oR 1 rfl <| rE 18 ?_
  refine cCond rfl (fun h => by cases h) (fun _ => ?_)
  refine cSeq <| cReg rfl <| rOk (x := vB true) rfl rfl (okBo ((eq_tL [99, 121, 99, 108, 101, 115] [99, 121, 99, 108, 101, 115]).trans (by decide))) <| oR 1 rfl <| rE 20 ?_
  refine cCond rfl (fun _ => ?_) (fun h => by cases h)
  refine cSeq <| cReg rfl <| oR 4 rfl <| rE 24 <| cRet ?_
  exact finH (rs := [.ptr 0 13]) rfl (r := .ptr 0 13) (σ := fun z => z) ⟨rfl, rfl⟩ rfl (weak_ret (fun z => z) rfl rfl wH rfl)
theorem numAt_13 {p : ScPlan} {a b c : Bool} {n : Nat} {K : AH} {s2 : Nat} (hb : Nat.blt n s2 = true) (hK : K n = some (.box (planL p a b c))) :
    HSem C0.P C0.G 45 [.ptr n 0, vI 13] K s2 (fun x h' => x = .ptr n 13 ∧ h' = upd K n (some (.box (planL p a b c)))) :=
  (hNum_13 p a b c).frame1 n K s2 (Nat.le_of_ble_eq_true hb) rfl hK rfl
end Go.Proofs.YtpefnjbmbfdmmaaDoor
