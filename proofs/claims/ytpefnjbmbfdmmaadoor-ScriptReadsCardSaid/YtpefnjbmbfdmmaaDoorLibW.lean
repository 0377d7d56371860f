/- Go's library: strings.Cut, Split, SplitAfter at one byte: walks on the second machine. -/
import Derived.Test.YtpefnjbmbfdmmaaDoorAbsT
import Derived.Test.YtpefnjbmbfdmmaaDoorLibS
namespace Go.Proofs.YtpefnjbmbfdmmaaDoor
set_option maxRecDepth 100000
set_option maxHeartbeats 4000000
open Go.RowKit Go.Lib

theorem dCut_0 (s : List UInt8) (c : UInt8) (hs : s.length ≤ 900000) (h : Lib.indexByte s c = -1) : DCall C0 40 [vS s, .v (.string ⟨#[c]⟩)] (.tup [vS s, vS [], vB false]) := by
  refine DCall.intro c0Ok Tryd.func40 rfl rfl (by kernel_rfl) rfl <| cSeq <| cReg rfl <| oR 3 rfl <| rE 3 <| cSeq <| cSeq <| cReg rfl <| oR 2 rfl <| rCl (x := vI (-1)) rfl (.inl rfl) ((by have q := dIndexOne s c; rw [h] at q; exact q)) <| oR 1 rfl <| rE 7 <| cSeq <| cReg rfl <| oR 1 rfl <| rOk (x := vB (decide ((-1) ≥ 0))) rfl rfl rfl ?_
  refine rE 9 ?_
  refine cCond rfl (fun h1 => by exact absurd (of_decide_eq_true h1) (by decide)) (fun _ => ?_)
  refine cSkip <| cSeq <| cReg rfl <| oR 4 rfl <| rE 13 <| cRet ?_
  exact finTA rfl trivial rfl rfl
theorem dCut_1 (s : List UInt8) (c : UInt8) (hs : s.length ≤ 900000) (i : Nat) (hi : i < s.length) (h : Lib.indexByte s c = i) : DCall C0 40 [vS s, .v (.string ⟨#[c]⟩)] (.tup [vS (s.take i), vS (s.drop (i + 1)), vB true]) := by
  refine DCall.intro c0Ok Tryd.func40 rfl rfl (by kernel_rfl) rfl <| cSeq <| cReg rfl <| oR 3 rfl <| rE 3 <| cSeq <| cSeq <| cReg rfl <| oR 2 rfl <| rCl (x := vN i) rfl (.inl rfl) ((by have q := dIndexOne s c; rw [h] at q; exact q)) <| oR 1 rfl <| rE 7 <| cSeq <| cReg rfl <| oR 1 rfl <| rOk (x := vB (decide (i ≥ 0))) rfl rfl (okB (geN _ _)) ?_
  refine rE 9 ?_
  refine cCond rfl (fun _ => ?_) (fun h1 => by exact absurd (of_decide_eq_false h1) (by omega))
  refine cSeq <| cReg rfl <| oR 2 rfl <| rNeed (x := vS (s.take i)) rfl rfl (needSt (ext_to s i)) (⟨Int.le_refl _, Int.natCast_nonneg _, Int.ofNat_le.2 (by show i ≤ s.length; omega)⟩) <| oR 3 rfl <| rOk (x := vN 1) rfl rfl rfl ?_
  have b1 : i + 1 ≤ 900001 := Nat.add_le_add (by omega) (Nat.le_refl 1)
  refine rOk (x := vN (i + 1)) rfl rfl (okI (wrapI64 b1 rfl)) <| rNeed (x := vS (s.drop (i + 1))) rfl rfl (needSt (ext_from s (i + 1))) (⟨Int.natCast_nonneg _, Int.ofNat_le.2 (by show (i + 1) ≤ s.length; omega), Int.le_refl _⟩) <| oR 3 rfl <| rE 21 <| cRet ?_
  exact finTA rfl trivial rfl rfl
theorem dCutL (s : W) (c : UInt8) (hs : s.length ≤ 900000) : DCall C0 40 [vS s, .v (.string ⟨#[c]⟩)] (tupS (cutL c s)) := by
  by_cases h : Lib.indexByte s c = -1
  · rw [cut_none h]; exact dCut_0 s c hs h
  · have hge := Lib.indexByte_ge s c
    obtain ⟨i, hi⟩ : ∃ i : Nat, Lib.indexByte s c = i := ⟨(Lib.indexByte s c).toNat, by omega⟩
    obtain ⟨hl, e⟩ := cut_some hi
    rw [e]; exact dCut_1 s c hs i hl hi

theorem dCut (s : List UInt8) (c : UInt8) (hs : s.length ≤ 900000) : DCall C0 21 [vS s, .v (.string ⟨#[c]⟩)] (tupS (cutL c s)) := by
  refine DCall.intro c0Ok Tryd.func21 rfl rfl (by kernel_rfl) rfl <| cSeq <| cReg rfl <| oR 3 rfl <| rE 3 <| cSeq <| cReg rfl <| oR 2 rfl <| rCl rfl (.inl rfl) (dCutL s c hs) <| oR 6 rfl <| rE 12 <| cRet ?_
  exact finTA rfl trivial rfl rfl
theorem dSplit (s : List UInt8) (c : UInt8) (hs : s.length ≤ 900000) : DCall C0 22 [vS s, .v (.string ⟨#[c]⟩)] (.sl 1 ((pieceL c 0 (s.count c) s).map rowS) false) := by
  refine DCall.intro c0Ok Tryd.func22 rfl rfl (by kernel_rfl) rfl <| cSeq <| cReg rfl <| oR 1 rfl <| rE 1 <| cSeq <| cReg rfl <| oR 2 rfl <| rCl rfl (.inl rfl) (dGenSplit s c 0 (by decide) hs) <| oR 1 rfl <| rE 5 <| cRet ?_
  exact finTA rfl trivial rfl rfl
theorem dSplitAfter (s : List UInt8) (c : UInt8) (hs : s.length ≤ 900000) : DCall C0 16 [vS s, .v (.string ⟨#[c]⟩)] (.sl 1 ((pieceL c 1 (s.count c) s).map rowS) false) := by
  refine DCall.intro c0Ok Tryd.func16 rfl rfl (by kernel_rfl) rfl <| cSeq <| cReg rfl <| oR 1 rfl <| rE 1 <| cSeq <| cReg rfl <| oR 3 rfl <| rOk (x := vN 1) rfl rfl rfl <| rCl rfl (.inl rfl) (dGenSplit s c 1 (by decide) hs) <| oR 1 rfl <| rE 7 <| cRet ?_
  exact finTA rfl trivial rfl rfl
theorem libS : LibS := ⟨hexIx_holds, fun s hs => dCut s 10 hs, fun s hs => by rw [← piece_split 32 _ s rfl]; exact dSplit s 32 hs, dItoa⟩

end Go.Proofs.YtpefnjbmbfdmmaaDoor
