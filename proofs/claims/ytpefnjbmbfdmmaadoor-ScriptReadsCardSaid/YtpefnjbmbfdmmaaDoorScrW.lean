/- Package script: names, digits, numbers, words, bytes; which plans may be: walks on the second machine. -/
import Derived.Test.YtpefnjbmbfdmmaaDoorAbsT
import Derived.Test.YtpefnjbmbfdmmaaDoorRef25C
namespace Go.Proofs.YtpefnjbmbfdmmaaDoor
set_option maxRecDepth 100000
set_option maxHeartbeats 4000000
open Go.RowKit Go.Lib

theorem getD_take {w : W} {k : Nat} (h : k < w.length) : w.take (k + 1) = w.take k ++ [w.getD k 0] := by
  rw [List.take_add_one, List.getElem?_eq_getElem h, List.getD_eq_getElem?_getD, List.getElem?_eq_getElem h]; rfl

theorem dName_0  : DCall C0 23 [vI 0] (vS (nameL 0)) := by
  refine DCall.intro c0Ok Tryd.func23 rfl rfl (by kernel_rfl) rfl <| cSeq <| cReg rfl <| oR 1 rfl <| rE 1 <| cSeq <| cReg rfl <| rOk (x := .agg [.v (.string (⟨#[109, 111, 100, 101]⟩ : ByteArray)), .v (.string (⟨#[119, 105, 100, 116, 104]⟩ : ByteArray)), .v (.string (⟨#[114, 111, 98]⟩ : ByteArray)), .v (.string (⟨#[113, 117, 101, 117, 101]⟩ : ByteArray)), .v (.string (⟨#[115, 116, 111, 114, 101, 115]⟩ : ByteArray)), .v (.string (⟨#[115, 108, 111, 116, 115]⟩ : ByteArray)), .v (.string (⟨#[115, 101, 116, 115]⟩ : ByteArray)), .v (.string (⟨#[119, 97, 121, 115]⟩ : ByteArray)), .v (.string (⟨#[103, 117, 101, 115, 115]⟩ : ByteArray)), .v (.string (⟨#[108, 97, 116]⟩ : ByteArray)), .v (.string (⟨#[116, 97, 112, 101]⟩ : ByteArray)), .v (.string (⟨#[112, 114, 111, 103]⟩ : ByteArray)), .v (.string (⟨#[109, 101, 109]⟩ : ByteArray)), .v (.string (⟨#[99, 121, 99, 108, 101, 115]⟩ : ByteArray))]) rfl rfl rfl <| rAl 2 rfl rfl <| rSt rfl <| rE 4 <| cSeq <| cReg rfl <| oR 1 rfl <| rNeed (x := .ptr 2 0) rfl rfl rfl (⟨by decide, by decide⟩) <| oR 2 rfl ?_
  refine rE 8 <| cRet ?_
  exact finTA rfl trivial rfl rfl
theorem dName_1  : DCall C0 23 [vI 1] (vS (nameL 1)) := by
  refine DCall.intro c0Ok Tryd.func23 rfl rfl (by kernel_rfl) rfl <| cSeq <| cReg rfl <| oR 1 rfl <| rE 1 <| cSeq <| cReg rfl <| rOk (x := .agg [.v (.string (⟨#[109, 111, 100, 101]⟩ : ByteArray)), .v (.string (⟨#[119, 105, 100, 116, 104]⟩ : ByteArray)), .v (.string (⟨#[114, 111, 98]⟩ : ByteArray)), .v (.string (⟨#[113, 117, 101, 117, 101]⟩ : ByteArray)), .v (.string (⟨#[115, 116, 111, 114, 101, 115]⟩ : ByteArray)), .v (.string (⟨#[115, 108, 111, 116, 115]⟩ : ByteArray)), .v (.string (⟨#[115, 101, 116, 115]⟩ : ByteArray)), .v (.string (⟨#[119, 97, 121, 115]⟩ : ByteArray)), .v (.string (⟨#[103, 117, 101, 115, 115]⟩ : ByteArray)), .v (.string (⟨#[108, 97, 116]⟩ : ByteArray)), .v (.string (⟨#[116, 97, 112, 101]⟩ : ByteArray)), .v (.string (⟨#[112, 114, 111, 103]⟩ : ByteArray)), .v (.string (⟨#[109, 101, 109]⟩ : ByteArray)), .v (.string (⟨#[99, 121, 99, 108, 101, 115]⟩ : ByteArray))]) rfl rfl rfl <| rAl 2 rfl rfl <| rSt rfl <| rE 4 <| cSeq <| cReg rfl <| oR 1 rfl <| rNeed (x := .ptr 2 1) rfl rfl rfl (⟨by decide, by decide⟩) <| oR 2 rfl ?_
  refine rE 8 <| cRet ?_
  exact finTA rfl trivial rfl rfl
theorem dName_2  : DCall C0 23 [vI 2] (vS (nameL 2)) := by
  refine DCall.intro c0Ok Tryd.func23 rfl rfl (by kernel_rfl) rfl <| cSeq <| cReg rfl <| oR 1 rfl <| rE 1 <| cSeq <| cReg rfl <| rOk (x := .agg [.v (.string (⟨#[109, 111, 100, 101]⟩ : ByteArray)), .v (.string (⟨#[119, 105, 100, 116, 104]⟩ : ByteArray)), .v (.string (⟨#[114, 111, 98]⟩ : ByteArray)), .v (.string (⟨#[113, 117, 101, 117, 101]⟩ : ByteArray)), .v (.string (⟨#[115, 116, 111, 114, 101, 115]⟩ : ByteArray)), .v (.string (⟨#[115, 108, 111, 116, 115]⟩ : ByteArray)), .v (.string (⟨#[115, 101, 116, 115]⟩ : ByteArray)), .v (.string (⟨#[119, 97, 121, 115]⟩ : ByteArray)), .v (.string (⟨#[103, 117, 101, 115, 115]⟩ : ByteArray)), .v (.string (⟨#[108, 97, 116]⟩ : ByteArray)), .v (.string (⟨#[116, 97, 112, 101]⟩ : ByteArray)), .v (.string (⟨#[112, 114, 111, 103]⟩ : ByteArray)), .v (.string (⟨#[109, 101, 109]⟩ : ByteArray)), .v (.string (⟨#[99, 121, 99, 108, 101, 115]⟩ : ByteArray))]) rfl rfl rfl <| rAl 2 rfl rfl <| rSt rfl <| rE 4 <| cSeq <| cReg rfl <| oR 1 rfl <| rNeed (x := .ptr 2 2) rfl rfl rfl (⟨by decide, by decide⟩) <| oR 2 rfl ?_
  refine rE 8 <| cRet ?_
  exact finTA rfl trivial rfl rfl
theorem dName_3  : DCall C0 23 [vI 3] (vS (nameL 3)) := by
  refine DCall.intro c0Ok Tryd.func23 rfl rfl (by kernel_rfl) rfl <| cSeq <| cReg rfl <| oR 1 rfl <| rE 1 <| cSeq <| cReg rfl <| rOk (x := .agg [.v (.string (⟨#[109, 111, 100, 101]⟩ : ByteArray)), .v (.string (⟨#[119, 105, 100, 116, 104]⟩ : ByteArray)), .v (.string (⟨#[114, 111, 98]⟩ : ByteArray)), .v (.string (⟨#[113, 117, 101, 117, 101]⟩ : ByteArray)), .v (.string (⟨#[115, 116, 111, 114, 101, 115]⟩ : ByteArray)), .v (.string (⟨#[115, 108, 111, 116, 115]⟩ : ByteArray)), .v (.string (⟨#[115, 101, 116, 115]⟩ : ByteArray)), .v (.string (⟨#[119, 97, 121, 115]⟩ : ByteArray)), .v (.string (⟨#[103, 117, 101, 115, 115]⟩ : ByteArray)), .v (.string (⟨#[108, 97, 116]⟩ : ByteArray)), .v (.string (⟨#[116, 97, 112, 101]⟩ : ByteArray)), .v (.string (⟨#[112, 114, 111, 103]⟩ : ByteArray)), .v (.string (⟨#[109, 101, 109]⟩ : ByteArray)), .v (.string (⟨#[99, 121, 99, 108, 101, 115]⟩ : ByteArray))]) rfl rfl rfl <| rAl 2 rfl rfl <| rSt rfl <| rE 4 <| cSeq <| cReg rfl <| oR 1 rfl <| rNeed (x := .ptr 2 3) rfl rfl rfl (⟨by decide, by decide⟩) <| oR 2 rfl ?_
  refine rE 8 <| cRet ?_
  exact finTA rfl trivial rfl rfl
theorem dName_4  : DCall C0 23 [vI 4] (vS (nameL 4)) := by
  refine DCall.intro c0Ok Tryd.func23 rfl rfl (by kernel_rfl) rfl <| cSeq <| cReg rfl <| oR 1 rfl <| rE 1 <| cSeq <| cReg rfl <| rOk (x := .agg [.v (.string (⟨#[109, 111, 100, 101]⟩ : ByteArray)), .v (.string (⟨#[119, 105, 100, 116, 104]⟩ : ByteArray)), .v (.string (⟨#[114, 111, 98]⟩ : ByteArray)), .v (.string (⟨#[113, 117, 101, 117, 101]⟩ : ByteArray)), .v (.string (⟨#[115, 116, 111, 114, 101, 115]⟩ : ByteArray)), .v (.string (⟨#[115, 108, 111, 116, 115]⟩ : ByteArray)), .v (.string (⟨#[115, 101, 116, 115]⟩ : ByteArray)), .v (.string (⟨#[119, 97, 121, 115]⟩ : ByteArray)), .v (.string (⟨#[103, 117, 101, 115, 115]⟩ : ByteArray)), .v (.string (⟨#[108, 97, 116]⟩ : ByteArray)), .v (.string (⟨#[116, 97, 112, 101]⟩ : ByteArray)), .v (.string (⟨#[112, 114, 111, 103]⟩ : ByteArray)), .v (.string (⟨#[109, 101, 109]⟩ : ByteArray)), .v (.string (⟨#[99, 121, 99, 108, 101, 115]⟩ : ByteArray))]) rfl rfl rfl <| rAl 2 rfl rfl <| rSt rfl <| rE 4 <| cSeq <| cReg rfl <| oR 1 rfl <| rNeed (x := .ptr 2 4) rfl rfl rfl (⟨by decide, by decide⟩) <| oR 2 rfl ?_
  refine rE 8 <| cRet ?_
  exact finTA rfl trivial rfl rfl
theorem dName_5  : DCall C0 23 [vI 5] (vS (nameL 5)) := by
  refine DCall.intro c0Ok Tryd.func23 rfl rfl (by kernel_rfl) rfl <| cSeq <| cReg rfl <| oR 1 rfl <| rE 1 <| cSeq <| cReg rfl <| rOk (x := .agg [.v (.string (⟨#[109, 111, 100, 101]⟩ : ByteArray)), .v (.string (⟨#[119, 105, 100, 116, 104]⟩ : ByteArray)), .v (.string (⟨#[114, 111, 98]⟩ : ByteArray)), .v (.string (⟨#[113, 117, 101, 117, 101]⟩ : ByteArray)), .v (.string (⟨#[115, 116, 111, 114, 101, 115]⟩ : ByteArray)), .v (.string (⟨#[115, 108, 111, 116, 115]⟩ : ByteArray)), .v (.string (⟨#[115, 101, 116, 115]⟩ : ByteArray)), .v (.string (⟨#[119, 97, 121, 115]⟩ : ByteArray)), .v (.string (⟨#[103, 117, 101, 115, 115]⟩ : ByteArray)), .v (.string (⟨#[108, 97, 116]⟩ : ByteArray)), .v (.string (⟨#[116, 97, 112, 101]⟩ : ByteArray)), .v (.string (⟨#[112, 114, 111, 103]⟩ : ByteArray)), .v (.string (⟨#[109, 101, 109]⟩ : ByteArray)), .v (.string (⟨#[99, 121, 99, 108, 101, 115]⟩ : ByteArray))]) rfl rfl rfl <| rAl 2 rfl rfl <| rSt rfl <| rE 4 <| cSeq <| cReg rfl <| oR 1 rfl <| rNeed (x := .ptr 2 5) rfl rfl rfl (⟨by decide, by decide⟩) <| oR 2 rfl ?_
  refine rE 8 <| cRet ?_
  exact finTA rfl trivial rfl rfl
theorem dName_6  : DCall C0 23 [vI 6] (vS (nameL 6)) := by
  refine DCall.intro c0Ok Tryd.func23 rfl rfl (by kernel_rfl) rfl <| cSeq <| cReg rfl <| oR 1 rfl <| rE 1 <| cSeq <| cReg rfl <| rOk (x := .agg [.v (.string (⟨#[109, 111, 100, 101]⟩ : ByteArray)), .v (.string (⟨#[119, 105, 100, 116, 104]⟩ : ByteArray)), .v (.string (⟨#[114, 111, 98]⟩ : ByteArray)), .v (.string (⟨#[113, 117, 101, 117, 101]⟩ : ByteArray)), .v (.string (⟨#[115, 116, 111, 114, 101, 115]⟩ : ByteArray)), .v (.string (⟨#[115, 108, 111, 116, 115]⟩ : ByteArray)), .v (.string (⟨#[115, 101, 116, 115]⟩ : ByteArray)), .v (.string (⟨#[119, 97, 121, 115]⟩ : ByteArray)), .v (.string (⟨#[103, 117, 101, 115, 115]⟩ : ByteArray)), .v (.string (⟨#[108, 97, 116]⟩ : ByteArray)), .v (.string (⟨#[116, 97, 112, 101]⟩ : ByteArray)), .v (.string (⟨#[112, 114, 111, 103]⟩ : ByteArray)), .v (.string (⟨#[109, 101, 109]⟩ : ByteArray)), .v (.string (⟨#[99, 121, 99, 108, 101, 115]⟩ : ByteArray))]) rfl rfl rfl <| rAl 2 rfl rfl <| rSt rfl <| rE 4 <| cSeq <| cReg rfl <| oR 1 rfl <| rNeed (x := .ptr 2 6) rfl rfl rfl (⟨by decide, by decide⟩) <| oR 2 rfl ?_
  refine rE 8 <| cRet ?_
  exact finTA rfl trivial rfl rfl
theorem dName_7  : DCall C0 23 [vI 7] (vS (nameL 7)) := by
  refine DCall.intro c0Ok Tryd.func23 rfl rfl (by kernel_rfl) rfl <| cSeq <| cReg rfl <| oR 1 rfl <| rE 1 <| cSeq <| cReg rfl <| rOk (x := .agg [.v (.string (⟨#[109, 111, 100, 101]⟩ : ByteArray)), .v (.string (⟨#[119, 105, 100, 116, 104]⟩ : ByteArray)), .v (.string (⟨#[114, 111, 98]⟩ : ByteArray)), .v (.string (⟨#[113, 117, 101, 117, 101]⟩ : ByteArray)), .v (.string (⟨#[115, 116, 111, 114, 101, 115]⟩ : ByteArray)), .v (.string (⟨#[115, 108, 111, 116, 115]⟩ : ByteArray)), .v (.string (⟨#[115, 101, 116, 115]⟩ : ByteArray)), .v (.string (⟨#[119, 97, 121, 115]⟩ : ByteArray)), .v (.string (⟨#[103, 117, 101, 115, 115]⟩ : ByteArray)), .v (.string (⟨#[108, 97, 116]⟩ : ByteArray)), .v (.string (⟨#[116, 97, 112, 101]⟩ : ByteArray)), .v (.string (⟨#[112, 114, 111, 103]⟩ : ByteArray)), .v (.string (⟨#[109, 101, 109]⟩ : ByteArray)), .v (.string (⟨#[99, 121, 99, 108, 101, 115]⟩ : ByteArray))]) rfl rfl rfl <| rAl 2 rfl rfl <| rSt rfl <| rE 4 <| cSeq <| cReg rfl <| oR 1 rfl <| rNeed (x := .ptr 2 7) rfl rfl rfl (⟨by decide, by decide⟩) <| oR 2 rfl ?_
  refine rE 8 <| cRet ?_
  exact finTA rfl trivial rfl rfl
theorem dName_8  : DCall C0 23 [vI 8] (vS (nameL 8)) := by
  refine DCall.intro c0Ok Tryd.func23 rfl rfl (by kernel_rfl) rfl <| cSeq <| cReg rfl <| oR 1 rfl <| rE 1 <| cSeq <| cReg rfl <| rOk (x := .agg [.v (.string (⟨#[109, 111, 100, 101]⟩ : ByteArray)), .v (.string (⟨#[119, 105, 100, 116, 104]⟩ : ByteArray)), .v (.string (⟨#[114, 111, 98]⟩ : ByteArray)), .v (.string (⟨#[113, 117, 101, 117, 101]⟩ : ByteArray)), .v (.string (⟨#[115, 116, 111, 114, 101, 115]⟩ : ByteArray)), .v (.string (⟨#[115, 108, 111, 116, 115]⟩ : ByteArray)), .v (.string (⟨#[115, 101, 116, 115]⟩ : ByteArray)), .v (.string (⟨#[119, 97, 121, 115]⟩ : ByteArray)), .v (.string (⟨#[103, 117, 101, 115, 115]⟩ : ByteArray)), .v (.string (⟨#[108, 97, 116]⟩ : ByteArray)), .v (.string (⟨#[116, 97, 112, 101]⟩ : ByteArray)), .v (.string (⟨#[112, 114, 111, 103]⟩ : ByteArray)), .v (.string (⟨#[109, 101, 109]⟩ : ByteArray)), .v (.string (⟨#[99, 121, 99, 108, 101, 115]⟩ : ByteArray))]) rfl rfl rfl <| rAl 2 rfl rfl <| rSt rfl <| rE 4 <| cSeq <| cReg rfl <| oR 1 rfl <| rNeed (x := .ptr 2 8) rfl rfl rfl (⟨by decide, by decide⟩) <| oR 2 rfl ?_
  refine rE 8 <| cRet ?_
  exact finTA rfl trivial rfl rfl
theorem dName_9  : DCall C0 23 [vI 9] (vS (nameL 9)) := by
  refine DCall.intro c0Ok Tryd.func23 rfl rfl (by kernel_rfl) rfl <| cSeq <| cReg rfl <| oR 1 rfl <| rE 1 <| cSeq <| cReg rfl <| rOk (x := .agg [.v (.string (⟨#[109, 111, 100, 101]⟩ : ByteArray)), .v (.string (⟨#[119, 105, 100, 116, 104]⟩ : ByteArray)), .v (.string (⟨#[114, 111, 98]⟩ : ByteArray)), .v (.string (⟨#[113, 117, 101, 117, 101]⟩ : ByteArray)), .v (.string (⟨#[115, 116, 111, 114, 101, 115]⟩ : ByteArray)), .v (.string (⟨#[115, 108, 111, 116, 115]⟩ : ByteArray)), .v (.string (⟨#[115, 101, 116, 115]⟩ : ByteArray)), .v (.string (⟨#[119, 97, 121, 115]⟩ : ByteArray)), .v (.string (⟨#[103, 117, 101, 115, 115]⟩ : ByteArray)), .v (.string (⟨#[108, 97, 116]⟩ : ByteArray)), .v (.string (⟨#[116, 97, 112, 101]⟩ : ByteArray)), .v (.string (⟨#[112, 114, 111, 103]⟩ : ByteArray)), .v (.string (⟨#[109, 101, 109]⟩ : ByteArray)), .v (.string (⟨#[99, 121, 99, 108, 101, 115]⟩ : ByteArray))]) rfl rfl rfl <| rAl 2 rfl rfl <| rSt rfl <| rE 4 <| cSeq <| cReg rfl <| oR 1 rfl <| rNeed (x := .ptr 2 9) rfl rfl rfl (⟨by decide, by decide⟩) <| oR 2 rfl ?_
  refine rE 8 <| cRet ?_
  exact finTA rfl trivial rfl rfl
theorem dName_10  : DCall C0 23 [vI 10] (vS (nameL 10)) := by
  refine DCall.intro c0Ok Tryd.func23 rfl rfl (by kernel_rfl) rfl <| cSeq <| cReg rfl <| oR 1 rfl <| rE 1 <| cSeq <| cReg rfl <| rOk (x := .agg [.v (.string (⟨#[109, 111, 100, 101]⟩ : ByteArray)), .v (.string (⟨#[119, 105, 100, 116, 104]⟩ : ByteArray)), .v (.string (⟨#[114, 111, 98]⟩ : ByteArray)), .v (.string (⟨#[113, 117, 101, 117, 101]⟩ : ByteArray)), .v (.string (⟨#[115, 116, 111, 114, 101, 115]⟩ : ByteArray)), .v (.string (⟨#[115, 108, 111, 116, 115]⟩ : ByteArray)), .v (.string (⟨#[115, 101, 116, 115]⟩ : ByteArray)), .v (.string (⟨#[119, 97, 121, 115]⟩ : ByteArray)), .v (.string (⟨#[103, 117, 101, 115, 115]⟩ : ByteArray)), .v (.string (⟨#[108, 97, 116]⟩ : ByteArray)), .v (.string (⟨#[116, 97, 112, 101]⟩ : ByteArray)), .v (.string (⟨#[112, 114, 111, 103]⟩ : ByteArray)), .v (.string (⟨#[109, 101, 109]⟩ : ByteArray)), .v (.string (⟨#[99, 121, 99, 108, 101, 115]⟩ : ByteArray))]) rfl rfl rfl <| rAl 2 rfl rfl <| rSt rfl <| rE 4 <| cSeq <| cReg rfl <| oR 1 rfl <| rNeed (x := .ptr 2 10) rfl rfl rfl (⟨by decide, by decide⟩) <| oR 2 rfl ?_
  refine rE 8 <| cRet ?_
  exact finTA rfl trivial rfl rfl
theorem dName_11  : DCall C0 23 [vI 11] (vS (nameL 11)) := by
  refine DCall.intro c0Ok Tryd.func23 rfl rfl (by kernel_rfl) rfl <| cSeq <| cReg rfl <| oR 1 rfl <| rE 1 <| cSeq <| cReg rfl <| rOk (x := .agg [.v (.string (⟨#[109, 111, 100, 101]⟩ : ByteArray)), .v (.string (⟨#[119, 105, 100, 116, 104]⟩ : ByteArray)), .v (.string (⟨#[114, 111, 98]⟩ : ByteArray)), .v (.string (⟨#[113, 117, 101, 117, 101]⟩ : ByteArray)), .v (.string (⟨#[115, 116, 111, 114, 101, 115]⟩ : ByteArray)), .v (.string (⟨#[115, 108, 111, 116, 115]⟩ : ByteArray)), .v (.string (⟨#[115, 101, 116, 115]⟩ : ByteArray)), .v (.string (⟨#[119, 97, 121, 115]⟩ : ByteArray)), .v (.string (⟨#[103, 117, 101, 115, 115]⟩ : ByteArray)), .v (.string (⟨#[108, 97, 116]⟩ : ByteArray)), .v (.string (⟨#[116, 97, 112, 101]⟩ : ByteArray)), .v (.string (⟨#[112, 114, 111, 103]⟩ : ByteArray)), .v (.string (⟨#[109, 101, 109]⟩ : ByteArray)), .v (.string (⟨#[99, 121, 99, 108, 101, 115]⟩ : ByteArray))]) rfl rfl rfl <| rAl 2 rfl rfl <| rSt rfl <| rE 4 <| cSeq <| cReg rfl <| oR 1 rfl <| rNeed (x := .ptr 2 11) rfl rfl rfl (⟨by decide, by decide⟩) <| oR 2 rfl ?_
  refine rE 8 <| cRet ?_
  exact finTA rfl trivial rfl rfl
theorem dName_12  : DCall C0 23 [vI 12] (vS (nameL 12)) := by
  refine DCall.intro c0Ok Tryd.func23 rfl rfl (by kernel_rfl) rfl <| cSeq <| cReg rfl <| oR 1 rfl <| rE 1 <| cSeq <| cReg rfl <| rOk (x := .agg [.v (.string (⟨#[109, 111, 100, 101]⟩ : ByteArray)), .v (.string (⟨#[119, 105, 100, 116, 104]⟩ : ByteArray)), .v (.string (⟨#[114, 111, 98]⟩ : ByteArray)), .v (.string (⟨#[113, 117, 101, 117, 101]⟩ : ByteArray)), .v (.string (⟨#[115, 116, 111, 114, 101, 115]⟩ : ByteArray)), .v (.string (⟨#[115, 108, 111, 116, 115]⟩ : ByteArray)), .v (.string (⟨#[115, 101, 116, 115]⟩ : ByteArray)), .v (.string (⟨#[119, 97, 121, 115]⟩ : ByteArray)), .v (.string (⟨#[103, 117, 101, 115, 115]⟩ : ByteArray)), .v (.string (⟨#[108, 97, 116]⟩ : ByteArray)), .v (.string (⟨#[116, 97, 112, 101]⟩ : ByteArray)), .v (.string (⟨#[112, 114, 111, 103]⟩ : ByteArray)), .v (.string (⟨#[109, 101, 109]⟩ : ByteArray)), .v (.string (⟨#[99, 121, 99, 108, 101, 115]⟩ : ByteArray))]) rfl rfl rfl <| rAl 2 rfl rfl <| rSt rfl <| rE 4 <| cSeq <| cReg rfl <| oR 1 rfl <| rNeed (x := .ptr 2 12) rfl rfl rfl (⟨by decide, by decide⟩) <| oR 2 rfl ?_
  refine rE 8 <| cRet ?_
  exact finTA rfl trivial rfl rfl
theorem dName_13  : DCall C0 23 [vI 13] (vS (nameL 13)) := by
  refine DCall.intro c0Ok Tryd.func23 rfl rfl (by kernel_rfl) rfl <| cSeq <| cReg rfl <| oR 1 rfl <| rE 1 <| cSeq <| cReg rfl <| rOk (x := .agg [.v (.string (⟨#[109, 111, 100, 101]⟩ : ByteArray)), .v (.string (⟨#[119, 105, 100, 116, 104]⟩ : ByteArray)), .v (.string (⟨#[114, 111, 98]⟩ : ByteArray)), .v (.string (⟨#[113, 117, 101, 117, 101]⟩ : ByteArray)), .v (.string (⟨#[115, 116, 111, 114, 101, 115]⟩ : ByteArray)), .v (.string (⟨#[115, 108, 111, 116, 115]⟩ : ByteArray)), .v (.string (⟨#[115, 101, 116, 115]⟩ : ByteArray)), .v (.string (⟨#[119, 97, 121, 115]⟩ : ByteArray)), .v (.string (⟨#[103, 117, 101, 115, 115]⟩ : ByteArray)), .v (.string (⟨#[108, 97, 116]⟩ : ByteArray)), .v (.string (⟨#[116, 97, 112, 101]⟩ : ByteArray)), .v (.string (⟨#[112, 114, 111, 103]⟩ : ByteArray)), .v (.string (⟨#[109, 101, 109]⟩ : ByteArray)), .v (.string (⟨#[99, 121, 99, 108, 101, 115]⟩ : ByteArray))]) rfl rfl rfl <| rAl 2 rfl rfl <| rSt rfl <| rE 4 <| cSeq <| cReg rfl <| oR 1 rfl <| rNeed (x := .ptr 2 13) rfl rfl rfl (⟨by decide, by decide⟩) <| oR 2 rfl ?_
  refine rE 8 <| cRet ?_
  exact finTA rfl trivial rfl rfl
theorem dName (k : Nat) (hk : k < 14) : DCall C0 23 [vN k] (vS (nameL k)) := by
  rcases k with _ | _ | _ | _ | _ | _ | _ | _ | _ | _ | _ | _ | _ | _ | k
  · exact dName_0
  · exact dName_1
  · exact dName_2
  · exact dName_3
  · exact dName_4
  · exact dName_5
  · exact dName_6
  · exact dName_7
  · exact dName_8
  · exact dName_9
  · exact dName_10
  · exact dName_11
  · exact dName_12
  · exact dName_13
  exact absurd hk (by omega)
theorem dMode_0  : DCall C0 46 [vI 0] (vS (modeW 0)) := by
  refine DCall.intro c0Ok Tryd.func46 rfl rfl (by kernel_rfl) rfl <| cSeq <| cReg rfl <| oR 1 rfl <| rE 1 <| cSeq <| cReg rfl <| rOk (x := .agg [.v (.string (⟨#[111, 102, 102]⟩ : ByteArray)), .v (.string (⟨#[116, 97, 105, 110, 116]⟩ : ByteArray)), .v (.string (⟨#[115, 116, 114, 105, 99, 116]⟩ : ByteArray))]) rfl rfl rfl <| rAl 2 rfl rfl <| rSt rfl <| rE 4 <| cSeq <| cReg rfl <| oR 1 rfl <| rNeed (x := .ptr 2 0) rfl rfl rfl (⟨by decide, by decide⟩) <| oR 2 rfl ?_
  refine rE 8 <| cRet ?_
  exact finTA rfl trivial rfl rfl
theorem dMode_1  : DCall C0 46 [vI 1] (vS (modeW 1)) := by
  refine DCall.intro c0Ok Tryd.func46 rfl rfl (by kernel_rfl) rfl <| cSeq <| cReg rfl <| oR 1 rfl <| rE 1 <| cSeq <| cReg rfl <| rOk (x := .agg [.v (.string (⟨#[111, 102, 102]⟩ : ByteArray)), .v (.string (⟨#[116, 97, 105, 110, 116]⟩ : ByteArray)), .v (.string (⟨#[115, 116, 114, 105, 99, 116]⟩ : ByteArray))]) rfl rfl rfl <| rAl 2 rfl rfl <| rSt rfl <| rE 4 <| cSeq <| cReg rfl <| oR 1 rfl <| rNeed (x := .ptr 2 1) rfl rfl rfl (⟨by decide, by decide⟩) <| oR 2 rfl ?_
  refine rE 8 <| cRet ?_
  exact finTA rfl trivial rfl rfl
theorem dMode_2  : DCall C0 46 [vI 2] (vS (modeW 2)) := by
  refine DCall.intro c0Ok Tryd.func46 rfl rfl (by kernel_rfl) rfl <| cSeq <| cReg rfl <| oR 1 rfl <| rE 1 <| cSeq <| cReg rfl <| rOk (x := .agg [.v (.string (⟨#[111, 102, 102]⟩ : ByteArray)), .v (.string (⟨#[116, 97, 105, 110, 116]⟩ : ByteArray)), .v (.string (⟨#[115, 116, 114, 105, 99, 116]⟩ : ByteArray))]) rfl rfl rfl <| rAl 2 rfl rfl <| rSt rfl <| rE 4 <| cSeq <| cReg rfl <| oR 1 rfl <| rNeed (x := .ptr 2 2) rfl rfl rfl (⟨by decide, by decide⟩) <| oR 2 rfl ?_
  refine rE 8 <| cRet ?_
  exact finTA rfl trivial rfl rfl
theorem dMode (a : Int) (h : 0 ≤ a ∧ a ≤ 2) : DCall C0 46 [vI a] (vS (modeW a)) := by
  have : a = 0 ∨ a = 1 ∨ a = 2 := by omega
  rcases this with rfl | rfl | rfl
  · exact dMode_0
  · exact dMode_1
  · exact dMode_2
/-- Digits laid from behind. -/
def digB_ (m w k : Nat) : List UInt8 := List.replicate (m - k) 0 ++ digH w k
theorem digH_cons : ∀ (k w : Nat), digH w (k + 1) = hexD ((w / 2 ^ (4 * k)) % 16) :: digH w k
  | 0, w => by show [] ++ [hexD (w % 16)] = [hexD (w / 1 % 16)]; rw [Nat.div_one]; rfl
  | k + 1, w => by
    show digH (w / 16) (k + 1) ++ [hexD (w % 16)] = _
    rw [digH_cons k (w / 16)]
    show hexD _ :: (digH (w / 16) k ++ [hexD (w % 16)]) = hexD _ :: (digH (w / 16) k ++ [hexD (w % 16)])
    rw [show 4 * (k + 1) = 4 + 4 * k by omega, Nat.pow_add, ← Nat.div_div_eq_div_mul]
theorem digB_len {m w k : Nat} (h : k ≤ m) : (digB_ m w k).length = m := by unfold digB_; rw [List.length_append, List.length_replicate, digH_len]; omega
theorem digB_next {m w k : Nat} (h : k < m) : (digB_ m w k).set (m - 1 - k) (hexD ((w / 2 ^ (4 * k)) % 16)) = digB_ m w (k + 1) := by
  unfold digB_
  rw [digH_cons, show m - k = (m - 1 - k) + 1 by omega, List.replicate_succ', show m - (k + 1) = m - 1 - k by omega, List.append_assoc, List.set_append_right _ _ (by rw [List.length_replicate]; omega), List.length_replicate, Nat.sub_self]; rfl
theorem digB_end (m w : Nat) : digB_ m w m = digH w m := by unfold digB_; rw [Nat.sub_self]; rfl
theorem and15 (x : Nat) : x &&& 15 = x % 16 := Nat.and_two_pow_sub_one_eq_mod x 4

theorem dDig8 (w : Nat) (hw : w ≤ 4294967295) : DCall C0 58 [vU w, vI 8] (vS (digH w 8)) := by
  refine DCall.intro c0Ok Tryd.func58 rfl rfl (by kernel_rfl) rfl <| cSeq <| cReg rfl <| oR 1 rfl <| rE 1 <| cSeq <| cReg rfl <| oR 1 rfl <| rFx (x := .osl 2 0 8 false) (h' := upd _ 2 (some (.arr ((List.replicate 8 0).map row8) 1))) rfl rfl (mk_eq (List.map_replicate (f := row8) (a := 0)).symm) (⟨by decide, by decide, by show ((8 : Nat) : Int) ≤ 1000000; omega⟩) <| oR 1 rfl <| rE 4 <| cSeq <| cSeq <| cReg rfl <| oR 1 rfl <| rOk (x := vN 8) rfl rfl rfl ?_
  refine oR 1 rfl <| rE 7 <| cBlock <| cLoop (κ := Nat) (fun k => ⟨slotsF [(0, vU w), (1, vN 8), (4, .v (.string (⟨#[]⟩ : ByteArray))), (5, .osl 2 0 8 false), (10, vN 8), (11, vN k)], heapF [(2, .arr ((digB_ 8 w k).map row8) 1)], 7⟩) (fun k => k ≤ 8) (fun k => 8 - k) 0 (fun s => s) (Weak.of_lists (fun s => s) wT ⟨⟨rfl, (congrArg (fun z : List UInt8 => some (Blk.arr (z.map row8) 1)) (show List.replicate 8 0 = digB_ 8 w 0 from (List.append_nil _).symm)), rfl⟩, trivial⟩ rfl) (Nat.zero_le _) ?_
  intro k hk
  have hkn : k ≤ 8 := hk
  have hkB : k ≤ 8 := by omega
  have hKl : (digB_ 8 w k).length = 8 := digB_len (by omega)
  refine cSeq <| cReg rfl <| rOk (x := vB (decide (k < 8))) rfl rfl (okB (ltN _ _)) <| rE 8 <| cSeq ?_
  refine cCond rfl (fun h1 => ?_) (fun h1 => ?_)
  · have h1p := of_decide_eq_true h1
    refine cSkip <| cSeq <| cBlock <| cSeq <| cReg rfl <| oR 2 rfl <| rE 10 <| cReg rfl <| oR 2 rfl <| rOk (x := vN 7) rfl rfl rfl <| oR 1 rfl <| rOk (x := vN (7 - k)) rfl rfl (okI (subN64 (a := 7) (b := k) (by omega) (Nat.le_refl 7) rfl)) <| oR 2 rfl ?_
    have b1 : 4 * k ≤ 32 := Nat.mul_le_mul (Nat.le_refl 4) hkB
    refine rOk (x := vN (4 * k)) rfl rfl (okI (wrapI64 b1 rfl)) ?_
    have b2 : w / 2 ^ (4 * k) ≤ 4294967295 := Nat.le_trans (Nat.div_le_self _ _) hw
    refine rNeed (x := vU (w / 2 ^ (4 * k))) rfl rfl (needI (shrI32 (4 * k) hw rfl)) (Int.natCast_nonneg _) ?_
    have b3 : (w / 2 ^ (4 * k)) % 16 ≤ 15 := by omega
    refine rOk (x := vU ((w / 2 ^ (4 * k)) % 16)) rfl rfl (okI (by rw [← and15]; exact andI32 b2 (Nat.le_refl 15) rfl rfl)) <| rNeed (x := .v (.int .u8 (((hexD (((w / 2 ^ (4 * k)) % 16))).toNat : Nat) : Int))) rfl rfl (needI (hx_at (by omega))) (⟨Int.natCast_nonneg _, Int.ofNat_lt.2 (by show (((w / 2 ^ (4 * k)) % 16)) < 16; omega)⟩) <| rNeed (x := .ptr2 2 (0 + (7 - k)) 0) rfl rfl rfl ixT ?_
    obtain ⟨x1, hx1⟩ : ∃ y_, (digB_ 8 w k)[(7 - k)]? = some y_ := ⟨_, List.getElem?_eq_getElem omT⟩
    have hx2 : ((digB_ 8 w k).set (7 - k) (hexD (((w / 2 ^ (4 * k)) % 16))))[(7 - k)]? = some (hexD (((w / 2 ^ (4 * k)) % 16))) := List.getElem?_set_self omT
    refine rIdxFx (row8 x1) (h' := upd _ 2 (some (.arr (((digB_ 8 w k).set (7 - k) (hexD (((w / 2 ^ (4 * k)) % 16)))).map row8) 1))) rfl rfl rfl (⟨Int.natCast_nonneg _, getZ (getM hx1)⟩) (set_eqZ (f := row8) (l := digB_ 8 w k) (k := (7 - k)) (x := (hexD (((w / 2 ^ (4 * k)) % 16))))) <| rE 23 <| cReg rfl ?_
    have b4 : k + 1 ≤ 9 := Nat.add_le_add hkB (Nat.le_refl 1)
    refine rOk (x := vN (k + 1)) rfl rfl (okI (wrapI64 b4 rfl)) <| oR 1 rfl <| rE 25 ?_
    refine ⟨k + 1, fun s => s, Weak.of_lists (fun s => s) wT ⟨⟨rfl, (congrArg (fun z : List UInt8 => some (Blk.arr (z.map row8) 1)) (digB_next (by omega))), rfl⟩, trivial⟩ rfl, by omega, by show 8 - (k + 1) < 8 - k; omega⟩
  · have h1p := of_decide_eq_false h1
    refine cExit <| cSeq <| cReg rfl <| oR 1 rfl <| rStr (digB_ 8 w k) (d := 28) rfl rfl rfl ((by show 0 + 8 ≤ ((digB_ 8 w k).map row8).length; rw [List.length_map, hKl]; omega)) (rows8 hKl) <| oR 1 rfl <| rE 11 <| cRet ?_
    have hk8 : k = 8 := by have := of_decide_eq_false h1; omega
    subst hk8
    exact finTA rfl trivial rfl (congrArg vS (digB_end 8 w))
theorem dDig2 (w : Nat) (hw : w ≤ 4294967295) : DCall C0 58 [vU w, vI 2] (vS (digH w 2)) := by
  refine DCall.intro c0Ok Tryd.func58 rfl rfl (by kernel_rfl) rfl <| cSeq <| cReg rfl <| oR 1 rfl <| rE 1 <| cSeq <| cReg rfl <| oR 1 rfl <| rFx (x := .osl 2 0 2 false) (h' := upd _ 2 (some (.arr ((List.replicate 2 0).map row8) 1))) rfl rfl (mk_eq (List.map_replicate (f := row8) (a := 0)).symm) (⟨by decide, by decide, by show ((2 : Nat) : Int) ≤ 1000000; omega⟩) <| oR 1 rfl <| rE 4 <| cSeq <| cSeq <| cReg rfl <| oR 1 rfl <| rOk (x := vN 2) rfl rfl rfl ?_
  refine oR 1 rfl <| rE 7 <| cBlock <| cLoop (κ := Nat) (fun k => ⟨slotsF [(0, vU w), (1, vN 2), (4, .v (.string (⟨#[]⟩ : ByteArray))), (5, .osl 2 0 2 false), (10, vN 2), (11, vN k)], heapF [(2, .arr ((digB_ 2 w k).map row8) 1)], 7⟩) (fun k => k ≤ 2) (fun k => 2 - k) 0 (fun s => s) (Weak.of_lists (fun s => s) wT ⟨⟨rfl, (congrArg (fun z : List UInt8 => some (Blk.arr (z.map row8) 1)) (show List.replicate 2 0 = digB_ 2 w 0 from (List.append_nil _).symm)), rfl⟩, trivial⟩ rfl) (Nat.zero_le _) ?_
  intro k hk
  have hkn : k ≤ 2 := hk
  have hkB : k ≤ 2 := by omega
  have hKl : (digB_ 2 w k).length = 2 := digB_len (by omega)
  refine cSeq <| cReg rfl <| rOk (x := vB (decide (k < 2))) rfl rfl (okB (ltN _ _)) <| rE 8 <| cSeq ?_
  refine cCond rfl (fun h1 => ?_) (fun h1 => ?_)
  · have h1p := of_decide_eq_true h1
    refine cSkip <| cSeq <| cBlock <| cSeq <| cReg rfl <| oR 2 rfl <| rE 10 <| cReg rfl <| oR 2 rfl <| rOk (x := vN 1) rfl rfl rfl <| oR 1 rfl <| rOk (x := vN (1 - k)) rfl rfl (okI (subN64 (a := 1) (b := k) (by omega) (Nat.le_refl 1) rfl)) <| oR 2 rfl ?_
    have b1 : 4 * k ≤ 8 := Nat.mul_le_mul (Nat.le_refl 4) hkB
    refine rOk (x := vN (4 * k)) rfl rfl (okI (wrapI64 b1 rfl)) ?_
    have b2 : w / 2 ^ (4 * k) ≤ 4294967295 := Nat.le_trans (Nat.div_le_self _ _) hw
    refine rNeed (x := vU (w / 2 ^ (4 * k))) rfl rfl (needI (shrI32 (4 * k) hw rfl)) (Int.natCast_nonneg _) ?_
    have b3 : (w / 2 ^ (4 * k)) % 16 ≤ 15 := by omega
    refine rOk (x := vU ((w / 2 ^ (4 * k)) % 16)) rfl rfl (okI (by rw [← and15]; exact andI32 b2 (Nat.le_refl 15) rfl rfl)) <| rNeed (x := .v (.int .u8 (((hexD (((w / 2 ^ (4 * k)) % 16))).toNat : Nat) : Int))) rfl rfl (needI (hx_at (by omega))) (⟨Int.natCast_nonneg _, Int.ofNat_lt.2 (by show (((w / 2 ^ (4 * k)) % 16)) < 16; omega)⟩) <| rNeed (x := .ptr2 2 (0 + (1 - k)) 0) rfl rfl rfl ixT ?_
    obtain ⟨x1, hx1⟩ : ∃ y_, (digB_ 2 w k)[(1 - k)]? = some y_ := ⟨_, List.getElem?_eq_getElem omT⟩
    have hx2 : ((digB_ 2 w k).set (1 - k) (hexD (((w / 2 ^ (4 * k)) % 16))))[(1 - k)]? = some (hexD (((w / 2 ^ (4 * k)) % 16))) := List.getElem?_set_self omT
    refine rIdxFx (row8 x1) (h' := upd _ 2 (some (.arr (((digB_ 2 w k).set (1 - k) (hexD (((w / 2 ^ (4 * k)) % 16)))).map row8) 1))) rfl rfl rfl (⟨Int.natCast_nonneg _, getZ (getM hx1)⟩) (set_eqZ (f := row8) (l := digB_ 2 w k) (k := (1 - k)) (x := (hexD (((w / 2 ^ (4 * k)) % 16))))) <| rE 23 <| cReg rfl ?_
    have b4 : k + 1 ≤ 3 := Nat.add_le_add hkB (Nat.le_refl 1)
    refine rOk (x := vN (k + 1)) rfl rfl (okI (wrapI64 b4 rfl)) <| oR 1 rfl <| rE 25 ?_
    refine ⟨k + 1, fun s => s, Weak.of_lists (fun s => s) wT ⟨⟨rfl, (congrArg (fun z : List UInt8 => some (Blk.arr (z.map row8) 1)) (digB_next (by omega))), rfl⟩, trivial⟩ rfl, by omega, by show 2 - (k + 1) < 2 - k; omega⟩
  · have h1p := of_decide_eq_false h1
    refine cExit <| cSeq <| cReg rfl <| oR 1 rfl <| rStr (digB_ 2 w k) (d := 28) rfl rfl rfl ((by show 0 + 2 ≤ ((digB_ 2 w k).map row8).length; rw [List.length_map, hKl]; omega)) (rows8 hKl) <| oR 1 rfl <| rE 11 <| cRet ?_
    have hk8 : k = 2 := by have := of_decide_eq_false h1; omega
    subst hk8
    exact finTA rfl trivial rfl (congrArg vS (digB_end 2 w))
end Go.Proofs.YtpefnjbmbfdmmaaDoor
