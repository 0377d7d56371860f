/- Package script: where a plan has a number; how a line is read: walks on the second machine. -/
import Derived.Test.YtpefnjbmbfdmmaaDoorAbsT
import Derived.Test.YtpefnjbmbfdmmaaDoorScrZ
namespace Go.Proofs.YtpefnjbmbfdmmaaDoor
set_option maxRecDepth 100000
set_option maxHeartbeats 4000000
open Go.RowKit Go.Lib

theorem hNum_0 (p : ScPlan) (a b c : Bool) : HSem C0.P C0.G 45 [.ptr 0 0, vI 0] (heapF [(0, .box (planL p a b c))]) 1 (fun x h' => x = .v (.pointer none) ∧ h' = heapF [(0, .box (planL p a b c))]) := by
  refine HCall.intro (C := C0) (s := 1) c0Ok.at Tryd.func45 rfl rfl (by kernel_rfl) rfl rfl <| cSeq <| cReg rfl <| oR 1 rfl <| rE 2 <| cSeq <| cSeq <| cReg rfl <| oR 1 rfl <| rCl rfl (.inl rfl) (dName_0) <| rE 4 <| cBlock <| cSeq <| cReg rfl <| rOk (x := vB false) rfl rfl (okBo ((eq_tL [109, 111, 100, 101] [119, 105, 100, 116, 104]).trans (by decide))) <| oR 1 rfl ?_
  refine rE 6 ?_
  refine cCond rfl (fun h => by cases h) (fun _ => ?_)
  refine cSeq <| cReg rfl <| rOk (x := vB false) rfl rfl (okBo ((eq_tL [109, 111, 100, 101] [114, 111, 98]).trans (by decide))) <| oR 1 rfl <| rE 8 ?_
  refine cCond rfl (fun h => by cases h) (fun _ => ?_)
  refine cSeq <| cReg rfl <| rOk (x := vB false) rfl rfl (okBo ((eq_tL [109, 111, 100, 101] [113, 117, 101, 117, 101]).trans (by decide))) <| oR 1 rfl <| rE 10 ?_
  refine cCond rfl (fun h => by cases h) (fun _ => ?_)
  refine cSeq <| cReg rfl <| rOk (x := vB false) rfl rfl (okBo ((eq_tL [109, 111, 100, 101] [115, 116, 111, 114, 101, 115]).trans (by decide))) <| oR 1 rfl <| rE 12 ?_
  refine cCond rfl (fun h => by cases h) (fun _ => ?_)
  refine cSeq <| cReg rfl <| rOk (x := vB false) rfl rfl (okBo ((eq_tL [109, 111, 100, 101] [115, 108, 111, 116, 115]).trans (by decide))) <| oR 1 rfl <| rE 14 ?_
  refine cCond rfl (fun h => by cases h) (fun _ => ?_)
  refine cSeq <| cReg rfl <| rOk (x := vB false) rfl rfl (okBo ((eq_tL [109, 111, 100, 101] [115, 101, 116, 115]).trans (by decide))) <| oR 1 rfl <| rE 16 ?_
  refine cCond rfl (fun h => by cases h) (fun _ => ?_)
  refine cSeq <| cReg rfl <| rOk (x := vB false) rfl rfl (okBo ((eq_tL [109, 111, 100, 101] [119, 97, 121, 115]).trans (by decide))) <| oR 1 rfl <| rE 18 ?_
  refine cCond rfl (fun h => by cases h) (fun _ => ?_)
  refine cSeq <| cReg rfl <| rOk (x := vB false) rfl rfl (okBo ((eq_tL [109, 111, 100, 101] [99, 121, 99, 108, 101, 115]).trans (by decide))) <| oR 1 rfl <| rE 20 ?_
  refine cCond rfl (fun h => by cases h) (fun _ => ?_)
  refine cSkip <| cSeq <| cReg rfl <| oR 1 rfl <| rE 21 <| cRet ?_
  exact finH (rs := [.v (.pointer none)]) rfl (r := .v (.pointer none)) (σ := fun z => z) ⟨rfl, rfl⟩ rfl (weak_ret (fun z => z) rfl rfl wH rfl)
theorem numAt_0 {p : ScPlan} {a b c : Bool} {n : Nat} {K : AH} {s2 : Nat} (hb : Nat.blt n s2 = true) (hK : K n = some (.box (planL p a b c))) :
    HSem C0.P C0.G 45 [.ptr n 0, vI 0] K s2 (fun x h' => x = .v (.pointer none) ∧ h' = upd K n (some (.box (planL p a b c)))) :=
  (hNum_0 p a b c).frame1 n K s2 (Nat.le_of_ble_eq_true hb) rfl hK rfl
theorem hNum_1 (p : ScPlan) (a b c : Bool) : HSem C0.P C0.G 45 [.ptr 0 0, vI 1] (heapF [(0, .box (planL p a b c))]) 1 (fun x h' => x = .ptr 0 1 ∧ h' = heapF [(0, .box (planL p a b c))]) := by
  refine HCall.intro (C := C0) (s := 1) c0Ok.at Tryd.func45 rfl rfl (by kernel_rfl) rfl rfl <| cSeq <| cReg rfl <| oR 1 rfl <| rE 2 <| cSeq <| cSeq <| cReg rfl <| oR 1 rfl <| rCl rfl (.inl rfl) (dName_1) <| rE 4 <| cBlock <| cSeq <| cReg rfl <| rOk (x := vB true) rfl rfl (okBo ((eq_tL [119, 105, 100, 116, 104] [119, 105, 100, 116, 104]).trans (by decide))) <| oR 1 rfl ?_
  refine rE 6 ?_
  refine cCond rfl (fun _ => ?_) (fun h => by cases h)
  refine cSeq <| cReg rfl <| oR 5 rfl <| rE 11 <| cRet ?_
  exact finH (rs := [.ptr 0 1]) rfl (r := .ptr 0 1) (σ := fun z => z) ⟨rfl, rfl⟩ rfl (weak_ret (fun z => z) rfl rfl wH rfl)
theorem numAt_1 {p : ScPlan} {a b c : Bool} {n : Nat} {K : AH} {s2 : Nat} (hb : Nat.blt n s2 = true) (hK : K n = some (.box (planL p a b c))) :
    HSem C0.P C0.G 45 [.ptr n 0, vI 1] K s2 (fun x h' => x = .ptr n 1 ∧ h' = upd K n (some (.box (planL p a b c)))) :=
  (hNum_1 p a b c).frame1 n K s2 (Nat.le_of_ble_eq_true hb) rfl hK rfl
theorem hNum_2 (p : ScPlan) (a b c : Bool) : HSem C0.P C0.G 45 [.ptr 0 0, vI 2] (heapF [(0, .box (planL p a b c))]) 1 (fun x h' => x = .ptr 0 2 ∧ h' = heapF [(0, .box (planL p a b c))]) := by
  refine HCall.intro (C := C0) (s := 1) c0Ok.at Tryd.func45 rfl rfl (by kernel_rfl) rfl rfl <| cSeq <| cReg rfl <| oR 1 rfl <| rE 2 <| cSeq <| cSeq <| cReg rfl <| oR 1 rfl <| rCl rfl (.inl rfl) (dName_2) <| rE 4 <| cBlock <| cSeq <| cReg rfl <| rOk (x := vB false) rfl rfl (okBo ((eq_tL [114, 111, 98] [119, 105, 100, 116, 104]).trans (by decide))) <| oR 1 rfl ?_
  refine rE 6 ?_
  refine cCond rfl (fun h => by cases h) (fun _ => ?_)
  refine cSeq <| cReg rfl <| rOk (x := vB true) rfl rfl (okBo ((eq_tL [114, 111, 98] [114, 111, 98]).trans (by decide))) <| oR 1 rfl <| rE 8 ?_
  refine cCond rfl (fun _ => ?_) (fun h => by cases h)
  refine cSeq <| cReg rfl <| oR 5 rfl <| rE 13 <| cRet ?_
  exact finH (rs := [.ptr 0 2]) rfl (r := .ptr 0 2) (σ := fun z => z) ⟨rfl, rfl⟩ rfl (weak_ret (fun z => z) rfl rfl wH rfl)
theorem numAt_2 {p : ScPlan} {a b c : Bool} {n : Nat} {K : AH} {s2 : Nat} (hb : Nat.blt n s2 = true) (hK : K n = some (.box (planL p a b c))) :
    HSem C0.P C0.G 45 [.ptr n 0, vI 2] K s2 (fun x h' => x = .ptr n 2 ∧ h' = upd K n (some (.box (planL p a b c)))) :=
  (hNum_2 p a b c).frame1 n K s2 (Nat.le_of_ble_eq_true hb) rfl hK rfl
theorem hNum_3 (p : ScPlan) (a b c : Bool) : HSem C0.P C0.G 45 [.ptr 0 0, vI 3] (heapF [(0, .box (planL p a b c))]) 1 (fun x h' => x = .ptr 0 3 ∧ h' = heapF [(0, .box (planL p a b c))]) := by
  refine HCall.intro (C := C0) (s := 1) c0Ok.at Tryd.func45 rfl rfl (by kernel_rfl) rfl rfl <| cSeq <| cReg rfl <| oR 1 rfl <| rE 2 <| cSeq <| cSeq <| cReg rfl <| oR 1 rfl <| rCl rfl (.inl rfl) (dName_3) <| rE 4 <| cBlock <| cSeq <| cReg rfl <| rOk (x := vB false) rfl rfl (okBo ((eq_tL [113, 117, 101, 117, 101] [119, 105, 100, 116, 104]).trans (by decide))) <| oR 1 rfl ?_
  refine rE 6 ?_
  refine cCond rfl (fun h => by cases h) (fun _ => ?_)
  refine cSeq <| cReg rfl <| rOk (x := vB false) rfl rfl (okBo ((eq_tL [113, 117, 101, 117, 101] [114, 111, 98]).trans (by decide))) <| oR 1 rfl <| rE 8 ?_
  refine cCond rfl (fun h => by cases h) (fun _ => ?_)
  refine cSeq <| cReg rfl <| rOk (x := vB true) rfl rfl (okBo ((eq_tL [113, 117, 101, 117, 101] [113, 117, 101, 117, 101]).trans (by decide))) <| oR 1 rfl <| rE 10 ?_
  refine cCond rfl (fun _ => ?_) (fun h => by cases h)
  refine cSeq <| cReg rfl <| oR 5 rfl <| rE 15 <| cRet ?_
  exact finH (rs := [.ptr 0 3]) rfl (r := .ptr 0 3) (σ := fun z => z) ⟨rfl, rfl⟩ rfl (weak_ret (fun z => z) rfl rfl wH rfl)
theorem numAt_3 {p : ScPlan} {a b c : Bool} {n : Nat} {K : AH} {s2 : Nat} (hb : Nat.blt n s2 = true) (hK : K n = some (.box (planL p a b c))) :
    HSem C0.P C0.G 45 [.ptr n 0, vI 3] K s2 (fun x h' => x = .ptr n 3 ∧ h' = upd K n (some (.box (planL p a b c)))) :=
  (hNum_3 p a b c).frame1 n K s2 (Nat.le_of_ble_eq_true hb) rfl hK rfl
theorem hNum_4 (p : ScPlan) (a b c : Bool) : HSem C0.P C0.G 45 [.ptr 0 0, vI 4] (heapF [(0, .box (planL p a b c))]) 1 (fun x h' => x = .ptr 0 4 ∧ h' = heapF [(0, .box (planL p a b c))]) := by
  refine HCall.intro (C := C0) (s := 1) c0Ok.at Tryd.func45 rfl rfl (by kernel_rfl) rfl rfl <| cSeq <| cReg rfl <| oR 1 rfl <| rE 2 <| cSeq <| cSeq <| cReg rfl <| oR 1 rfl <| rCl rfl (.inl rfl) (dName_4) <| rE 4 <| cBlock <| cSeq <| cReg rfl <| rOk (x := vB false) rfl rfl (okBo ((eq_tL [115, 116, 111, 114, 101, 115] [119, 105, 100, 116, 104]).trans (by decide))) <| oR 1 rfl ?_
  refine rE 6 ?_
  refine cCond rfl (fun h => by cases h) (fun _ => ?_)
  refine cSeq <| cReg rfl <| rOk (x := vB false) rfl rfl (okBo ((eq_tL [115, 116, 111, 114, 101, 115] [114, 111, 98]).trans (by decide))) <| oR 1 rfl <| rE 8 ?_
  refine cCond rfl (fun h => by cases h) (fun _ => ?_)
  refine cSeq <| cReg rfl <| rOk (x := vB false) rfl rfl (okBo ((eq_tL [115, 116, 111, 114, 101, 115] [113, 117, 101, 117, 101]).trans (by decide))) <| oR 1 rfl <| rE 10 ?_
  refine cCond rfl (fun h => by cases h) (fun _ => ?_)
  refine cSeq <| cReg rfl <| rOk (x := vB true) rfl rfl (okBo ((eq_tL [115, 116, 111, 114, 101, 115] [115, 116, 111, 114, 101, 115]).trans (by decide))) <| oR 1 rfl <| rE 12 ?_
  refine cCond rfl (fun _ => ?_) (fun h => by cases h)
  refine cSeq <| cReg rfl <| oR 5 rfl <| rE 17 <| cRet ?_
  exact finH (rs := [.ptr 0 4]) rfl (r := .ptr 0 4) (σ := fun z => z) ⟨rfl, rfl⟩ rfl (weak_ret (fun z => z) rfl rfl wH rfl)
theorem numAt_4 {p : ScPlan} {a b c : Bool} {n : Nat} {K : AH} {s2 : Nat} (hb : Nat.blt n s2 = true) (hK : K n = some (.box (planL p a b c))) :
    HSem C0.P C0.G 45 [.ptr n 0, vI 4] K s2 (fun x h' => x = .ptr n 4 ∧ h' = upd K n (some (.box (planL p a b c)))) :=
  (hNum_4 p a b c).frame1 n K s2 (Nat.le_of_ble_eq_true hb) rfl hK rfl
theorem hNum_5 (p : ScPlan) (a b c : Bool) : HSem C0.P C0.G 45 [.ptr 0 0, vI 5] (heapF [(0, .box (planL p a b c))]) 1 (fun x h' => x = .ptr 0 5 ∧ h' = heapF [(0, .box (planL p a b c))]) := by
  refine HCall.intro (C := C0) (s := 1) c0Ok.at Tryd.func45 rfl rfl (by kernel_rfl) rfl rfl <| cSeq <| cReg rfl <| oR 1 rfl <| rE 2 <| cSeq <| cSeq <| cReg rfl <| oR 1 rfl <| rCl rfl (.inl rfl) (dName_5) <| rE 4 <| cBlock <| cSeq <| cReg rfl <| rOk (x := vB false) rfl rfl (okBo ((eq_tL [115, 108, 111, 116, 115] [119, 105, 100, 116, 104]).trans (by decide))) <| oR 1 rfl ?_
  refine rE 6 ?_
  refine cCond rfl (fun h => by cases h) (fun _ => ?_)
  refine cSeq <| cReg rfl <| rOk (x := vB false) rfl rfl (okBo ((eq_tL [115, 108, 111, 116, 115] [114, 111, 98]).trans (by decide))) <| oR 1 rfl <| rE 8 ?_
  refine cCond rfl (fun h => by cases h) (fun _ => ?_)
  refine cSeq <| cReg rfl <| rOk (x := vB false) rfl rfl (okBo ((eq_tL [115, 108, 111, 116, 115] [113, 117, 101, 117, 101]).trans (by decide))) <| oR 1 rfl <| rE 10 ?_
  refine cCond rfl (fun h => by cases h) (fun _ => ?_)
  refine cSeq <| cReg rfl <| rOk (x := vB false) rfl rfl (okBo ((eq_tL [115, 108, 111, 116, 115] [115, 116, 111, 114, 101, 115]).trans (by decide))) <| oR 1 rfl <| rE 12 ?_
  refine cCond rfl (fun h => by cases h) (fun _ => ?_)
  refine cSeq <| cReg rfl <| rOk (x := vB true) rfl rfl (okBo ((eq_tL [115, 108, 111, 116, 115] [115, 108, 111, 116, 115]).trans (by decide))) <| oR 1 rfl <| rE 14 ?_
  refine cCond rfl (fun _ => ?_) (fun h => by cases h)
  refine cSeq <| cReg rfl <| oR 5 rfl <| rE 19 <| cRet ?_
  exact finH (rs := [.ptr 0 5]) rfl (r := .ptr 0 5) (σ := fun z => z) ⟨rfl, rfl⟩ rfl (weak_ret (fun z => z) rfl rfl wH rfl)
theorem numAt_5 {p : ScPlan} {a b c : Bool} {n : Nat} {K : AH} {s2 : Nat} (hb : Nat.blt n s2 = true) (hK : K n = some (.box (planL p a b c))) :
    HSem C0.P C0.G 45 [.ptr n 0, vI 5] K s2 (fun x h' => x = .ptr n 5 ∧ h' = upd K n (some (.box (planL p a b c)))) :=
  (hNum_5 p a b c).frame1 n K s2 (Nat.le_of_ble_eq_true hb) rfl hK rfl
theorem hNum_6 (p : ScPlan) (a b c : Bool) : HSem C0.P C0.G 45 [.ptr 0 0, vI 6] (heapF [(0, .box (planL p a b c))]) 1 (fun x h' => x = .ptr 0 6 ∧ h' = heapF [(0, .box (planL p a b c))]) := by
  refine HCall.intro (C := C0) (s := 1) c0Ok.at Tryd.func45 rfl rfl (by kernel_rfl) rfl rfl <| cSeq <| cReg rfl <| oR 1 rfl <| rE 2 <| cSeq <| cSeq <| cReg rfl <| oR 1 rfl <| rCl rfl (.inl rfl) (dName_6) <| rE 4 <| cBlock <| cSeq <| cReg rfl <| rOk (x := vB false) rfl rfl (okBo ((eq_tL [115, 101, 116, 115] [119, 105, 100, 116, 104]).trans (by decide))) <| oR 1 rfl ?_
  refine rE 6 ?_
  refine cCond rfl (fun h => by cases h) (fun _ => ?_)
  refine cSeq <| cReg rfl <| rOk (x := vB false) rfl rfl (okBo ((eq_tL [115, 101, 116, 115] [114, 111, 98]).trans (by decide))) <| oR 1 rfl <| rE 8 ?_
  refine cCond rfl (fun h => by cases h) (fun _ => ?_)
  refine cSeq <| cReg rfl <| rOk (x := vB false) rfl rfl (okBo ((eq_tL [115, 101, 116, 115] [113, 117, 101, 117, 101]).trans (by decide))) <| oR 1 rfl <| rE 10 ?_
  refine cCond rfl (fun h => by cases h) (fun _ => ?_)
  refine cSeq <| cReg rfl <| rOk (x := vB false) rfl rfl (okBo ((eq_tL [115, 101, 116, 115] [115, 116, 111, 114, 101, 115]).trans (by decide))) <| oR 1 rfl <| rE 12 ?_
  refine cCond rfl (fun h => by cases h) (fun _ => ?_)
  refine cSeq <| cReg rfl <| rOk (x := vB false) rfl rfl (okBo ((eq_tL [115, 101, 116, 115] [115, 108, 111, 116, 115]).trans (by decide))) <| oR 1 rfl <| rE 14 ?_
  refine cCond rfl (fun h => by cases h) (fun _ => ?_)
  refine cSeq <| cReg rfl <| rOk (x := vB true) rfl rfl (okBo ((eq_tL [115, 101, 116, 115] [115, 101, 116, 115]).trans (by decide))) <| oR 1 rfl <| rE 16 ?_
  refine cCond rfl (fun _ => ?_) (fun h => by cases h)
  refine cSeq <| cReg rfl <| oR 5 rfl <| rE 21 <| cRet ?_
  exact finH (rs := [.ptr 0 6]) rfl (r := .ptr 0 6) (σ := fun z => z) ⟨rfl, rfl⟩ rfl (weak_ret (fun z => z) rfl rfl wH rfl)
theorem numAt_6 {p : ScPlan} {a b c : Bool} {n : Nat} {K : AH} {s2 : Nat} (hb : Nat.blt n s2 = true) (hK : K n = some (.box (planL p a b c))) :
    HSem C0.P C0.G 45 [.ptr n 0, vI 6] K s2 (fun x h' => x = .ptr n 6 ∧ h' = upd K n (some (.box (planL p a b c)))) :=
  (hNum_6 p a b c).frame1 n K s2 (Nat.le_of_ble_eq_true hb) rfl hK rfl
theorem hNum_7 (p : ScPlan) (a b c : Bool) : HSem C0.P C0.G 45 [.ptr 0 0, vI 7] (heapF [(0, .box (planL p a b c))]) 1 (fun x h' => x = .ptr 0 7 ∧ h' = heapF [(0, .box (planL p a b c))]) := by
  refine HCall.intro (C := C0) (s := 1) c0Ok.at Tryd.func45 rfl rfl (by kernel_rfl) rfl rfl <| cSeq <| cReg rfl <| oR 1 rfl <| rE 2 <| cSeq <| cSeq <| cReg rfl <| oR 1 rfl <| rCl rfl (.inl rfl) (dName_7) <| rE 4 <| cBlock <| cSeq <| cReg rfl <| rOk (x := vB false) rfl rfl (okBo ((eq_tL [119, 97, 121, 115] [119, 105, 100, 116, 104]).trans (by decide))) <| oR 1 rfl ?_
  refine rE 6 ?_
  refine cCond rfl (fun h => by cases h) (fun _ => ?_)
  refine cSeq <| cReg rfl <| rOk (x := vB false) rfl rfl (okBo ((eq_tL [119, 97, 121, 115] [114, 111, 98]).trans (by decide))) <| oR 1 rfl <| rE 8 ?_
  refine cCond rfl (fun h => by cases h) (fun _ => ?_)
  refine cSeq <| cReg rfl <| rOk (x := vB false) rfl rfl (okBo ((eq_tL [119, 97, 121, 115] [113, 117, 101, 117, 101]).trans (by decide))) <| oR 1 rfl <| rE 10 ?_
  refine cCond rfl (fun h => by cases h) (fun _ => ?_)
  refine cSeq <| cReg rfl <| rOk (x := vB false) rfl rfl (okBo ((eq_tL [119, 97, 121, 115] [115, 116, 111, 114, 101, 115]).trans (by decide))) <| oR 1 rfl <| rE 12 ?_
  refine cCond rfl (fun h => by cases h) (fun _ => ?_)
  refine cSeq <| cReg rfl <| rOk (x := vB false) rfl rfl (okBo ((eq_tL [119, 97, 121, 115] [115, 108, 111, 116, 115]).trans (by decide))) <| oR 1 rfl <| rE 14 ?_
  refine cCond rfl (fun h => by cases h) (fun _ => ?_)
  refine cSeq <| cReg rfl <| rOk (x := vB false) rfl rfl (okBo ((eq_tL [119, 97, 121, 115] [115, 101, 116, 115]).trans (by decide))) <| oR 1 rfl <| rE 16 ?_
  refine cCond rfl (fun h => by cases h) (fun _ => ?_)
  refine cSeq <| cReg rfl <| rOk (x := vB true) rfl rfl (okBo ((eq_tL [119, 97, 121, 115] [119, 97, 121, 115]).trans (by decide))) <| oR 1 rfl <| rE 18 ?_
  refine cCond rfl (fun _ => ?_) (fun h => by cases h)
  refine cSeq <| cReg rfl <| oR 5 rfl <| rE 23 <| cRet ?_
  exact finH (rs := [.ptr 0 7]) rfl (r := .ptr 0 7) (σ := fun z => z) ⟨rfl, rfl⟩ rfl (weak_ret (fun z => z) rfl rfl wH rfl)
theorem numAt_7 {p : ScPlan} {a b c : Bool} {n : Nat} {K : AH} {s2 : Nat} (hb : Nat.blt n s2 = true) (hK : K n = some (.box (planL p a b c))) :
    HSem C0.P C0.G 45 [.ptr n 0, vI 7] K s2 (fun x h' => x = .ptr n 7 ∧ h' = upd K n (some (.box (planL p a b c)))) :=
  (hNum_7 p a b c).frame1 n K s2 (Nat.le_of_ble_eq_true hb) rfl hK rfl
theorem hNum_8 (p : ScPlan) (a b c : Bool) : HSem C0.P C0.G 45 [.ptr 0 0, vI 8] (heapF [(0, .box (planL p a b c))]) 1 (fun x h' => x = .v (.pointer none) ∧ h' = heapF [(0, .box (planL p a b c))]) := by
  refine HCall.intro (C := C0) (s := 1) c0Ok.at Tryd.func45 rfl rfl (by kernel_rfl) rfl rfl <| cSeq <| cReg rfl <| oR 1 rfl <| rE 2 <| cSeq <| cSeq <| cReg rfl <| oR 1 rfl <| rCl rfl (.inl rfl) (dName_8) <| rE 4 <| cBlock <| cSeq <| cReg rfl <| rOk (x := vB false) rfl rfl (okBo ((eq_tL [103, 117, 101, 115, 115] [119, 105, 100, 116, 104]).trans (by decide))) <| oR 1 rfl ?_
  refine rE 6 ?_
  refine cCond rfl (fun h => by cases h) (fun _ => ?_)
  refine cSeq <| cReg rfl <| rOk (x := vB false) rfl rfl (okBo ((eq_tL [103, 117, 101, 115, 115] [114, 111, 98]).trans (by decide))) <| oR 1 rfl <| rE 8 ?_
  refine cCond rfl (fun h => by cases h) (fun _ => ?_)
  refine cSeq <| cReg rfl <| rOk (x := vB false) rfl rfl (okBo ((eq_tL [103, 117, 101, 115, 115] [113, 117, 101, 117, 101]).trans (by decide))) <| oR 1 rfl <| rE 10 ?_
  refine cCond rfl (fun h => by cases h) (fun _ => ?_)
  refine cSeq <| cReg rfl <| rOk (x := vB false) rfl rfl (okBo ((eq_tL [103, 117, 101, 115, 115] [115, 116, 111, 114, 101, 115]).trans (by decide))) <| oR 1 rfl <| rE 12 ?_
  refine cCond rfl (fun h => by cases h) (fun _ => ?_)
  refine cSeq <| cReg rfl <| rOk (x := vB false) rfl rfl (okBo ((eq_tL [103, 117, 101, 115, 115] [115, 108, 111, 116, 115]).trans (by decide))) <| oR 1 rfl <| rE 14 ?_
  refine cCond rfl (fun h => by cases h) (fun _ => ?_)
  refine cSeq <| cReg rfl <| rOk (x := vB false) rfl rfl (okBo ((eq_tL [103, 117, 101, 115, 115] [115, 101, 116, 115]).trans (by decide))) <| oR 1 rfl <| rE 16 ?_
  refine cCond rfl (fun h => by cases h) (fun _ => ?_)
  refine cSeq <| cReg rfl <| rOk (x := vB false) rfl rfl (okBo ((eq_tL [103, 117, 101, 115, 115] [119, 97, 121, 115]).trans (by decide))) <| oR 1 rfl <| rE 18 ?_
  refine cCond rfl (fun h => by cases h) (fun _ => ?_)
  refine cSeq <| cReg rfl <| rOk (x := vB false) rfl rfl (okBo ((eq_tL [103, 117, 101, 115, 115] [99, 121, 99, 108, 101, 115]).trans (by decide))) <| oR 1 rfl <| rE 20 ?_
  refine cCond rfl (fun h => by cases h) (fun _ => ?_)
  refine cSkip <| cSeq <| cReg rfl <| oR 1 rfl <| rE 21 <| cRet ?_
  exact finH (rs := [.v (.pointer none)]) rfl (r := .v (.pointer none)) (σ := fun z => z) ⟨rfl, rfl⟩ rfl (weak_ret (fun z => z) rfl rfl wH rfl)
theorem numAt_8 {p : ScPlan} {a b c : Bool} {n : Nat} {K : AH} {s2 : Nat} (hb : Nat.blt n s2 = true) (hK : K n = some (.box (planL p a b c))) :
    HSem C0.P C0.G 45 [.ptr n 0, vI 8] K s2 (fun x h' => x = .v (.pointer none) ∧ h' = upd K n (some (.box (planL p a b c)))) :=
  (hNum_8 p a b c).frame1 n K s2 (Nat.le_of_ble_eq_true hb) rfl hK rfl
theorem hNum_9 (p : ScPlan) (a b c : Bool) : HSem C0.P C0.G 45 [.ptr 0 0, vI 9] (heapF [(0, .box (planL p a b c))]) 1 (fun x h' => x = .v (.pointer none) ∧ h' = heapF [(0, .box (planL p a b c))]) := by
  refine HCall.intro (C := C0) (s := 1) c0Ok.at Tryd.func45 rfl rfl (by kernel_rfl) rfl rfl <| cSeq <| cReg rfl <| oR 1 rfl <| rE 2 <| cSeq <| cSeq <| cReg rfl <| oR 1 rfl <| rCl rfl (.inl rfl) (dName_9) <| rE 4 <| cBlock <| cSeq <| cReg rfl <| rOk (x := vB false) rfl rfl (okBo ((eq_tL [108, 97, 116] [119, 105, 100, 116, 104]).trans (by decide))) <| oR 1 rfl ?_
  refine rE 6 ?_
  refine cCond rfl (fun h => by cases h) (fun _ => ?_)
  refine cSeq <| cReg rfl <| rOk (x := vB false) rfl rfl (okBo ((eq_tL [108, 97, 116] [114, 111, 98]).trans (by decide))) <| oR 1 rfl <| rE 8 ?_
  refine cCond rfl (fun h => by cases h) (fun _ => ?_)
  refine cSeq <| cReg rfl <| rOk (x := vB false) rfl rfl (okBo ((eq_tL [108, 97, 116] [113, 117, 101, 117, 101]).trans (by decide))) <| oR 1 rfl <| rE 10 ?_
  refine cCond rfl (fun h => by cases h) (fun _ => ?_)
  refine cSeq <| cReg rfl <| rOk (x := vB false) rfl rfl (okBo ((eq_tL [108, 97, 116] [115, 116, 111, 114, 101, 115]).trans (by decide))) <| oR 1 rfl <| rE 12 ?_
  refine cCond rfl (fun h => by cases h) (fun _ => ?_)
  refine cSeq <| cReg rfl <| rOk (x := vB false) rfl rfl (okBo ((eq_tL [108, 97, 116] [115, 108, 111, 116, 115]).trans (by decide))) <| oR 1 rfl <| rE 14 ?_
  refine cCond rfl (fun h => by cases h) (fun _ => ?_)
  refine cSeq <| cReg rfl <| rOk (x := vB false) rfl rfl (okBo ((eq_tL [108, 97, 116] [115, 101, 116, 115]).trans (by decide))) <| oR 1 rfl <| rE 16 ?_
  refine cCond rfl (fun h => by cases h) (fun _ => ?_)
  refine cSeq <| cReg rfl <| rOk (x := vB false) rfl rfl (okBo ((eq_tL [108, 97, 116] [119, 97, 121, 115]).trans (by decide))) <| oR 1 rfl <| rE 18 ?_
  refine cCond rfl (fun h => by cases h) (fun _ => ?_)
  refine cSeq <| cReg rfl <| rOk (x := vB false) rfl rfl (okBo ((eq_tL [108, 97, 116] [99, 121, 99, 108, 101, 115]).trans (by decide))) <| oR 1 rfl <| rE 20 ?_
  refine cCond rfl (fun h => by cases h) (fun _ => ?_)
  refine cSkip <| cSeq <| cReg rfl <| oR 1 rfl <| rE 21 <| cRet ?_
  exact finH (rs := [.v (.pointer none)]) rfl (r := .v (.pointer none)) (σ := fun z => z) ⟨rfl, rfl⟩ rfl (weak_ret (fun z => z) rfl rfl wH rfl)
theorem numAt_9 {p : ScPlan} {a b c : Bool} {n : Nat} {K : AH} {s2 : Nat} (hb : Nat.blt n s2 = true) (hK : K n = some (.box (planL p a b c))) :
    HSem C0.P C0.G 45 [.ptr n 0, vI 9] K s2 (fun x h' => x = .v (.pointer none) ∧ h' = upd K n (some (.box (planL p a b c)))) :=
  (hNum_9 p a b c).frame1 n K s2 (Nat.le_of_ble_eq_true hb) rfl hK rfl
theorem hNum_10 (p : ScPlan) (a b c : Bool) : HSem C0.P C0.G 45 [.ptr 0 0, vI 10] (heapF [(0, .box (planL p a b c))]) 1 (fun x h' => x = .v (.pointer none) ∧ h' = heapF [(0, .box (planL p a b c))]) := by
  refine HCall.intro (C := C0) (s := 1) c0Ok.at Tryd.func45 rfl rfl (by kernel_rfl) rfl rfl <| cSeq <| cReg rfl <| oR 1 rfl <| rE 2 <| cSeq <| cSeq <| cReg rfl <| oR 1 rfl <| rCl rfl (.inl rfl) (dName_10) <| rE 4 <| cBlock <| cSeq <| cReg rfl <| rOk (x := vB false) rfl rfl (okBo ((eq_tL [116, 97, 112, 101] [119, 105, 100, 116, 104]).trans (by decide))) <| oR 1 rfl ?_
  refine rE 6 ?_
  refine cCond rfl (fun h => by cases h) (fun _ => ?_)
  refine cSeq <| cReg rfl <| rOk (x := vB false) rfl rfl (okBo ((eq_tL [116, 97, 112, 101] [114, 111, 98]).trans (by decide))) <| oR 1 rfl <| rE 8 ?_
  refine cCond rfl (fun h => by cases h) (fun _ => ?_)
  refine cSeq <| cReg rfl <| rOk (x := vB false) rfl rfl (okBo ((eq_tL [116, 97, 112, 101] [113, 117, 101, 117, 101]).trans (by decide))) <| oR 1 rfl <| rE 10 ?_
  refine cCond rfl (fun h => by cases h) (fun _ => ?_)
  refine cSeq <| cReg rfl <| rOk (x := vB false) rfl rfl (okBo ((eq_tL [116, 97, 112, 101] [115, 116, 111, 114, 101, 115]).trans (by decide))) <| oR 1 rfl <| rE 12 ?_
  refine cCond rfl (fun h => by cases h) (fun _ => ?_)
  refine cSeq <| cReg rfl <| rOk (x := vB false) rfl rfl (okBo ((eq_tL [116, 97, 112, 101] [115, 108, 111, 116, 115]).trans (by decide))) <| oR 1 rfl <| rE 14 ?_
  refine cCond rfl (fun h => by cases h) (fun _ => ?_)
  refine cSeq <| cReg rfl <| rOk (x := vB false) rfl rfl (okBo ((eq_tL [116, 97, 112, 101] [115, 101, 116, 115]).trans (by decide))) <| oR 1 rfl <| rE 16 ?_
  refine cCond rfl (fun h => by cases h) (fun _ => ?_)
  refine cSeq <| cReg rfl <| rOk (x := vB false) rfl rfl (okBo ((eq_tL [116, 97, 112, 101] [119, 97, 121, 115]).trans (by decide))) <| oR 1 rfl <| rE 18 ?_
  refine cCond rfl (fun h => by cases h) (fun _ => ?_)
  refine cSeq <| cReg rfl <| rOk (x := vB false) rfl rfl (okBo ((eq_tL [116, 97, 112, 101] [99, 121, 99, 108, 101, 115]).trans (by decide))) <| oR 1 rfl <| rE 20 ?_
  refine cCond rfl (fun h => by cases h) (fun _ => ?_)
  refine cSkip <| cSeq <| cReg rfl <| oR 1 rfl <| rE 21 <| cRet ?_
  exact finH (rs := [.v (.pointer none)]) rfl (r := .v (.pointer none)) (σ := fun z => z) ⟨rfl, rfl⟩ rfl (weak_ret (fun z => z) rfl rfl wH rfl)
theorem numAt_10 {p : ScPlan} {a b c : Bool} {n : Nat} {K : AH} {s2 : Nat} (hb : Nat.blt n s2 = true) (hK : K n = some (.box (planL p a b c))) :
    HSem C0.P C0.G 45 [.ptr n 0, vI 10] K s2 (fun x h' => x = .v (.pointer none) ∧ h' = upd K n (some (.box (planL p a b c)))) :=
  (hNum_10 p a b c).frame1 n K s2 (Nat.le_of_ble_eq_true hb) rfl hK rfl
theorem hNum_11 (p : ScPlan) (a b c : Bool) : HSem C0.P C0.G 45 [.ptr 0 0, vI 11] (heapF [(0, .box (planL p a b c))]) 1 (fun x h' => x = .v (.pointer none) ∧ h' = heapF [(0, .box (planL p a b c))]) := by
  refine HCall.intro (C := C0) (s := 1) c0Ok.at Tryd.func45 rfl rfl (by kernel_rfl) rfl rfl <| cSeq <| cReg rfl <| oR 1 rfl <| rE 2 <| cSeq <| cSeq <| cReg rfl <| oR 1 rfl <| rCl rfl (.inl rfl) (dName_11) <| rE 4 <| cBlock <| cSeq <| cReg rfl <| rOk (x := vB false) rfl rfl (okBo ((eq_tL [112, 114, 111, 103] [119, 105, 100, 116, 104]).trans (by decide))) <| oR 1 rfl ?_
  refine rE 6 ?_
  refine cCond rfl (fun h => by cases h) (fun _ => ?_)
  refine cSeq <| cReg rfl <| rOk (x := vB false) rfl rfl (okBo ((eq_tL [112, 114, 111, 103] [114, 111, 98]).trans (by decide))) <| oR 1 rfl <| rE 8 ?_
  refine cCond rfl (fun h => by cases h) (fun _ => ?_)
  refine cSeq <| cReg rfl <| rOk (x := vB false) rfl rfl (okBo ((eq_tL [112, 114, 111, 103] [113, 117, 101, 117, 101]).trans (by decide))) <| oR 1 rfl <| rE 10 ?_
  refine cCond rfl (fun h => by cases h) (fun _ => ?_)
  refine cSeq <| cReg rfl <| rOk (x := vB false) rfl rfl (okBo ((eq_tL [112, 114, 111, 103] [115, 116, 111, 114, 101, 115]).trans (by decide))) <| oR 1 rfl <| rE 12 ?_
  refine cCond rfl (fun h => by cases h) (fun _ => ?_)
  refine cSeq <| cReg rfl <| rOk (x := vB false) rfl rfl (okBo ((eq_tL [112, 114, 111, 103] [115, 108, 111, 116, 115]).trans (by decide))) <| oR 1 rfl <| rE 14 ?_
  refine cCond rfl (fun h => by cases h) (fun _ => ?_)
  refine cSeq <| cReg rfl <| rOk (x := vB false) rfl rfl (okBo ((eq_tL [112, 114, 111, 103] [115, 101, 116, 115]).trans (by decide))) <| oR 1 rfl <| rE 16 ?_
  refine cCond rfl (fun h => by cases h) (fun _ => ?_)
  refine cSeq <| cReg rfl <| rOk (x := vB false) rfl rfl (okBo ((eq_tL [112, 114, 111, 103] [119, 97, 121, 115]).trans (by decide))) <| oR 1 rfl <| rE 18 ?_
  refine cCond rfl (fun h => by cases h) (fun _ => ?_)
  refine cSeq <| cReg rfl <| rOk (x := vB false) rfl rfl (okBo ((eq_tL [112, 114, 111, 103] [99, 121, 99, 108, 101, 115]).trans (by decide))) <| oR 1 rfl <| rE 20 ?_
  refine cCond rfl (fun h => by cases h) (fun _ => ?_)
  refine cSkip <| cSeq <| cReg rfl <| oR 1 rfl <| rE 21 <| cRet ?_
  exact finH (rs := [.v (.pointer none)]) rfl (r := .v (.pointer none)) (σ := fun z => z) ⟨rfl, rfl⟩ rfl (weak_ret (fun z => z) rfl rfl wH rfl)
theorem numAt_11 {p : ScPlan} {a b c : Bool} {n : Nat} {K : AH} {s2 : Nat} (hb : Nat.blt n s2 = true) (hK : K n = some (.box (planL p a b c))) :
    HSem C0.P C0.G 45 [.ptr n 0, vI 11] K s2 (fun x h' => x = .v (.pointer none) ∧ h' = upd K n (some (.box (planL p a b c)))) :=
  (hNum_11 p a b c).frame1 n K s2 (Nat.le_of_ble_eq_true hb) rfl hK rfl
theorem hNum_12 (p : ScPlan) (a b c : Bool) : HSem C0.P C0.G 45 [.ptr 0 0, vI 12] (heapF [(0, .box (planL p a b c))]) 1 (fun x h' => x = .v (.pointer none) ∧ h' = heapF [(0, .box (planL p a b c))]) := by
  refine HCall.intro (C := C0) (s := 1) c0Ok.at Tryd.func45 rfl rfl (by kernel_rfl) rfl rfl <| cSeq <| cReg rfl <| oR 1 rfl <| rE 2 <| cSeq <| cSeq <| cReg rfl <| oR 1 rfl <| rCl rfl (.inl rfl) (dName_12) <| rE 4 <| cBlock <| cSeq <| cReg rfl <| rOk (x := vB false) rfl rfl (okBo ((eq_tL [109, 101, 109] [119, 105, 100, 116, 104]).trans (by decide))) <| oR 1 rfl ?_
  refine rE 6 ?_
  refine cCond rfl (fun h => by cases h) (fun _ => ?_)
  refine cSeq <| cReg rfl <| rOk (x := vB false) rfl rfl (okBo ((eq_tL [109, 101, 109] [114, 111, 98]).trans (by decide))) <| oR 1 rfl <| rE 8 ?_
  refine cCond rfl (fun h => by cases h) (fun _ => ?_)
  refine cSeq <| cReg rfl <| rOk (x := vB false) rfl rfl (okBo ((eq_tL [109, 101, 109] [113, 117, 101, 117, 101]).trans (by decide))) <| oR 1 rfl <| rE 10 ?_
  refine cCond rfl (fun h => by cases h) (fun _ => ?_)
  refine cSeq <| cReg rfl <| rOk (x := vB false) rfl rfl (okBo ((eq_tL [109, 101, 109] [115, 116, 111, 114, 101, 115]).trans (by decide))) <| oR 1 rfl <| rE 12 ?_
  refine cCond rfl (fun h => by cases h) (fun _ => ?_)
  refine cSeq <| cReg rfl <| rOk (x := vB false) rfl rfl (okBo ((eq_tL [109, 101, 109] [115, 108, 111, 116, 115]).trans (by decide))) <| oR 1 rfl <| rE 14 ?_
  refine cCond rfl (fun h => by cases h) (fun _ => ?_)
  refine cSeq <| cReg rfl <| rOk (x := vB false) rfl rfl (okBo ((eq_tL [109, 101, 109] [115, 101, 116, 115]).trans (by decide))) <| oR 1 rfl <| rE 16 ?_
  refine cCond rfl (fun h => by cases h) (fun _ => ?_)
  refine cSeq <| cReg rfl <| rOk (x := vB false) rfl rfl (okBo ((eq_tL [109, 101, 109] [119, 97, 121, 115]).trans (by decide))) <| oR 1 rfl <| rE 18 ?_
  refine cCond rfl (fun h => by cases h) (fun _ => ?_)
  refine cSeq <| cReg rfl <| rOk (x := vB false) rfl rfl (okBo ((eq_tL [109, 101, 109] [99, 121, 99, 108, 101, 115]).trans (by decide))) <| oR 1 rfl <| rE 20 ?_
  refine cCond rfl (fun h => by cases h) (fun _ => ?_)
  refine cSkip <| cSeq <| cReg rfl <| oR 1 rfl <| rE 21 <| cRet ?_
  exact finH (rs := [.v (.pointer none)]) rfl (r := .v (.pointer none)) (σ := fun z => z) ⟨rfl, rfl⟩ rfl (weak_ret (fun z => z) rfl rfl wH rfl)
theorem numAt_12 {p : ScPlan} {a b c : Bool} {n : Nat} {K : AH} {s2 : Nat} (hb : Nat.blt n s2 = true) (hK : K n = some (.box (planL p a b c))) :
    HSem C0.P C0.G 45 [.ptr n 0, vI 12] K s2 (fun x h' => x = .v (.pointer none) ∧ h' = upd K n (some (.box (planL p a b c)))) :=
  (hNum_12 p a b c).frame1 n K s2 (Nat.le_of_ble_eq_true hb) rfl hK rfl
theorem hNum_13 (p : ScPlan) (a b c : Bool) : HSem C0.P C0.G 45 [.ptr 0 0, vI 13] (heapF [(0, .box (planL p a b c))]) 1 (fun x h' => x = .ptr 0 13 ∧ h' = heapF [(0, .box (planL p a b c))]) := by
  refine HCall.intro (C := C0) (s := 1) c0Ok.at Tryd.func45 rfl rfl (by kernel_rfl) rfl rfl <| cSeq <| cReg rfl <| oR 1 rfl <| rE 2 <| cSeq <| cSeq <| cReg rfl <| oR 1 rfl <| rCl rfl (.inl rfl) (dName_13) <| rE 4 <| cBlock <| cSeq <| cReg rfl <| rOk (x := vB false) rfl rfl (okBo ((eq_tL [99, 121, 99, 108, 101, 115] [119, 105, 100, 116, 104]).trans (by decide))) <| oR 1 rfl ?_
  refine rE 6 ?_
  refine cCond rfl (fun h => by cases h) (fun _ => ?_)
  refine cSeq <| cReg rfl <| rOk (x := vB false) rfl rfl (okBo ((eq_tL [99, 121, 99, 108, 101, 115] [114, 111, 98]).trans (by decide))) <| oR 1 rfl <| rE 8 ?_
  refine cCond rfl (fun h => by cases h) (fun _ => ?_)
  refine cSeq <| cReg rfl <| rOk (x := vB false) rfl rfl (okBo ((eq_tL [99, 121, 99, 108, 101, 115] [113, 117, 101, 117, 101]).trans (by decide))) <| oR 1 rfl <| rE 10 ?_
  refine cCond rfl (fun h => by cases h) (fun _ => ?_)
  refine cSeq <| cReg rfl <| rOk (x := vB false) rfl rfl (okBo ((eq_tL [99, 121, 99, 108, 101, 115] [115, 116, 111, 114, 101, 115]).trans (by decide))) <| oR 1 rfl <| rE 12 ?_
  refine cCond rfl (fun h => by cases h) (fun _ => ?_)
  refine cSeq <| cReg rfl <| rOk (x := vB false) rfl rfl (okBo ((eq_tL [99, 121, 99, 108, 101, 115] [115, 108, 111, 116, 115]).trans (by decide))) <| oR 1 rfl <| rE 14 ?_
  refine cCond rfl (fun h => by cases h) (fun _ => ?_)
  refine cSeq <| cReg rfl <| rOk (x := vB false) rfl rfl (okBo ((eq_tL [99, 121, 99, 108, 101, 115] [115, 101, 116, 115]).trans (by decide))) <| oR 1 rfl <| rE 16 ?_
  refine cCond rfl (fun h => by cases h) (fun _ => ?_)
  refine cSeq <| cReg rfl <| rOk (x := vB false) rfl rfl (okBo ((eq_tL [99, 121, 99, 108, 101, 115] [119, 97, 121, 115]).trans (by decide))) <| oR 1 rfl <| rE 18 ?_
  refine cCond rfl (fun h => by cases h) (fun _ => ?_)
  refine cSeq <| cReg rfl <| rOk (x := vB true) rfl rfl (okBo ((eq_tL [99, 121, 99, 108, 101, 115] [99, 121, 99, 108, 101, 115]).trans (by decide))) <| oR 1 rfl <| rE 20 ?_
  refine cCond rfl (fun _ => ?_) (fun h => by cases h)
  refine cSeq <| cReg rfl <| oR 4 rfl <| rE 24 <| cRet ?_
  exact finH (rs := [.ptr 0 13]) rfl (r := .ptr 0 13) (σ := fun z => z) ⟨rfl, rfl⟩ rfl (weak_ret (fun z => z) rfl rfl wH rfl)
theorem numAt_13 {p : ScPlan} {a b c : Bool} {n : Nat} {K : AH} {s2 : Nat} (hb : Nat.blt n s2 = true) (hK : K n = some (.box (planL p a b c))) :
    HSem C0.P C0.G 45 [.ptr n 0, vI 13] K s2 (fun x h' => x = .ptr n 13 ∧ h' = upd K n (some (.box (planL p a b c)))) :=
  (hNum_13 p a b c).frame1 n K s2 (Nat.le_of_ble_eq_true hb) rfl hK rfl
end Go.Proofs.YtpefnjbmbfdmmaaDoor
