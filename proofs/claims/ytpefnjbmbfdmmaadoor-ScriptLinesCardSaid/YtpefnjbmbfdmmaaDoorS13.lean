/- A plan's text has fourteen lines; with one taken away, or one put behind, it is none (P25.1). -/
import Derived.Deep.CutBlock
import Derived.Test.YtpefnjbmbfdmmaaDoorS7
import Derived.Test.YtpefnjbmbfdmmaaDoorS12
namespace Go.Proofs.YtpefnjbmbfdmmaaDoor
set_option maxRecDepth 100000
set_option maxHeartbeats 4000000
open Go.RowKit Go.Lib
theorem dWr_1 (p : ScPlan) (a b c : Bool) (hp : p.ok) (hn0 : 0 ≤ p.width) (hn6 : p.width ≤ 600) : DCall C0 34 [.agg (planL p a b c), vI 1] (.sl 1 [rowS (itoa p.width)] true) := by
  refine DCall.intro c0Ok Tryd.func34 rfl rfl (by kernel_rfl) rfl <| cSeq <| cReg rfl <| rAl 0 rfl rfl <| oR 1 rfl <| rE 2 <| cSeq <| cSeq <| cReg rfl <| oR 1 rfl <| rHCall (args := [.ptr 0 0, vN 1]) (d := 16) _ rfl rfl rfl (numAt_1 (by decide) rfl) ?_
  rintro _ _ ⟨rfl, rfl⟩
  refine oR 1 rfl <| rE 5 <| cSeq <| cReg rfl <| oR 1 rfl <| rOk (x := vB true) rfl rfl rfl <| rE 7 ?_
  refine cCond rfl (fun _ => ?_) (fun h => by cases h)
  refine cSeq <| cReg rfl <| oR 3 rfl <| rCl rfl (.inl rfl) (dItoa p.width hn0 hn6) <| rOk (x := .sl 1 ([[vS (itoa p.width)]]) true) rfl rfl rfl <| oR 1 rfl <| rE 13 <| cRet <| finTA rfl trivial rfl ?_
  first | rfl | (show AV.sl 1 ([[vS (itoa p.width)]]) true = _; rfl)
theorem dWr_2 (p : ScPlan) (a b c : Bool) (hp : p.ok) (hn0 : 0 ≤ p.rob) (hn6 : p.rob ≤ 600) : DCall C0 34 [.agg (planL p a b c), vI 2] (.sl 1 [rowS (itoa p.rob)] true) := by
  refine DCall.intro c0Ok Tryd.func34 rfl rfl (by kernel_rfl) rfl <| cSeq <| cReg rfl <| rAl 0 rfl rfl <| oR 1 rfl <| rE 2 <| cSeq <| cSeq <| cReg rfl <| oR 1 rfl <| rHCall (args := [.ptr 0 0, vN 2]) (d := 16) _ rfl rfl rfl (numAt_2 (by decide) rfl) ?_
  rintro _ _ ⟨rfl, rfl⟩
  refine oR 1 rfl <| rE 5 <| cSeq <| cReg rfl <| oR 1 rfl <| rOk (x := vB true) rfl rfl rfl <| rE 7 ?_
  refine cCond rfl (fun _ => ?_) (fun h => by cases h)
  refine cSeq <| cReg rfl <| oR 3 rfl <| rCl rfl (.inl rfl) (dItoa p.rob hn0 hn6) <| rOk (x := .sl 1 ([[vS (itoa p.rob)]]) true) rfl rfl rfl <| oR 1 rfl <| rE 13 <| cRet <| finTA rfl trivial rfl ?_
  first | rfl | (show AV.sl 1 ([[vS (itoa p.rob)]]) true = _; rfl)
theorem dWr_3 (p : ScPlan) (a b c : Bool) (hp : p.ok) (hn0 : 0 ≤ p.queue) (hn6 : p.queue ≤ 600) : DCall C0 34 [.agg (planL p a b c), vI 3] (.sl 1 [rowS (itoa p.queue)] true) := by
  refine DCall.intro c0Ok Tryd.func34 rfl rfl (by kernel_rfl) rfl <| cSeq <| cReg rfl <| rAl 0 rfl rfl <| oR 1 rfl <| rE 2 <| cSeq <| cSeq <| cReg rfl <| oR 1 rfl <| rHCall (args := [.ptr 0 0, vN 3]) (d := 16) _ rfl rfl rfl (numAt_3 (by decide) rfl) ?_
  rintro _ _ ⟨rfl, rfl⟩
  refine oR 1 rfl <| rE 5 <| cSeq <| cReg rfl <| oR 1 rfl <| rOk (x := vB true) rfl rfl rfl <| rE 7 ?_
  refine cCond rfl (fun _ => ?_) (fun h => by cases h)
  refine cSeq <| cReg rfl <| oR 3 rfl <| rCl rfl (.inl rfl) (dItoa p.queue hn0 hn6) <| rOk (x := .sl 1 ([[vS (itoa p.queue)]]) true) rfl rfl rfl <| oR 1 rfl <| rE 13 <| cRet <| finTA rfl trivial rfl ?_
  first | rfl | (show AV.sl 1 ([[vS (itoa p.queue)]]) true = _; rfl)
theorem dWr_4 (p : ScPlan) (a b c : Bool) (hp : p.ok) (hn0 : 0 ≤ p.stores) (hn6 : p.stores ≤ 600) : DCall C0 34 [.agg (planL p a b c), vI 4] (.sl 1 [rowS (itoa p.stores)] true) := by
  refine DCall.intro c0Ok Tryd.func34 rfl rfl (by kernel_rfl) rfl <| cSeq <| cReg rfl <| rAl 0 rfl rfl <| oR 1 rfl <| rE 2 <| cSeq <| cSeq <| cReg rfl <| oR 1 rfl <| rHCall (args := [.ptr 0 0, vN 4]) (d := 16) _ rfl rfl rfl (numAt_4 (by decide) rfl) ?_
  rintro _ _ ⟨rfl, rfl⟩
  refine oR 1 rfl <| rE 5 <| cSeq <| cReg rfl <| oR 1 rfl <| rOk (x := vB true) rfl rfl rfl <| rE 7 ?_
  refine cCond rfl (fun _ => ?_) (fun h => by cases h)
  refine cSeq <| cReg rfl <| oR 3 rfl <| rCl rfl (.inl rfl) (dItoa p.stores hn0 hn6) <| rOk (x := .sl 1 ([[vS (itoa p.stores)]]) true) rfl rfl rfl <| oR 1 rfl <| rE 13 <| cRet <| finTA rfl trivial rfl ?_
  first | rfl | (show AV.sl 1 ([[vS (itoa p.stores)]]) true = _; rfl)
theorem dWr_5 (p : ScPlan) (a b c : Bool) (hp : p.ok) (hn0 : 0 ≤ p.slots) (hn6 : p.slots ≤ 600) : DCall C0 34 [.agg (planL p a b c), vI 5] (.sl 1 [rowS (itoa p.slots)] true) := by
  refine DCall.intro c0Ok Tryd.func34 rfl rfl (by kernel_rfl) rfl <| cSeq <| cReg rfl <| rAl 0 rfl rfl <| oR 1 rfl <| rE 2 <| cSeq <| cSeq <| cReg rfl <| oR 1 rfl <| rHCall (args := [.ptr 0 0, vN 5]) (d := 16) _ rfl rfl rfl (numAt_5 (by decide) rfl) ?_
  rintro _ _ ⟨rfl, rfl⟩
  refine oR 1 rfl <| rE 5 <| cSeq <| cReg rfl <| oR 1 rfl <| rOk (x := vB true) rfl rfl rfl <| rE 7 ?_
  refine cCond rfl (fun _ => ?_) (fun h => by cases h)
  refine cSeq <| cReg rfl <| oR 3 rfl <| rCl rfl (.inl rfl) (dItoa p.slots hn0 hn6) <| rOk (x := .sl 1 ([[vS (itoa p.slots)]]) true) rfl rfl rfl <| oR 1 rfl <| rE 13 <| cRet <| finTA rfl trivial rfl ?_
  first | rfl | (show AV.sl 1 ([[vS (itoa p.slots)]]) true = _; rfl)
theorem dWr_6 (p : ScPlan) (a b c : Bool) (hp : p.ok) (hn0 : 0 ≤ p.sets) (hn6 : p.sets ≤ 600) : DCall C0 34 [.agg (planL p a b c), vI 6] (.sl 1 [rowS (itoa p.sets)] true) := by
  refine DCall.intro c0Ok Tryd.func34 rfl rfl (by kernel_rfl) rfl <| cSeq <| cReg rfl <| rAl 0 rfl rfl <| oR 1 rfl <| rE 2 <| cSeq <| cSeq <| cReg rfl <| oR 1 rfl <| rHCall (args := [.ptr 0 0, vN 6]) (d := 16) _ rfl rfl rfl (numAt_6 (by decide) rfl) ?_
  rintro _ _ ⟨rfl, rfl⟩
  refine oR 1 rfl <| rE 5 <| cSeq <| cReg rfl <| oR 1 rfl <| rOk (x := vB true) rfl rfl rfl <| rE 7 ?_
  refine cCond rfl (fun _ => ?_) (fun h => by cases h)
  refine cSeq <| cReg rfl <| oR 3 rfl <| rCl rfl (.inl rfl) (dItoa p.sets hn0 hn6) <| rOk (x := .sl 1 ([[vS (itoa p.sets)]]) true) rfl rfl rfl <| oR 1 rfl <| rE 13 <| cRet <| finTA rfl trivial rfl ?_
  first | rfl | (show AV.sl 1 ([[vS (itoa p.sets)]]) true = _; rfl)
theorem dWr_7 (p : ScPlan) (a b c : Bool) (hp : p.ok) (hn0 : 0 ≤ p.ways) (hn6 : p.ways ≤ 600) : DCall C0 34 [.agg (planL p a b c), vI 7] (.sl 1 [rowS (itoa p.ways)] true) := by
  refine DCall.intro c0Ok Tryd.func34 rfl rfl (by kernel_rfl) rfl <| cSeq <| cReg rfl <| rAl 0 rfl rfl <| oR 1 rfl <| rE 2 <| cSeq <| cSeq <| cReg rfl <| oR 1 rfl <| rHCall (args := [.ptr 0 0, vN 7]) (d := 16) _ rfl rfl rfl (numAt_7 (by decide) rfl) ?_
  rintro _ _ ⟨rfl, rfl⟩
  refine oR 1 rfl <| rE 5 <| cSeq <| cReg rfl <| oR 1 rfl <| rOk (x := vB true) rfl rfl rfl <| rE 7 ?_
  refine cCond rfl (fun _ => ?_) (fun h => by cases h)
  refine cSeq <| cReg rfl <| oR 3 rfl <| rCl rfl (.inl rfl) (dItoa p.ways hn0 hn6) <| rOk (x := .sl 1 ([[vS (itoa p.ways)]]) true) rfl rfl rfl <| oR 1 rfl <| rE 13 <| cRet <| finTA rfl trivial rfl ?_
  first | rfl | (show AV.sl 1 ([[vS (itoa p.ways)]]) true = _; rfl)
theorem dWr_13 (p : ScPlan) (a b c : Bool) (hp : p.ok) (hn0 : 0 ≤ p.cycles) (hn6 : p.cycles ≤ 600) : DCall C0 34 [.agg (planL p a b c), vI 13] (.sl 1 [rowS (itoa p.cycles)] true) := by
  refine DCall.intro c0Ok Tryd.func34 rfl rfl (by kernel_rfl) rfl <| cSeq <| cReg rfl <| rAl 0 rfl rfl <| oR 1 rfl <| rE 2 <| cSeq <| cSeq <| cReg rfl <| oR 1 rfl <| rHCall (args := [.ptr 0 0, vN 13]) (d := 16) _ rfl rfl rfl (numAt_13 (by decide) rfl) ?_
  rintro _ _ ⟨rfl, rfl⟩
  refine oR 1 rfl <| rE 5 <| cSeq <| cReg rfl <| oR 1 rfl <| rOk (x := vB true) rfl rfl rfl <| rE 7 ?_
  refine cCond rfl (fun _ => ?_) (fun h => by cases h)
  refine cSeq <| cReg rfl <| oR 3 rfl <| rCl rfl (.inl rfl) (dItoa p.cycles hn0 hn6) <| rOk (x := .sl 1 ([[vS (itoa p.cycles)]]) true) rfl rfl rfl <| oR 1 rfl <| rE 13 <| cRet <| finTA rfl trivial rfl ?_
  first | rfl | (show AV.sl 1 ([[vS (itoa p.cycles)]]) true = _; rfl)
theorem dWr_0 (p : ScPlan) (a b c : Bool) (hp : p.ok) (hR0 : 0 ≤ p.mode ∧ p.mode ≤ 2) : DCall C0 34 [.agg (planL p a b c), vI 0] (.sl 1 [rowS (modeW p.mode)] false) := by
  refine DCall.intro c0Ok Tryd.func34 rfl rfl (by kernel_rfl) rfl <| cSeq <| cReg rfl <| rAl 0 rfl rfl <| oR 1 rfl <| rE 2 <| cSeq <| cSeq <| cReg rfl <| oR 1 rfl <| rHCall (args := [.ptr 0 0, vN 0]) (d := 16) _ rfl rfl rfl (numAt_0 (by decide) rfl) ?_
  rintro _ _ ⟨rfl, rfl⟩
  refine oR 1 rfl <| rE 5 <| cSeq <| cReg rfl <| oR 1 rfl <| rOk (x := vB false) rfl rfl rfl <| rE 7 ?_
  refine cCond rfl (fun h => by cases h) (fun _ => ?_)
  refine cSkip <| cSeq <| cReg rfl <| oR 1 rfl <| rE 8 <| cSeq <| cSeq <| cReg rfl <| oR 1 rfl <| rCl rfl (.inl rfl) (dName_0) <| rE 10 <| cBlock <| cSeq <| cReg rfl <| rOk (x := vB true) rfl rfl (okBo ((eq_tL [109, 111, 100, 101] [109, 111, 100, 101]).trans (by decide))) <| oR 1 rfl ?_
  refine rE 12 ?_
  refine cCond rfl (fun _ => ?_) (fun h => by cases h)
  refine cReg rfl <| oR 4 rfl <| rCl rfl (.inl rfl) (dMode p.mode hR0) <| rOk (x := .sl 1 ([[vS (modeW p.mode)]]) true) rfl rfl rfl <| rFx (x := .osl 18 0 1 false) (h' := upd _ 18 (some (.arr (([modeW p.mode]).map rowS) 1))) rfl rfl (app_nil omT) (⟨rfl, by exact omT, by exact omT, trivial⟩) <| oR 1 rfl <| rE 20 <| cSeq <| cReg rfl <| oR 2 rfl <| rE 22 <| cRet <| finTA rfl (by show 0 + 1 ≤ (([modeW p.mode]).map rowS).length; exact omT) rfl ?_
  first | rfl | (show AV.sl 1 (List.take 1 (List.drop 0 (([modeW p.mode]).map rowS))) false = _; rfl)
theorem dWr_8t (p : ScPlan) (a b c : Bool) (hp : p.ok) (hT : p.tables = true) : DCall C0 34 [.agg (planL p a b c), vI 8] (.sl 1 [rowS (tableW true)] true) := by
  refine DCall.intro c0Ok Tryd.func34 rfl rfl (by kernel_rfl) rfl <| cSeq <| cReg rfl <| rAl 0 rfl rfl <| oR 1 rfl <| rE 2 <| cSeq <| cSeq <| cReg rfl <| oR 1 rfl <| rHCall (args := [.ptr 0 0, vN 8]) (d := 16) _ rfl rfl rfl (numAt_8 (by decide) rfl) ?_
  rintro _ _ ⟨rfl, rfl⟩
  refine oR 1 rfl <| rE 5 <| cSeq <| cReg rfl <| oR 1 rfl <| rOk (x := vB false) rfl rfl rfl <| rE 7 ?_
  refine cCond rfl (fun h => by cases h) (fun _ => ?_)
  refine cSkip <| cSeq <| cReg rfl <| oR 1 rfl <| rE 8 <| cSeq <| cSeq <| cReg rfl <| oR 1 rfl <| rCl rfl (.inl rfl) (dName_8) <| rE 10 <| cBlock <| cSeq <| cReg rfl <| rOk (x := vB false) rfl rfl (okBo ((eq_tL [103, 117, 101, 115, 115] [109, 111, 100, 101]).trans (by decide))) <| oR 1 rfl ?_
  refine rE 12 ?_
  refine cCond rfl (fun h => by cases h) (fun _ => ?_)
  refine cSeq <| cReg rfl <| rOk (x := vB true) rfl rfl (okBo ((eq_tL [103, 117, 101, 115, 115] [103, 117, 101, 115, 115]).trans (by decide))) <| oR 1 rfl <| rE 14 ?_
  refine cCond rfl (fun _ => ?_) (fun h => by cases h)
  refine cSeq <| cSeq <| cReg rfl <| oR 3 rfl <| rE 17 ?_
  refine cCond rfl (fun _ => ?_) (fun h1 => by rw [hT] at h1; cases h1)
  refine cSeq <| cReg rfl <| rOk (x := .sl 1 ([[.v (.string (⟨#[116, 97, 98, 108, 101, 115]⟩ : ByteArray))]]) true) rfl rfl rfl <| oR 1 rfl <| rE 19 <| cRet <| finTA rfl trivial rfl ?_
  first | rfl | (show AV.sl 1 ([[.v (.string (⟨#[116, 97, 98, 108, 101, 115]⟩ : ByteArray))]]) true = _; rfl)
theorem dWr_8f (p : ScPlan) (a b c : Bool) (hp : p.ok) (hT : p.tables = false) : DCall C0 34 [.agg (planL p a b c), vI 8] (.sl 1 [rowS (tableW false)] false) := by
  refine DCall.intro c0Ok Tryd.func34 rfl rfl (by kernel_rfl) rfl <| cSeq <| cReg rfl <| rAl 0 rfl rfl <| oR 1 rfl <| rE 2 <| cSeq <| cSeq <| cReg rfl <| oR 1 rfl <| rHCall (args := [.ptr 0 0, vN 8]) (d := 16) _ rfl rfl rfl (numAt_8 (by decide) rfl) ?_
  rintro _ _ ⟨rfl, rfl⟩
  refine oR 1 rfl <| rE 5 <| cSeq <| cReg rfl <| oR 1 rfl <| rOk (x := vB false) rfl rfl rfl <| rE 7 ?_
  refine cCond rfl (fun h => by cases h) (fun _ => ?_)
  refine cSkip <| cSeq <| cReg rfl <| oR 1 rfl <| rE 8 <| cSeq <| cSeq <| cReg rfl <| oR 1 rfl <| rCl rfl (.inl rfl) (dName_8) <| rE 10 <| cBlock <| cSeq <| cReg rfl <| rOk (x := vB false) rfl rfl (okBo ((eq_tL [103, 117, 101, 115, 115] [109, 111, 100, 101]).trans (by decide))) <| oR 1 rfl ?_
  refine rE 12 ?_
  refine cCond rfl (fun h => by cases h) (fun _ => ?_)
  refine cSeq <| cReg rfl <| rOk (x := vB true) rfl rfl (okBo ((eq_tL [103, 117, 101, 115, 115] [103, 117, 101, 115, 115]).trans (by decide))) <| oR 1 rfl <| rE 14 ?_
  refine cCond rfl (fun _ => ?_) (fun h => by cases h)
  refine cSeq <| cSeq <| cReg rfl <| oR 3 rfl <| rE 17 ?_
  refine cCond rfl (fun h1 => by rw [hT] at h1; cases h1) (fun _ => ?_)
  refine cSkip <| cReg rfl <| oR 1 rfl <| rOk (x := .sl 1 ([[.v (.string (⟨#[116, 97, 112, 101]⟩ : ByteArray))]]) true) rfl rfl rfl <| rFx (x := .osl 19 0 1 false) (h' := upd _ 19 (some (.arr (([[116, 97, 112, 101]]).map rowS) 1))) rfl rfl (app_nil omT) (⟨rfl, by exact omT, by exact omT, trivial⟩) <| oR 1 rfl <| rE 21 <| cSeq <| cReg rfl <| oR 2 rfl <| rE 23 <| cRet <| finTA rfl (by show 0 + 1 ≤ (([[116, 97, 112, 101]]).map rowS).length; exact omT) rfl ?_
  first | rfl | (show AV.sl 1 (List.take 1 (List.drop 0 (([[116, 97, 112, 101]]).map rowS))) false = _; rfl)
theorem app_it {α : Type} {f : α → W} {l : List α} {k : Nat} {x : α} (h : l[k]? = some x) : (l.take k).map f ++ [f x] = (l.take (k + 1)).map f := by
  rw [List.take_add_one, h, List.map_append]; rfl
theorem dWr_9E (p : ScPlan) (a b c : Bool) (hp : p.ok) (hT : p.lat.length = 0) : DCall C0 34 [.agg (planL p a b c), vI 9] (.sl 0 [] true) := by
  refine DCall.intro c0Ok Tryd.func34 rfl rfl (by kernel_rfl) rfl ?_
  have hbl := hp.lat
  refine cSeq <| cReg rfl <| rAl 0 rfl rfl <| oR 1 rfl <| rE 2 <| cSeq <| cSeq <| cReg rfl <| oR 1 rfl <| rHCall (args := [.ptr 0 0, vN 9]) (d := 16) _ rfl rfl rfl (numAt_9 (by decide) rfl) ?_
  rintro _ _ ⟨rfl, rfl⟩
  refine oR 1 rfl <| rE 5 <| cSeq <| cReg rfl <| oR 1 rfl <| rOk (x := vB false) rfl rfl rfl <| rE 7 ?_
  refine cCond rfl (fun h => by cases h) (fun _ => ?_)
  refine cSkip <| cSeq <| cReg rfl <| oR 1 rfl <| rE 8 <| cSeq <| cSeq <| cReg rfl <| oR 1 rfl <| rCl rfl (.inl rfl) (dName_9) <| rE 10 <| cBlock <| cSeq <| cReg rfl <| rOk (x := vB false) rfl rfl (okBo ((eq_tL [108, 97, 116] [109, 111, 100, 101]).trans (by decide))) <| oR 1 rfl ?_
  refine rE 12 ?_
  refine cCond rfl (fun h => by cases h) (fun _ => ?_)
  refine cSeq <| cReg rfl <| rOk (x := vB false) rfl rfl (okBo ((eq_tL [108, 97, 116] [103, 117, 101, 115, 115]).trans (by decide))) <| oR 1 rfl <| rE 14 ?_
  refine cCond rfl (fun h => by cases h) (fun _ => ?_)
  refine cSeq <| cReg rfl <| rOk (x := vB true) rfl rfl (okBo ((eq_tL [108, 97, 116] [108, 97, 116]).trans (by decide))) <| oR 1 rfl <| rE 16 ?_
  refine cCond rfl (fun _ => ?_) (fun h => by cases h)
  refine cSeq <| cReg rfl <| oR 3 rfl <| rOk (x := vN p.lat.length) rfl rfl (lenMap rowI p.lat) <| oR 1 rfl <| rE 21 <| cBlock <| cLoop (κ := Nat) (fun k => ⟨slotsF [(2, .ptr 0 0), (4, .sl 0 ([]) true), (18, vB false), (25, .v (.string (⟨#[108, 97, 116]⟩ : ByteArray))), (26, vB false), (35, vB false), (44, vB true), (48, .sl 1 (p.lat.map rowI) a), (49, vN p.lat.length), (6, .sl 0 ([]) true), (50, vN k)], heapF [(0, .box [vI p.mode, vI p.width, vI p.rob, vI p.queue, vI p.stores, vI p.slots, vI p.sets, vI p.ways, .sl 1 (p.lat.map rowI) a, vB p.tables, .sl 1 (p.tape.map rowU) b, .sl 1 (p.prog.map rowU) c, vS p.mem, vI p.cycles])], 21⟩) (fun k => k ≤ p.lat.length) (fun k => p.lat.length - k) 0 (fun s => s) (Weak.of_lists (fun s => s) wT wH rfl) (Nat.zero_le _) ?_
  intro k hk
  have hkn : k ≤ p.lat.length := hk
  have hkB : k ≤ 900000 := by omega
  refine cSeq <| cReg rfl <| rOk (x := vB (decide (k < p.lat.length))) rfl rfl (okB (ltN _ _)) <| rE 22 <| cSeq ?_
  refine cCond rfl (fun h1 => by exact absurd (of_decide_eq_true h1) (by omega)) (fun _ => ?_)
  refine cExit <| cSeq <| cReg rfl <| oR 2 rfl <| rE 24 <| cRet ?_
  exact finTA rfl trivial rfl rfl
theorem dWr_9O (p : ScPlan) (a b c : Bool) (hp : p.ok) (hn : ∀ x ∈ p.lat, 0 ≤ x ∧ x ≤ 600) (hT : ¬ p.lat.length = 0) : DCall C0 34 [.agg (planL p a b c), vI 9] (.sl 1 ((p.lat.map itoa).map rowS) false) := by
  refine DCall.intro c0Ok Tryd.func34 rfl rfl (by kernel_rfl) rfl ?_
  have hbl := hp.lat
  refine cSeq <| cReg rfl <| rAl 0 rfl rfl <| oR 1 rfl <| rE 2 <| cSeq <| cSeq <| cReg rfl <| oR 1 rfl <| rHCall (args := [.ptr 0 0, vN 9]) (d := 16) _ rfl rfl rfl (numAt_9 (by decide) rfl) ?_
  rintro _ _ ⟨rfl, rfl⟩
  refine oR 1 rfl <| rE 5 <| cSeq <| cReg rfl <| oR 1 rfl <| rOk (x := vB false) rfl rfl rfl <| rE 7 ?_
  refine cCond rfl (fun h => by cases h) (fun _ => ?_)
  refine cSkip <| cSeq <| cReg rfl <| oR 1 rfl <| rE 8 <| cSeq <| cSeq <| cReg rfl <| oR 1 rfl <| rCl rfl (.inl rfl) (dName_9) <| rE 10 <| cBlock <| cSeq <| cReg rfl <| rOk (x := vB false) rfl rfl (okBo ((eq_tL [108, 97, 116] [109, 111, 100, 101]).trans (by decide))) <| oR 1 rfl ?_
  refine rE 12 ?_
  refine cCond rfl (fun h => by cases h) (fun _ => ?_)
  refine cSeq <| cReg rfl <| rOk (x := vB false) rfl rfl (okBo ((eq_tL [108, 97, 116] [103, 117, 101, 115, 115]).trans (by decide))) <| oR 1 rfl <| rE 14 ?_
  refine cCond rfl (fun h => by cases h) (fun _ => ?_)
  refine cSeq <| cReg rfl <| rOk (x := vB true) rfl rfl (okBo ((eq_tL [108, 97, 116] [108, 97, 116]).trans (by decide))) <| oR 1 rfl <| rE 16 ?_
  refine cCond rfl (fun _ => ?_) (fun h => by cases h)
  refine cSeq <| cReg rfl <| oR 3 rfl <| rOk (x := vN p.lat.length) rfl rfl (lenMap rowI p.lat) <| oR 1 rfl <| rE 21 <| cBlock <| cLoop (κ := Nat × Bool) (fun z_ => match z_ with | (k, false) => ⟨slotsF [(2, .ptr 0 0), (4, .sl 0 ([]) true), (18, vB false), (25, .v (.string (⟨#[108, 97, 116]⟩ : ByteArray))), (26, vB false), (35, vB false), (44, vB true), (48, .sl 1 (p.lat.map rowI) a), (49, vN p.lat.length), (50, vN k), (6, .sl 0 ([]) true)], heapF [(0, .box [vI p.mode, vI p.width, vI p.rob, vI p.queue, vI p.stores, vI p.slots, vI p.sets, vI p.ways, .sl 1 (p.lat.map rowI) a, vB p.tables, .sl 1 (p.tape.map rowU) b, .sl 1 (p.prog.map rowU) c, vS p.mem, vI p.cycles])], 22⟩ | (k, true) => ⟨slotsF [(2, .ptr 0 0), (4, .sl 0 ([]) true), (18, vB false), (25, .v (.string (⟨#[108, 97, 116]⟩ : ByteArray))), (26, vB false), (35, vB false), (44, vB true), (48, .sl 1 (p.lat.map rowI) a), (49, vN p.lat.length), (50, vN k), (6, .osl 21 0 (((p.lat.take k).map itoa).length) false)], heapF [(0, .box [vI p.mode, vI p.width, vI p.rob, vI p.queue, vI p.stores, vI p.slots, vI p.sets, vI p.ways, .sl 1 (p.lat.map rowI) a, vB p.tables, .sl 1 (p.tape.map rowU) b, .sl 1 (p.prog.map rowU) c, vS p.mem, vI p.cycles]), (21, .arr (((p.lat.take k).map itoa).map rowS) 1)], 22⟩) (fun z_ => match z_ with | (k, false) => (k ≤ p.lat.length ∧ (p.lat.take k).map itoa = []) | (k, true) => (k ≤ p.lat.length)) (fun z_ => p.lat.length - z_.1) (0, false) (fun s => s) (Weak.of_lists (fun s => s) wT wH rfl) (⟨Nat.zero_le _, (show (p.lat.take 0).map itoa = [] from rfl)⟩) ?_
  intro z_ hk
  obtain ⟨k, b_⟩ := z_; cases b_
  · have hk_ := hk
    have hnn : k ≤ p.lat.length := hk_.1
    have hkB : k ≤ 1000000 := by omega
    have hNk : (p.lat.take k).map itoa = [] := hk_.2
    refine cSeq <| cReg rfl <| rOk (x := vB (decide (k < p.lat.length))) rfl rfl (okB (ltN _ _)) <| rE 23 <| cSeq ?_
    refine cCond rfl (fun h1 => ?_) (fun h1 => ?_)
    · have h1p := of_decide_eq_true h1
      refine cSkip <| cSeq <| cBlock <| cSeq <| cReg rfl ?_
      obtain ⟨x, hx⟩ : ∃ y_, p.lat[k]? = some y_ := ⟨_, List.getElem?_eq_getElem omT⟩
      refine rIdx (rowI x) (x := .dp 1 0 (rowI x)) rfl rfl rfl (⟨Int.natCast_nonneg _, getM hx⟩) rfl <| oR 2 rfl <| rE 26 <| cReg rfl <| oR 2 rfl <| rCl rfl (.inl rfl) (dItoa x (hn x (List.mem_of_getElem? hx)).1 (hn x (List.mem_of_getElem? hx)).2) <| rOk (x := .sl 1 ([[vS (itoa x)]]) true) rfl rfl rfl <| rFx (x := .osl 30 0 1 false) (h' := upd _ 30 (some (.arr (([itoa x]).map rowS) 1))) rfl rfl (app_nil omT) (⟨rfl, by exact omT, by exact omT, trivial⟩) <| oR 1 rfl <| rE 32 <| cReg rfl ?_
      have b1 : k + 1 ≤ 1000001 := Nat.add_le_add hkB (Nat.le_refl 1)
      refine rOk (x := vN (k + 1)) rfl rfl (okI (wrapI64 b1 rfl)) <| oR 1 rfl <| rE 34 ?_
      refine ⟨(k + 1, true), fun i => match i with | 21 => 30 | i => i, Weak.of_lists (fun i => match i with | 21 => 30 | i => i) ⟨⟨rfl, rfl⟩, ⟨rfl, rfl⟩, ⟨rfl, rfl⟩, ⟨rfl, rfl⟩, ⟨rfl, rfl⟩, ⟨rfl, rfl⟩, ⟨rfl, rfl⟩, ⟨rfl, rfl⟩, ⟨rfl, rfl⟩, ⟨rfl, rfl⟩, ⟨(show AV.osl 30 0 (1) false = AV.osl 30 0 ((p.lat.take (k + 1)).map itoa).length false from by rw [← (show [itoa x] = (p.lat.take (k + 1)).map itoa from (by rw [← (app_it hx), hNk]; rfl))]; first | done | rfl | (congr 1 <;> (first | exact omT | simp))), rfl⟩, trivial⟩ ⟨⟨rfl, rfl, rfl⟩, ⟨rfl, (congrArg (fun z : List (List UInt8) => some (Blk.arr (z.map rowS) 1)) (show [itoa x] = (p.lat.take (k + 1)).map itoa from (by rw [← (app_it hx), hNk]; rfl))), rfl⟩, trivial⟩ rfl, by omega, by show p.lat.length - (k + 1) < p.lat.length - k; omega⟩
    · have h1p := of_decide_eq_false h1
      refine cExit <| cSeq <| cReg rfl <| oR 2 rfl <| rE 25 <| cRet ?_
      exact absurd (by have q := congrArg List.length hNk; rw [List.length_map, List.length_take] at q; have q2 : min k p.lat.length = 0 := q; omega : p.lat.length = 0) hT
  · have hk_ := hk
    have hnn : k ≤ p.lat.length := hk_
    have hkB : k ≤ 1000000 := by omega
    have habk : ((p.lat.take k).map itoa).length ≤ 900000 := (by rw [List.length_map, List.length_take]; omega)
    refine cSeq <| cReg rfl <| rOk (x := vB (decide (k < p.lat.length))) rfl rfl (okB (ltN _ _)) <| rE 23 <| cSeq ?_
    refine cCond rfl (fun h2 => ?_) (fun h2 => ?_)
    · have h2p := of_decide_eq_true h2
      refine cSkip <| cSeq <| cBlock <| cSeq <| cReg rfl ?_
      obtain ⟨x, hx⟩ : ∃ y_, p.lat[k]? = some y_ := ⟨_, List.getElem?_eq_getElem omT⟩
      refine rIdx (rowI x) (x := .dp 1 0 (rowI x)) rfl rfl rfl (⟨Int.natCast_nonneg _, getM hx⟩) rfl <| oR 2 rfl <| rE 26 <| cReg rfl <| oR 2 rfl <| rCl rfl (.inl rfl) (dItoa x (hn x (List.mem_of_getElem? hx)).1 (hn x (List.mem_of_getElem? hx)).2) <| rOk (x := .sl 1 ([[vS (itoa x)]]) true) rfl rfl rfl <| rFx (x := .osl 30 0 (((p.lat.take k).map itoa).length + 1) false) (h' := upd (upd _ 21 none) 30 (some (.arr ((((p.lat.take k).map itoa) ++ ([itoa x])).map rowS) 1))) rfl rfl (app_own rowS ((p.lat.take k).map itoa) ([itoa x]) omT omT) (⟨by exact omT, by exact omT, trivial⟩) <| oR 1 rfl <| rE 32 <| cReg rfl ?_
      have b2 : k + 1 ≤ 1000001 := Nat.add_le_add hkB (Nat.le_refl 1)
      refine rOk (x := vN (k + 1)) rfl rfl (okI (wrapI64 b2 rfl)) <| oR 1 rfl <| rE 34 ?_
      refine ⟨(k + 1, true), fun i => match i with | 21 => 30 | i => i, Weak.of_lists (fun i => match i with | 21 => 30 | i => i) ⟨⟨rfl, rfl⟩, ⟨rfl, rfl⟩, ⟨rfl, rfl⟩, ⟨rfl, rfl⟩, ⟨rfl, rfl⟩, ⟨rfl, rfl⟩, ⟨rfl, rfl⟩, ⟨rfl, rfl⟩, ⟨rfl, rfl⟩, ⟨rfl, rfl⟩, ⟨(show AV.osl 30 0 (((p.lat.take k).map itoa).length + 1) false = AV.osl 30 0 ((p.lat.take (k + 1)).map itoa).length false from by rw [← (show ((p.lat.take k).map itoa) ++ ([itoa x]) = (p.lat.take (k + 1)).map itoa from app_it hx)]; first | done | rfl | (congr 1 <;> (first | exact omT | simp))), rfl⟩, trivial⟩ ⟨⟨rfl, rfl, rfl⟩, ⟨rfl, (congrArg (fun z : List (List UInt8) => some (Blk.arr (z.map rowS) 1)) (show ((p.lat.take k).map itoa) ++ ([itoa x]) = (p.lat.take (k + 1)).map itoa from app_it hx)), rfl⟩, trivial⟩ rfl, by omega, by show p.lat.length - (k + 1) < p.lat.length - k; omega⟩
    · have h2p := of_decide_eq_false h2
      refine cExit <| cSeq <| cReg rfl <| oR 2 rfl <| rE 25 <| cRet ?_
      have hT2 : p.lat.take k = p.lat := List.take_of_length_le (by omega)
      refine finTA rfl (by show 0 + (((p.lat.take k).map itoa).length) ≤ (((p.lat.take k).map itoa).map rowS).length; exact omT) rfl ?_
      show AV.sl 1 (List.take (((p.lat.take k).map itoa).length) (List.drop 0 (((p.lat.take k).map itoa).map rowS))) false = _
      rw [List.drop_zero, List.take_of_length_le (by simp), hT2]
theorem dWr_10E (p : ScPlan) (a b c : Bool) (hp : p.ok) (hT : p.tape.length = 0) : DCall C0 34 [.agg (planL p a b c), vI 10] (.sl 0 [] true) := by
  refine DCall.intro c0Ok Tryd.func34 rfl rfl (by kernel_rfl) rfl ?_
  have hbl := hp.tape
  refine cSeq <| cReg rfl <| rAl 0 rfl rfl <| oR 1 rfl <| rE 2 <| cSeq <| cSeq <| cReg rfl <| oR 1 rfl <| rHCall (args := [.ptr 0 0, vN 10]) (d := 16) _ rfl rfl rfl (numAt_10 (by decide) rfl) ?_
  rintro _ _ ⟨rfl, rfl⟩
  refine oR 1 rfl <| rE 5 <| cSeq <| cReg rfl <| oR 1 rfl <| rOk (x := vB false) rfl rfl rfl <| rE 7 ?_
  refine cCond rfl (fun h => by cases h) (fun _ => ?_)
  refine cSkip <| cSeq <| cReg rfl <| oR 1 rfl <| rE 8 <| cSeq <| cSeq <| cReg rfl <| oR 1 rfl <| rCl rfl (.inl rfl) (dName_10) <| rE 10 <| cBlock <| cSeq <| cReg rfl <| rOk (x := vB false) rfl rfl (okBo ((eq_tL [116, 97, 112, 101] [109, 111, 100, 101]).trans (by decide))) <| oR 1 rfl ?_
  refine rE 12 ?_
  refine cCond rfl (fun h => by cases h) (fun _ => ?_)
  refine cSeq <| cReg rfl <| rOk (x := vB false) rfl rfl (okBo ((eq_tL [116, 97, 112, 101] [103, 117, 101, 115, 115]).trans (by decide))) <| oR 1 rfl <| rE 14 ?_
  refine cCond rfl (fun h => by cases h) (fun _ => ?_)
  refine cSeq <| cReg rfl <| rOk (x := vB false) rfl rfl (okBo ((eq_tL [116, 97, 112, 101] [108, 97, 116]).trans (by decide))) <| oR 1 rfl <| rE 16 ?_
  refine cCond rfl (fun h => by cases h) (fun _ => ?_)
  refine cSeq <| cReg rfl <| rOk (x := vB true) rfl rfl (okBo ((eq_tL [116, 97, 112, 101] [116, 97, 112, 101]).trans (by decide))) <| oR 1 rfl <| rE 18 ?_
  refine cCond rfl (fun _ => ?_) (fun h => by cases h)
  refine cSeq <| cReg rfl <| oR 3 rfl <| rOk (x := vN p.tape.length) rfl rfl (lenMap rowU p.tape) <| oR 1 rfl <| rE 23 <| cBlock <| cLoop (κ := Nat) (fun k => ⟨slotsF [(2, .ptr 0 0), (4, .sl 0 ([]) true), (18, vB false), (25, .v (.string (⟨#[116, 97, 112, 101]⟩ : ByteArray))), (26, vB false), (35, vB false), (44, vB false), (60, vB true), (64, .sl 1 (p.tape.map rowU) b), (65, vN p.tape.length), (6, .sl 0 ([]) true), (66, vN k)], heapF [(0, .box [vI p.mode, vI p.width, vI p.rob, vI p.queue, vI p.stores, vI p.slots, vI p.sets, vI p.ways, .sl 1 (p.lat.map rowI) a, vB p.tables, .sl 1 (p.tape.map rowU) b, .sl 1 (p.prog.map rowU) c, vS p.mem, vI p.cycles])], 23⟩) (fun k => k ≤ p.tape.length) (fun k => p.tape.length - k) 0 (fun s => s) (Weak.of_lists (fun s => s) wT wH rfl) (Nat.zero_le _) ?_
  intro k hk
  have hkn : k ≤ p.tape.length := hk
  have hkB : k ≤ 900000 := by omega
  refine cSeq <| cReg rfl <| rOk (x := vB (decide (k < p.tape.length))) rfl rfl (okB (ltN _ _)) <| rE 24 <| cSeq ?_
  refine cCond rfl (fun h1 => by exact absurd (of_decide_eq_true h1) (by omega)) (fun _ => ?_)
  refine cExit <| cSeq <| cReg rfl <| oR 2 rfl <| rE 26 <| cRet ?_
  exact finTA rfl trivial rfl rfl
theorem dWr_10O (p : ScPlan) (a b c : Bool) (hp : p.ok)  (hT : ¬ p.tape.length = 0) : DCall C0 34 [.agg (planL p a b c), vI 10] (.sl 1 ((p.tape.map (fun a => digH a 8)).map rowS) false) := by
  refine DCall.intro c0Ok Tryd.func34 rfl rfl (by kernel_rfl) rfl ?_
  have hbl := hp.tape
  refine cSeq <| cReg rfl <| rAl 0 rfl rfl <| oR 1 rfl <| rE 2 <| cSeq <| cSeq <| cReg rfl <| oR 1 rfl <| rHCall (args := [.ptr 0 0, vN 10]) (d := 16) _ rfl rfl rfl (numAt_10 (by decide) rfl) ?_
  rintro _ _ ⟨rfl, rfl⟩
  refine oR 1 rfl <| rE 5 <| cSeq <| cReg rfl <| oR 1 rfl <| rOk (x := vB false) rfl rfl rfl <| rE 7 ?_
  refine cCond rfl (fun h => by cases h) (fun _ => ?_)
  refine cSkip <| cSeq <| cReg rfl <| oR 1 rfl <| rE 8 <| cSeq <| cSeq <| cReg rfl <| oR 1 rfl <| rCl rfl (.inl rfl) (dName_10) <| rE 10 <| cBlock <| cSeq <| cReg rfl <| rOk (x := vB false) rfl rfl (okBo ((eq_tL [116, 97, 112, 101] [109, 111, 100, 101]).trans (by decide))) <| oR 1 rfl ?_
  refine rE 12 ?_
  refine cCond rfl (fun h => by cases h) (fun _ => ?_)
  refine cSeq <| cReg rfl <| rOk (x := vB false) rfl rfl (okBo ((eq_tL [116, 97, 112, 101] [103, 117, 101, 115, 115]).trans (by decide))) <| oR 1 rfl <| rE 14 ?_
  refine cCond rfl (fun h => by cases h) (fun _ => ?_)
  refine cSeq <| cReg rfl <| rOk (x := vB false) rfl rfl (okBo ((eq_tL [116, 97, 112, 101] [108, 97, 116]).trans (by decide))) <| oR 1 rfl <| rE 16 ?_
  refine cCond rfl (fun h => by cases h) (fun _ => ?_)
  refine cSeq <| cReg rfl <| rOk (x := vB true) rfl rfl (okBo ((eq_tL [116, 97, 112, 101] [116, 97, 112, 101]).trans (by decide))) <| oR 1 rfl <| rE 18 ?_
  refine cCond rfl (fun _ => ?_) (fun h => by cases h)
  refine cSeq <| cReg rfl <| oR 3 rfl <| rOk (x := vN p.tape.length) rfl rfl (lenMap rowU p.tape) <| oR 1 rfl <| rE 23 <| cBlock <| cLoop (κ := Nat × Bool) (fun z_ => match z_ with | (k, false) => ⟨slotsF [(2, .ptr 0 0), (4, .sl 0 ([]) true), (18, vB false), (25, .v (.string (⟨#[116, 97, 112, 101]⟩ : ByteArray))), (26, vB false), (35, vB false), (44, vB false), (60, vB true), (64, .sl 1 (p.tape.map rowU) b), (65, vN p.tape.length), (66, vN k), (6, .sl 0 ([]) true)], heapF [(0, .box [vI p.mode, vI p.width, vI p.rob, vI p.queue, vI p.stores, vI p.slots, vI p.sets, vI p.ways, .sl 1 (p.lat.map rowI) a, vB p.tables, .sl 1 (p.tape.map rowU) b, .sl 1 (p.prog.map rowU) c, vS p.mem, vI p.cycles])], 24⟩ | (k, true) => ⟨slotsF [(2, .ptr 0 0), (4, .sl 0 ([]) true), (18, vB false), (25, .v (.string (⟨#[116, 97, 112, 101]⟩ : ByteArray))), (26, vB false), (35, vB false), (44, vB false), (60, vB true), (64, .sl 1 (p.tape.map rowU) b), (65, vN p.tape.length), (66, vN k), (6, .osl 23 0 (((p.tape.take k).map (fun a => digH a 8)).length) false)], heapF [(0, .box [vI p.mode, vI p.width, vI p.rob, vI p.queue, vI p.stores, vI p.slots, vI p.sets, vI p.ways, .sl 1 (p.lat.map rowI) a, vB p.tables, .sl 1 (p.tape.map rowU) b, .sl 1 (p.prog.map rowU) c, vS p.mem, vI p.cycles]), (23, .arr (((p.tape.take k).map (fun a => digH a 8)).map rowS) 1)], 24⟩) (fun z_ => match z_ with | (k, false) => (k ≤ p.tape.length ∧ (p.tape.take k).map (fun a => digH a 8) = []) | (k, true) => (k ≤ p.tape.length)) (fun z_ => p.tape.length - z_.1) (0, false) (fun s => s) (Weak.of_lists (fun s => s) wT wH rfl) (⟨Nat.zero_le _, (show (p.tape.take 0).map (fun a => digH a 8) = [] from rfl)⟩) ?_
  intro z_ hk
  obtain ⟨k, b_⟩ := z_; cases b_
  · have hk_ := hk
    have hnn : k ≤ p.tape.length := hk_.1
    have hkB : k ≤ 1000000 := by omega
    have hNk : (p.tape.take k).map (fun a => digH a 8) = [] := hk_.2
    refine cSeq <| cReg rfl <| rOk (x := vB (decide (k < p.tape.length))) rfl rfl (okB (ltN _ _)) <| rE 25 <| cSeq ?_
    refine cCond rfl (fun h1 => ?_) (fun h1 => ?_)
    · have h1p := of_decide_eq_true h1
      refine cSkip <| cSeq <| cBlock <| cSeq <| cReg rfl ?_
      obtain ⟨x, hx⟩ : ∃ y_, p.tape[k]? = some y_ := ⟨_, List.getElem?_eq_getElem omT⟩
      have hxo := hp.tp x (List.mem_of_getElem? hx)
      refine rIdx (rowU x) (x := .dp 1 0 (rowU x)) rfl rfl rfl (⟨Int.natCast_nonneg _, getM hx⟩) rfl <| oR 2 rfl <| rE 28 <| cReg rfl <| oR 2 rfl <| rCl rfl (.inl rfl) (dDig8 x hxo) <| rOk (x := .sl 1 ([[vS (digH x 8)]]) true) rfl rfl rfl <| rFx (x := .osl 32 0 1 false) (h' := upd _ 32 (some (.arr (([digH x 8]).map rowS) 1))) rfl rfl (app_nil omT) (⟨rfl, by exact omT, by exact omT, trivial⟩) <| oR 1 rfl <| rE 34 <| cReg rfl ?_
      have b1 : k + 1 ≤ 1000001 := Nat.add_le_add hkB (Nat.le_refl 1)
      refine rOk (x := vN (k + 1)) rfl rfl (okI (wrapI64 b1 rfl)) <| oR 1 rfl <| rE 36 ?_
      refine ⟨(k + 1, true), fun i => match i with | 23 => 32 | i => i, Weak.of_lists (fun i => match i with | 23 => 32 | i => i) ⟨⟨rfl, rfl⟩, ⟨rfl, rfl⟩, ⟨rfl, rfl⟩, ⟨rfl, rfl⟩, ⟨rfl, rfl⟩, ⟨rfl, rfl⟩, ⟨rfl, rfl⟩, ⟨rfl, rfl⟩, ⟨rfl, rfl⟩, ⟨rfl, rfl⟩, ⟨rfl, rfl⟩, ⟨(show AV.osl 32 0 (1) false = AV.osl 32 0 ((p.tape.take (k + 1)).map (fun a => digH a 8)).length false from by rw [← (show [digH x 8] = (p.tape.take (k + 1)).map (fun a => digH a 8) from (by rw [← (app_it hx), hNk]; rfl))]; first | done | rfl | (congr 1 <;> (first | exact omT | simp))), rfl⟩, trivial⟩ ⟨⟨rfl, rfl, rfl⟩, ⟨rfl, (congrArg (fun z : List (List UInt8) => some (Blk.arr (z.map rowS) 1)) (show [digH x 8] = (p.tape.take (k + 1)).map (fun a => digH a 8) from (by rw [← (app_it hx), hNk]; rfl))), rfl⟩, trivial⟩ rfl, by omega, by show p.tape.length - (k + 1) < p.tape.length - k; omega⟩
    · have h1p := of_decide_eq_false h1
      refine cExit <| cSeq <| cReg rfl <| oR 2 rfl <| rE 27 <| cRet ?_
      exact absurd (by have q := congrArg List.length hNk; rw [List.length_map, List.length_take] at q; have q2 : min k p.tape.length = 0 := q; omega : p.tape.length = 0) hT
  · have hk_ := hk
    have hnn : k ≤ p.tape.length := hk_
    have hkB : k ≤ 1000000 := by omega
    have habk : ((p.tape.take k).map (fun a => digH a 8)).length ≤ 900000 := (by rw [List.length_map, List.length_take]; omega)
    refine cSeq <| cReg rfl <| rOk (x := vB (decide (k < p.tape.length))) rfl rfl (okB (ltN _ _)) <| rE 25 <| cSeq ?_
    refine cCond rfl (fun h2 => ?_) (fun h2 => ?_)
    · have h2p := of_decide_eq_true h2
      refine cSkip <| cSeq <| cBlock <| cSeq <| cReg rfl ?_
      obtain ⟨x, hx⟩ : ∃ y_, p.tape[k]? = some y_ := ⟨_, List.getElem?_eq_getElem omT⟩
      have hxo := hp.tp x (List.mem_of_getElem? hx)
      refine rIdx (rowU x) (x := .dp 1 0 (rowU x)) rfl rfl rfl (⟨Int.natCast_nonneg _, getM hx⟩) rfl <| oR 2 rfl <| rE 28 <| cReg rfl <| oR 2 rfl <| rCl rfl (.inl rfl) (dDig8 x hxo) <| rOk (x := .sl 1 ([[vS (digH x 8)]]) true) rfl rfl rfl <| rFx (x := .osl 32 0 (((p.tape.take k).map (fun a => digH a 8)).length + 1) false) (h' := upd (upd _ 23 none) 32 (some (.arr ((((p.tape.take k).map (fun a => digH a 8)) ++ ([digH x 8])).map rowS) 1))) rfl rfl (app_own rowS ((p.tape.take k).map (fun a => digH a 8)) ([digH x 8]) omT omT) (⟨by exact omT, by exact omT, trivial⟩) <| oR 1 rfl <| rE 34 <| cReg rfl ?_
      have b2 : k + 1 ≤ 1000001 := Nat.add_le_add hkB (Nat.le_refl 1)
      refine rOk (x := vN (k + 1)) rfl rfl (okI (wrapI64 b2 rfl)) <| oR 1 rfl <| rE 36 ?_
      refine ⟨(k + 1, true), fun i => match i with | 23 => 32 | i => i, Weak.of_lists (fun i => match i with | 23 => 32 | i => i) ⟨⟨rfl, rfl⟩, ⟨rfl, rfl⟩, ⟨rfl, rfl⟩, ⟨rfl, rfl⟩, ⟨rfl, rfl⟩, ⟨rfl, rfl⟩, ⟨rfl, rfl⟩, ⟨rfl, rfl⟩, ⟨rfl, rfl⟩, ⟨rfl, rfl⟩, ⟨rfl, rfl⟩, ⟨(show AV.osl 32 0 (((p.tape.take k).map (fun a => digH a 8)).length + 1) false = AV.osl 32 0 ((p.tape.take (k + 1)).map (fun a => digH a 8)).length false from by rw [← (show ((p.tape.take k).map (fun a => digH a 8)) ++ ([digH x 8]) = (p.tape.take (k + 1)).map (fun a => digH a 8) from app_it hx)]; first | done | rfl | (congr 1 <;> (first | exact omT | simp))), rfl⟩, trivial⟩ ⟨⟨rfl, rfl, rfl⟩, ⟨rfl, (congrArg (fun z : List (List UInt8) => some (Blk.arr (z.map rowS) 1)) (show ((p.tape.take k).map (fun a => digH a 8)) ++ ([digH x 8]) = (p.tape.take (k + 1)).map (fun a => digH a 8) from app_it hx)), rfl⟩, trivial⟩ rfl, by omega, by show p.tape.length - (k + 1) < p.tape.length - k; omega⟩
    · have h2p := of_decide_eq_false h2
      refine cExit <| cSeq <| cReg rfl <| oR 2 rfl <| rE 27 <| cRet ?_
      have hT2 : p.tape.take k = p.tape := List.take_of_length_le (by omega)
      refine finTA rfl (by show 0 + (((p.tape.take k).map (fun a => digH a 8)).length) ≤ (((p.tape.take k).map (fun a => digH a 8)).map rowS).length; exact omT) rfl ?_
      show AV.sl 1 (List.take (((p.tape.take k).map (fun a => digH a 8)).length) (List.drop 0 (((p.tape.take k).map (fun a => digH a 8)).map rowS))) false = _
      rw [List.drop_zero, List.take_of_length_le (by simp), hT2]
theorem dWr_11E (p : ScPlan) (a b c : Bool) (hp : p.ok) (hT : p.prog.length = 0) : DCall C0 34 [.agg (planL p a b c), vI 11] (.sl 0 [] true) := by
  refine DCall.intro c0Ok Tryd.func34 rfl rfl (by kernel_rfl) rfl ?_
  have hbl := hp.prog
  refine cSeq <| cReg rfl <| rAl 0 rfl rfl <| oR 1 rfl <| rE 2 <| cSeq <| cSeq <| cReg rfl <| oR 1 rfl <| rHCall (args := [.ptr 0 0, vN 11]) (d := 16) _ rfl rfl rfl (numAt_11 (by decide) rfl) ?_
  rintro _ _ ⟨rfl, rfl⟩
  refine oR 1 rfl <| rE 5 <| cSeq <| cReg rfl <| oR 1 rfl <| rOk (x := vB false) rfl rfl rfl <| rE 7 ?_
  refine cCond rfl (fun h => by cases h) (fun _ => ?_)
  refine cSkip <| cSeq <| cReg rfl <| oR 1 rfl <| rE 8 <| cSeq <| cSeq <| cReg rfl <| oR 1 rfl <| rCl rfl (.inl rfl) (dName_11) <| rE 10 <| cBlock <| cSeq <| cReg rfl <| rOk (x := vB false) rfl rfl (okBo ((eq_tL [112, 114, 111, 103] [109, 111, 100, 101]).trans (by decide))) <| oR 1 rfl ?_
  refine rE 12 ?_
  refine cCond rfl (fun h => by cases h) (fun _ => ?_)
  refine cSeq <| cReg rfl <| rOk (x := vB false) rfl rfl (okBo ((eq_tL [112, 114, 111, 103] [103, 117, 101, 115, 115]).trans (by decide))) <| oR 1 rfl <| rE 14 ?_
  refine cCond rfl (fun h => by cases h) (fun _ => ?_)
  refine cSeq <| cReg rfl <| rOk (x := vB false) rfl rfl (okBo ((eq_tL [112, 114, 111, 103] [108, 97, 116]).trans (by decide))) <| oR 1 rfl <| rE 16 ?_
  refine cCond rfl (fun h => by cases h) (fun _ => ?_)
  refine cSeq <| cReg rfl <| rOk (x := vB false) rfl rfl (okBo ((eq_tL [112, 114, 111, 103] [116, 97, 112, 101]).trans (by decide))) <| oR 1 rfl <| rE 18 ?_
  refine cCond rfl (fun h => by cases h) (fun _ => ?_)
  refine cSeq <| cReg rfl <| rOk (x := vB true) rfl rfl (okBo ((eq_tL [112, 114, 111, 103] [112, 114, 111, 103]).trans (by decide))) <| oR 1 rfl <| rE 20 ?_
  refine cCond rfl (fun _ => ?_) (fun h => by cases h)
  refine cSeq <| cReg rfl <| oR 2 rfl <| rOk (x := vN p.prog.length) rfl rfl (lenMap rowU p.prog) <| oR 1 rfl <| rE 24 <| cBlock <| cLoop (κ := Nat) (fun k => ⟨slotsF [(2, .ptr 0 0), (4, .sl 0 ([]) true), (18, vB false), (25, .v (.string (⟨#[112, 114, 111, 103]⟩ : ByteArray))), (26, vB false), (35, vB false), (44, vB false), (60, vB false), (76, vB true), (79, .sl 1 (p.prog.map rowU) c), (80, vN p.prog.length), (6, .sl 0 ([]) true), (81, vN k)], heapF [(0, .box [vI p.mode, vI p.width, vI p.rob, vI p.queue, vI p.stores, vI p.slots, vI p.sets, vI p.ways, .sl 1 (p.lat.map rowI) a, vB p.tables, .sl 1 (p.tape.map rowU) b, .sl 1 (p.prog.map rowU) c, vS p.mem, vI p.cycles])], 24⟩) (fun k => k ≤ p.prog.length) (fun k => p.prog.length - k) 0 (fun s => s) (Weak.of_lists (fun s => s) wT wH rfl) (Nat.zero_le _) ?_
  intro k hk
  have hkn : k ≤ p.prog.length := hk
  have hkB : k ≤ 900000 := by omega
  refine cSeq <| cReg rfl <| rOk (x := vB (decide (k < p.prog.length))) rfl rfl (okB (ltN _ _)) <| rE 25 <| cSeq ?_
  refine cCond rfl (fun h1 => by exact absurd (of_decide_eq_true h1) (by omega)) (fun _ => ?_)
  refine cExit <| cSeq <| cReg rfl <| oR 2 rfl <| rE 27 <| cRet ?_
  exact finTA rfl trivial rfl rfl
theorem dWr_11O (p : ScPlan) (a b c : Bool) (hp : p.ok)  (hT : ¬ p.prog.length = 0) : DCall C0 34 [.agg (planL p a b c), vI 11] (.sl 1 ((p.prog.map (fun a => digH a 8)).map rowS) false) := by
  refine DCall.intro c0Ok Tryd.func34 rfl rfl (by kernel_rfl) rfl ?_
  have hbl := hp.prog
  refine cSeq <| cReg rfl <| rAl 0 rfl rfl <| oR 1 rfl <| rE 2 <| cSeq <| cSeq <| cReg rfl <| oR 1 rfl <| rHCall (args := [.ptr 0 0, vN 11]) (d := 16) _ rfl rfl rfl (numAt_11 (by decide) rfl) ?_
  rintro _ _ ⟨rfl, rfl⟩
  refine oR 1 rfl <| rE 5 <| cSeq <| cReg rfl <| oR 1 rfl <| rOk (x := vB false) rfl rfl rfl <| rE 7 ?_
  refine cCond rfl (fun h => by cases h) (fun _ => ?_)
  refine cSkip <| cSeq <| cReg rfl <| oR 1 rfl <| rE 8 <| cSeq <| cSeq <| cReg rfl <| oR 1 rfl <| rCl rfl (.inl rfl) (dName_11) <| rE 10 <| cBlock <| cSeq <| cReg rfl <| rOk (x := vB false) rfl rfl (okBo ((eq_tL [112, 114, 111, 103] [109, 111, 100, 101]).trans (by decide))) <| oR 1 rfl ?_
  refine rE 12 ?_
  refine cCond rfl (fun h => by cases h) (fun _ => ?_)
  refine cSeq <| cReg rfl <| rOk (x := vB false) rfl rfl (okBo ((eq_tL [112, 114, 111, 103] [103, 117, 101, 115, 115]).trans (by decide))) <| oR 1 rfl <| rE 14 ?_
  refine cCond rfl (fun h => by cases h) (fun _ => ?_)
  refine cSeq <| cReg rfl <| rOk (x := vB false) rfl rfl (okBo ((eq_tL [112, 114, 111, 103] [108, 97, 116]).trans (by decide))) <| oR 1 rfl <| rE 16 ?_
  refine cCond rfl (fun h => by cases h) (fun _ => ?_)
  refine cSeq <| cReg rfl <| rOk (x := vB false) rfl rfl (okBo ((eq_tL [112, 114, 111, 103] [116, 97, 112, 101]).trans (by decide))) <| oR 1 rfl <| rE 18 ?_
  refine cCond rfl (fun h => by cases h) (fun _ => ?_)
  refine cSeq <| cReg rfl <| rOk (x := vB true) rfl rfl (okBo ((eq_tL [112, 114, 111, 103] [112, 114, 111, 103]).trans (by decide))) <| oR 1 rfl <| rE 20 ?_
  refine cCond rfl (fun _ => ?_) (fun h => by cases h)
  refine cSeq <| cReg rfl <| oR 2 rfl <| rOk (x := vN p.prog.length) rfl rfl (lenMap rowU p.prog) <| oR 1 rfl <| rE 24 <| cBlock <| cLoop (κ := Nat × Bool) (fun z_ => match z_ with | (k, false) => ⟨slotsF [(2, .ptr 0 0), (4, .sl 0 ([]) true), (18, vB false), (25, .v (.string (⟨#[112, 114, 111, 103]⟩ : ByteArray))), (26, vB false), (35, vB false), (44, vB false), (60, vB false), (76, vB true), (79, .sl 1 (p.prog.map rowU) c), (80, vN p.prog.length), (81, vN k), (6, .sl 0 ([]) true)], heapF [(0, .box [vI p.mode, vI p.width, vI p.rob, vI p.queue, vI p.stores, vI p.slots, vI p.sets, vI p.ways, .sl 1 (p.lat.map rowI) a, vB p.tables, .sl 1 (p.tape.map rowU) b, .sl 1 (p.prog.map rowU) c, vS p.mem, vI p.cycles])], 25⟩ | (k, true) => ⟨slotsF [(2, .ptr 0 0), (4, .sl 0 ([]) true), (18, vB false), (25, .v (.string (⟨#[112, 114, 111, 103]⟩ : ByteArray))), (26, vB false), (35, vB false), (44, vB false), (60, vB false), (76, vB true), (79, .sl 1 (p.prog.map rowU) c), (80, vN p.prog.length), (81, vN k), (6, .osl 24 0 (((p.prog.take k).map (fun a => digH a 8)).length) false)], heapF [(0, .box [vI p.mode, vI p.width, vI p.rob, vI p.queue, vI p.stores, vI p.slots, vI p.sets, vI p.ways, .sl 1 (p.lat.map rowI) a, vB p.tables, .sl 1 (p.tape.map rowU) b, .sl 1 (p.prog.map rowU) c, vS p.mem, vI p.cycles]), (24, .arr (((p.prog.take k).map (fun a => digH a 8)).map rowS) 1)], 25⟩) (fun z_ => match z_ with | (k, false) => (k ≤ p.prog.length ∧ (p.prog.take k).map (fun a => digH a 8) = []) | (k, true) => (k ≤ p.prog.length)) (fun z_ => p.prog.length - z_.1) (0, false) (fun s => s) (Weak.of_lists (fun s => s) wT wH rfl) (⟨Nat.zero_le _, (show (p.prog.take 0).map (fun a => digH a 8) = [] from rfl)⟩) ?_
  intro z_ hk
  obtain ⟨k, b_⟩ := z_; cases b_
  · have hk_ := hk
    have hnn : k ≤ p.prog.length := hk_.1
    have hkB : k ≤ 1000000 := by omega
    have hNk : (p.prog.take k).map (fun a => digH a 8) = [] := hk_.2
    refine cSeq <| cReg rfl <| rOk (x := vB (decide (k < p.prog.length))) rfl rfl (okB (ltN _ _)) <| rE 26 <| cSeq ?_
    refine cCond rfl (fun h1 => ?_) (fun h1 => ?_)
    · have h1p := of_decide_eq_true h1
      refine cSkip <| cSeq <| cBlock <| cSeq <| cReg rfl ?_
      obtain ⟨x, hx⟩ : ∃ y_, p.prog[k]? = some y_ := ⟨_, List.getElem?_eq_getElem omT⟩
      have hxo := hp.pr x (List.mem_of_getElem? hx)
      refine rIdx (rowU x) (x := .dp 1 0 (rowU x)) rfl rfl rfl (⟨Int.natCast_nonneg _, getM hx⟩) rfl <| oR 2 rfl <| rE 29 <| cReg rfl <| oR 2 rfl <| rCl rfl (.inl rfl) (dDig8 x hxo) <| rOk (x := .sl 1 ([[vS (digH x 8)]]) true) rfl rfl rfl <| rFx (x := .osl 33 0 1 false) (h' := upd _ 33 (some (.arr (([digH x 8]).map rowS) 1))) rfl rfl (app_nil omT) (⟨rfl, by exact omT, by exact omT, trivial⟩) <| oR 1 rfl <| rE 35 <| cReg rfl ?_
      have b1 : k + 1 ≤ 1000001 := Nat.add_le_add hkB (Nat.le_refl 1)
      refine rOk (x := vN (k + 1)) rfl rfl (okI (wrapI64 b1 rfl)) <| oR 1 rfl <| rE 37 ?_
      refine ⟨(k + 1, true), fun i => match i with | 24 => 33 | i => i, Weak.of_lists (fun i => match i with | 24 => 33 | i => i) ⟨⟨rfl, rfl⟩, ⟨rfl, rfl⟩, ⟨rfl, rfl⟩, ⟨rfl, rfl⟩, ⟨rfl, rfl⟩, ⟨rfl, rfl⟩, ⟨rfl, rfl⟩, ⟨rfl, rfl⟩, ⟨rfl, rfl⟩, ⟨rfl, rfl⟩, ⟨rfl, rfl⟩, ⟨rfl, rfl⟩, ⟨(show AV.osl 33 0 (1) false = AV.osl 33 0 ((p.prog.take (k + 1)).map (fun a => digH a 8)).length false from by rw [← (show [digH x 8] = (p.prog.take (k + 1)).map (fun a => digH a 8) from (by rw [← (app_it hx), hNk]; rfl))]; first | done | rfl | (congr 1 <;> (first | exact omT | simp))), rfl⟩, trivial⟩ ⟨⟨rfl, rfl, rfl⟩, ⟨rfl, (congrArg (fun z : List (List UInt8) => some (Blk.arr (z.map rowS) 1)) (show [digH x 8] = (p.prog.take (k + 1)).map (fun a => digH a 8) from (by rw [← (app_it hx), hNk]; rfl))), rfl⟩, trivial⟩ rfl, by omega, by show p.prog.length - (k + 1) < p.prog.length - k; omega⟩
    · have h1p := of_decide_eq_false h1
      refine cExit <| cSeq <| cReg rfl <| oR 2 rfl <| rE 28 <| cRet ?_
      exact absurd (by have q := congrArg List.length hNk; rw [List.length_map, List.length_take] at q; have q2 : min k p.prog.length = 0 := q; omega : p.prog.length = 0) hT
  · have hk_ := hk
    have hnn : k ≤ p.prog.length := hk_
    have hkB : k ≤ 1000000 := by omega
    have habk : ((p.prog.take k).map (fun a => digH a 8)).length ≤ 900000 := (by rw [List.length_map, List.length_take]; omega)
    refine cSeq <| cReg rfl <| rOk (x := vB (decide (k < p.prog.length))) rfl rfl (okB (ltN _ _)) <| rE 26 <| cSeq ?_
    refine cCond rfl (fun h2 => ?_) (fun h2 => ?_)
    · have h2p := of_decide_eq_true h2
      refine cSkip <| cSeq <| cBlock <| cSeq <| cReg rfl ?_
      obtain ⟨x, hx⟩ : ∃ y_, p.prog[k]? = some y_ := ⟨_, List.getElem?_eq_getElem omT⟩
      have hxo := hp.pr x (List.mem_of_getElem? hx)
      refine rIdx (rowU x) (x := .dp 1 0 (rowU x)) rfl rfl rfl (⟨Int.natCast_nonneg _, getM hx⟩) rfl <| oR 2 rfl <| rE 29 <| cReg rfl <| oR 2 rfl <| rCl rfl (.inl rfl) (dDig8 x hxo) <| rOk (x := .sl 1 ([[vS (digH x 8)]]) true) rfl rfl rfl <| rFx (x := .osl 33 0 (((p.prog.take k).map (fun a => digH a 8)).length + 1) false) (h' := upd (upd _ 24 none) 33 (some (.arr ((((p.prog.take k).map (fun a => digH a 8)) ++ ([digH x 8])).map rowS) 1))) rfl rfl (app_own rowS ((p.prog.take k).map (fun a => digH a 8)) ([digH x 8]) omT omT) (⟨by exact omT, by exact omT, trivial⟩) <| oR 1 rfl <| rE 35 <| cReg rfl ?_
      have b2 : k + 1 ≤ 1000001 := Nat.add_le_add hkB (Nat.le_refl 1)
      refine rOk (x := vN (k + 1)) rfl rfl (okI (wrapI64 b2 rfl)) <| oR 1 rfl <| rE 37 ?_
      refine ⟨(k + 1, true), fun i => match i with | 24 => 33 | i => i, Weak.of_lists (fun i => match i with | 24 => 33 | i => i) ⟨⟨rfl, rfl⟩, ⟨rfl, rfl⟩, ⟨rfl, rfl⟩, ⟨rfl, rfl⟩, ⟨rfl, rfl⟩, ⟨rfl, rfl⟩, ⟨rfl, rfl⟩, ⟨rfl, rfl⟩, ⟨rfl, rfl⟩, ⟨rfl, rfl⟩, ⟨rfl, rfl⟩, ⟨rfl, rfl⟩, ⟨(show AV.osl 33 0 (((p.prog.take k).map (fun a => digH a 8)).length + 1) false = AV.osl 33 0 ((p.prog.take (k + 1)).map (fun a => digH a 8)).length false from by rw [← (show ((p.prog.take k).map (fun a => digH a 8)) ++ ([digH x 8]) = (p.prog.take (k + 1)).map (fun a => digH a 8) from app_it hx)]; first | done | rfl | (congr 1 <;> (first | exact omT | simp))), rfl⟩, trivial⟩ ⟨⟨rfl, rfl, rfl⟩, ⟨rfl, (congrArg (fun z : List (List UInt8) => some (Blk.arr (z.map rowS) 1)) (show ((p.prog.take k).map (fun a => digH a 8)) ++ ([digH x 8]) = (p.prog.take (k + 1)).map (fun a => digH a 8) from app_it hx)), rfl⟩, trivial⟩ rfl, by omega, by show p.prog.length - (k + 1) < p.prog.length - k; omega⟩
    · have h2p := of_decide_eq_false h2
      refine cExit <| cSeq <| cReg rfl <| oR 2 rfl <| rE 28 <| cRet ?_
      have hT2 : p.prog.take k = p.prog := List.take_of_length_le (by omega)
      refine finTA rfl (by show 0 + (((p.prog.take k).map (fun a => digH a 8)).length) ≤ (((p.prog.take k).map (fun a => digH a 8)).map rowS).length; exact omT) rfl ?_
      show AV.sl 1 (List.take (((p.prog.take k).map (fun a => digH a 8)).length) (List.drop 0 (((p.prog.take k).map (fun a => digH a 8)).map rowS))) false = _
      rw [List.drop_zero, List.take_of_length_le (by simp), hT2]
open Go.RowKit Go.Lib Go.Shelf
theorem okM_ne {m : W} (h : okM m) : m ≠ [] := by
  rintro rfl; revert h; decide
theorem dWritten (p : ScPlan) (a b c : Bool) (hp : p.ok) (hR : RightL okM p) (k : Nat) (hk : k < 14) : ∃ cl, DCall C0 34 [.agg (planL p a b c), vN k] (.sl 1 ((writtenL p k).map rowS) cl) := by
  have hc := fun k (hk : k < 14) => cnt_ok hR hk
  rcases k with _ | _ | _ | _ | _ | _ | _ | _ | _ | _ | _ | _ | _ | _ | k
  · exact ⟨_, dWr_0 p a b c hp (hR 0)⟩
  · exact ⟨_, dWr_1 p a b c hp (hc 1 hk).1 (hc 1 hk).2⟩
  · exact ⟨_, dWr_2 p a b c hp (hc 2 hk).1 (hc 2 hk).2⟩
  · exact ⟨_, dWr_3 p a b c hp (hc 3 hk).1 (hc 3 hk).2⟩
  · exact ⟨_, dWr_4 p a b c hp (hc 4 hk).1 (hc 4 hk).2⟩
  · exact ⟨_, dWr_5 p a b c hp (hc 5 hk).1 (hc 5 hk).2⟩
  · exact ⟨_, dWr_6 p a b c hp (hc 6 hk).1 (hc 6 hk).2⟩
  · exact ⟨_, dWr_7 p a b c hp (hc 7 hk).1 (hc 7 hk).2⟩
  · cases hT : p.tables with
    | true => exact ⟨_, by have h := dWr_8t p a b c hp hT; show DCall _ _ _ (.sl 1 ([tableW p.tables].map rowS) _); rw [hT]; exact h⟩
    | false => exact ⟨_, by have h := dWr_8f p a b c hp hT; show DCall _ _ _ (.sl 1 ([tableW p.tables].map rowS) _); rw [hT]; exact h⟩
  · by_cases hT : p.lat.length = 0
    · exact ⟨true, by have h := dWr_9E p a b c hp hT; show DCall _ _ _ (.sl 1 ((p.lat.map itoa).map rowS) _); rw [List.eq_nil_of_length_eq_zero hT]; exact h.rmono fun _ _ _ => rep_nil⟩
    · exact ⟨_, dWr_9O p a b c hp (fun x hx => by have := (hR 9).2 x hx; omega) hT⟩
  · by_cases hT : p.tape.length = 0
    · exact ⟨true, by have h := dWr_10E p a b c hp hT; show DCall _ _ _ (.sl 1 ((p.tape.map fun a => digH a 8).map rowS) _); rw [List.eq_nil_of_length_eq_zero hT]; exact h.rmono fun _ _ _ => rep_nil⟩
    · exact ⟨_, dWr_10O p a b c hp hT⟩
  · by_cases hT : p.prog.length = 0
    · exact ⟨true, by have h := dWr_11E p a b c hp hT; show DCall _ _ _ (.sl 1 ((p.prog.map fun a => digH a 8).map rowS) _); rw [List.eq_nil_of_length_eq_zero hT]; exact h.rmono fun _ _ _ => rep_nil⟩
    · exact ⟨_, dWr_11O p a b c hp hT⟩
  · exact ⟨_, dWritten12 p a b c hp (okM_ne (hR 12)) (okM_len (hR 12))⟩
  · exact ⟨_, dWr_13 p a b c hp (hc 13 hk).1 (hc 13 hk).2⟩
  · exact absurd hk (by omega)
def tailW (l : List W) : W := l.flatMap fun x => 32 :: x
theorem join_tailW (w : W) (l : List W) : joinL 32 (w :: l) = w ++ tailW l := by
  induction l generalizing w with
  | nil => show w = w ++ []; simp
  | cons x l ih => show w ++ 32 :: joinL 32 (x :: l) = _; rw [ih]; show _ = w ++ (32 :: x ++ tailW l); simp
theorem tailW_next {l : List W} {j : Nat} {x : W} (h : l[j]? = some x) : tailW (l.take j) ++ (32 :: x) = tailW (l.take (j + 1)) := by
  unfold tailW
  rw [List.take_add_one, h, List.flatMap_append]; simp
theorem tailW_le (l : List W) (j : Nat) : (tailW (l.take j)).length ≤ (tailW l).length := by
  have : tailW l = tailW (l.take j) ++ tailW (l.drop j) := by unfold tailW; rw [← List.flatMap_append, List.take_append_drop]
  rw [this, List.length_append]; omega
theorem tailW_ge (l : List W) : l.length ≤ (tailW l).length := by
  unfold tailW
  induction l with
  | nil => exact Nat.le_refl _
  | cons x l ih => rw [List.flatMap_cons, List.length_append, List.length_cons, List.length_cons]; omega
theorem rep_strs {S : Nat → Prop} {w : World} {l : List W} {cl : Bool} {v : Value} (h : Rep S w noB (.sl 1 (l.map rowS) cl) v) :
    ∃ (A : Option Addr) (n c b o : Nat), v = .slice A n c ∧ n = l.length ∧ (0 < n → A = some ⟨b, o, none⟩ ∧ S b) ∧ ∀ j x, l[j]? = some x → w.cell? ⟨b, o + j, none⟩ = some (.string (sB x)) := by
  generalize hr : l.map rowS = rows at h
  cases h with
  | sl rs rows clip A c b o u hc hm hcl hrs hA hw h1 hr' =>
    refine ⟨A, rows.length, c, b, o, rfl, by rw [← hr, List.length_map], hA, fun j x hx => ?_⟩
    have hrow : rows[j]? = some (rowS x) := by rw [← hr, List.getElem?_map, hx]; rfl
    have := hw j _ 0 _ hrow (show (rowS x)[0]? = some (vS x) from rfl)
    rw [Nat.mul_one, Nat.add_zero] at this
    rw [this, rep_v (hr' j _ 0 _ hrow (show (rowS x)[0]? = some (vS x) from rfl))]
set_option maxHeartbeats 4000000 in
set_option maxRecDepth 100000 in
theorem dPrint1 (p : ScPlan) (c1 c2 c3 : Bool) (hp : p.ok) (hR : RightL okM p) : DCall C0 12 [.agg (planL p c1 c2 c3)] (.tup [vS (textTo p 14), vI 0]) := by
  refine ⟨⟨Tryd.f12, Tryd.func12, rfl, by kernel_rfl⟩, fun S w vs hS hG hu => ?_⟩
  obtain ⟨pv, rfl, hpv⟩ : ∃ pv, vs = [pv] ∧ Rep S w noB (.agg (planL p c1 c2 c3)) pv := by
    match vs, hu with
    | [x], hu => exact ⟨x, rfl, hu.2 0 _ _ rfl rfl⟩
    | [], hu => cases hu.1
    | x :: y :: t, hu => cases hu.1
  obtain ⟨us, rfl, hl, h1, hr⟩ : ∃ us, pv = .agg us ∧ (planL p c1 c2 c3).length = us.size ∧ (∀ (i : Nat) u, us[i]? = some u → u.oneCell' = true) ∧ (∀ (i : Nat) a u, (planL p c1 c2 c3)[i]? = some a → us[i]? = some u → Rep S w noB a u) := by
    cases hpv with
    | agg cs vs hl h1 h => exact ⟨_, rfl, hl, h1, h⟩
  have hl14 : us.size = 14 := hl.symm
  have eR : ∀ args w, (callFunc 14 args).run Tryd.prog w = .ok (.enter 14 args) w := enters_of Tryd.func14 (by kernel_rfl) rfl
  have eN : ∀ args w, (callFunc 23 args).run Tryd.prog w = .ok (.enter 23 args) w := enters_of Tryd.func23 (by kernel_rfl) rfl
  have eM : ∀ args w, (callFunc 34 args).run Tryd.prog w = .ok (.enter 34 args) w := enters_of Tryd.func34 (by kernel_rfl) rfl
  have eW : ∀ args w, (callFunc 33 args).run Tryd.prog w = .ok (.enter 33 args) w := enters_of Tryd.func33 (by kernel_rfl) rfl
  have eT : ∀ args w, (callFunc 35 args).run Tryd.prog w = .ok (.enter 35 args) w := enters_of Tryd.func35 (by kernel_rfl) rfl
  show Calls Tryd.prog _ #[.agg us] w _
  generalize hw0 : w.alloc (.cells us 27) = w0
  have hB0 : Below w.heap.size w w0 := hw0 ▸ (Below.refl _ _).alloc (Nat.le_refl _) _
  have hS0 : ∀ b, S b → b < w0.heap.size := fun b hb => Nat.lt_of_lt_of_le (hS b hb) hB0.size
  have hG0 : GOk C0 S w0 := gok_std (fun b hb => hB0.block b (hS b hb)) (fun _ h => h) hG
  have hlt0 : w.heap.size < w0.heap.size := by rw [← hw0]; show _ < (w.heap.push _).size; rw [Array.size_push]; exact Nat.lt_succ_self _
  have hbox : w0.heap[w.heap.size]? = some (.cells us 27 (0, 0)) := by rw [← hw0]; exact heap_alloc_new w _
  have hrange : ∀ wr : World, wr.heap[w.heap.size]? = some (.cells us 27 (0, 0)) → wr.rangeAt w.heap.size 0 us.toList := fun wr hwr j v hj => by rw [Nat.zero_add, cell_of_cells hwr]; simpa using hj
  have hlen : (Tryd.prog.info? 27).map (·.size) = some us.toList.length := by rw [Array.length_toList, hl14]; kernel_rfl
  have hright : rightP p = true := (rightP_iff hp).2 hR
  have cR : ∀ {wr : World}, (∀ b, S b → b < wr.heap.size) → GOk C0 S wr → Rep S wr noB (.agg (planL p c1 c2 c3)) (.agg us) → Calls Tryd.prog 14 #[.agg us] wr fun e w' => e = .returned (.bool true) ∧ Below wr.heap.size wr w' := fun hS hG hr =>
    ((dRight p c1 c2 c3 hp).2 S _ [.agg us] hS hG (RepL.cons hr (RepL.nil _ _ _))).mono fun e w' ⟨v, q1, q2, q3⟩ => by
      rw [hright] at q3
      rw [rep_v q3] at q1; exact ⟨q1, q2⟩
  have hpv0 := rep_std (fun b hb => hB0.block b (hS b hb)) hpv rfl (fun _ h => h)
  go_enter Tryd.func12, Tryd.ntmps12
  go_upto_region 1 with (fail)
  refine wp_region_lit ?_
  refine wpList_load_mid rfl 27 (.tmp 1) rfl w.heap.size 0 rfl us.toList _ (hrange w0 hbox) Tryd.underlying27 rfl hlen ?_
  simp only [Act.put, List.setIfInBounds_toArray, List.set_cons_zero, List.set_cons_succ, Array.toArray_toList]
  go_wp2_with (go_at_fn 14; refine (cR hS0 hG0 hpv0).mono ?_)
  rintro e w1 ⟨rfl, hb1⟩
  have hlt1 : w.heap.size < w1.heap.size := Nat.lt_of_lt_of_le hlt0 hb1.size
  have hK : ∀ wx, Std (· < w1.heap.size) w1 wx → (∀ b, S b → b < wx.heap.size) ∧ GOk C0 S wx ∧ Rep S wx noB (.agg (planL p c1 c2 c3)) (.agg us) ∧ wx.rangeAt w.heap.size 0 us.toList := fun wx hwx => by
    have hS1 : ∀ b, S b → b < w1.heap.size := fun b hb => Nat.lt_of_lt_of_le (hS0 b hb) hb1.size
    have hst : ∀ b, S b → wx.heap[b]? = w0.heap[b]? := fun b hb => (hwx.block b (hS1 b hb)).trans (hb1.block b (hS0 b hb))
    exact ⟨fun b hb => Nat.lt_of_lt_of_le (hS1 b hb) hwx.size, gok_std hst (fun _ h => h) hG0, rep_std hst hpv0 rfl (fun _ h => h), hrange _ (((hwx.block _ hlt1).trans (hb1.block _ hlt0)).trans hbox)⟩
  have hSw1 : ∀ b, S b → b < w1.heap.size := fun b hb => Nat.lt_of_lt_of_le (hS0 b hb) hb1.size
  have HK := hid hK
  clear hK
  generalize hw2 : w1.alloc (.cells #[.pointer none, .slice none 0 0] 62) = w2
  have HB2 : Hid (Bd (· < w1.heap.size) w1.heap.size (textTo p 0) w2) := hw2 ▸ Bd.new (fun k hk => hk)
  have HW2 : Hid (Std (· < w1.heap.size) w1 w2) := by rw [← hw2]; exact Std.of ((Below.refl _ _).alloc (Nat.le_refl _) _) (fun _ h => h)
  have HR := hid hR
  clear hrange hbox hpv0 hG0 hS0 cR hR hr h1 hl hpv hu
  go_wp2_with fail
  go_loopw [11] (fun i wr => ∃ k : Nat, i = .int .i64 k ∧ k ≤ 14 ∧ Hid (Bd (· < w1.heap.size) w1.heap.size (textTo p k) wr) ∧ Hid (Std (· < w1.heap.size) w1 wr)) (fun i _ => 14 - (RowKit.intOf i).toNat)
  case atStart => exact ⟨0, rfl, by omega, HB2, HW2⟩
  case round =>
    obtain ⟨k, rfl, hk, HB, HW⟩ := hrel
    by_cases hk14 : k < 14
    · have hx := HK.out wr HW.out
      have hN := (dName k hk14).vals (vs := [.int .i64 k]) rfl hx.1 hx.2.1
      have htx := text_small HR.out (k := k + 1) (by omega)
      go_wp2_with (go_at_fn 23; refine hN.mono ?_)
      rintro e w3 ⟨rfl, hb3⟩
      have hB3 := HB.out.below (S' := (· < w1.heap.size)) hb3 (fun _ h => .inl h)
      have hW3 := HW.out.trans (Std.of hb3 HB.out.lt) (fun _ h => h)
      have hlk : (textTo p k).length + ((LineL p k).length + 1) ≤ 9814 := by
        have : (textTo p (k + 1)).length = (textTo p k).length + ((LineL p k).length + 1) := by show (textTo p k ++ (LineL p k ++ [10])).length = _; simp only [List.length_append, List.length_singleton]
        omega
      have hLn : LineL p k = nameL k ++ tailW (writtenL p k) := join_tailW _ _
      have hnl : (LineL p k).length = (nameL k).length + (tailW (writtenL p k)).length := by rw [hLn, List.length_append]
      go_wp2_with (go_at_fn 33; refine (bWrite hB3 (sB (nameL k)) (by show _ + (nameL k).length ≤ _; omega)).mono ?_)
      rintro e w4 ⟨rfl, hB4, hW4'⟩
      have HW4 : Hid (Std (· < w1.heap.size) w1 w4) := hW3.trans hW4' (fun _ h => h)
      have HB4 : Hid (Bd (· < w1.heap.size) w1.heap.size (textTo p k ++ nameL k) w4) := hB4
      clear hB3 hW3 hB4 hW4' hN hx hb3
      have hx := HK.out w4 HW4.out
      obtain ⟨cl, hWr⟩ := dWritten p c1 c2 c3 hp HR.out k hk14
      have hWr' := hWr.2 S w4 [.agg us, .int .i64 k] hx.1 hx.2.1 (RepL.cons hx.2.2.1 (RepL.cons (.v _) (RepL.nil _ _ _)))
      go_upto_region 8 with (fail)
      refine wp_region_lit ?_
      refine wpList_load_mid rfl 27 (.tmp 1) rfl w.heap.size 0 rfl us.toList _ hx.2.2.2 Tryd.underlying27 rfl hlen ?_
      simp only [Act.put, List.setIfInBounds_toArray, List.set_cons_zero, List.set_cons_succ, Array.toArray_toList]
      go_wp2_with (go_at_fn 34; refine hWr'.mono ?_)
      rintro e w5 ⟨v, rfl, hb5, hv⟩
      obtain ⟨A, n, c, bk, o, hve, hn, hA, hcell⟩ := rep_strs hv
      subst hve
      have HB5 : Hid (Bd (fun x => x < w1.heap.size ∨ (w4.heap.size ≤ x ∧ x < w5.heap.size)) w1.heap.size (textTo p k ++ nameL k ++ tailW ((writtenL p k).take 0)) w5) := by
        have := HB4.out.below (S' := fun x => x < w1.heap.size ∨ (w4.heap.size ≤ x ∧ x < w5.heap.size)) hb5 (fun _ h => h)
        show Bd _ _ (textTo p k ++ nameL k ++ []) w5
        rw [List.append_nil]; exact this
      have HW5 : Hid (Std (· < w1.heap.size) w1 w5) := HW4.out.trans (Std.of hb5 HB4.out.lt) (fun _ h => h)
      have HA : Hid (0 < n → A = some ⟨bk, o, none⟩ ∧ (bk < w1.heap.size ∨ (w4.heap.size ≤ bk ∧ bk < w5.heap.size))) := fun h => ⟨(hA h).1, (hA h).2.imp (hSw1 bk) id⟩
      have HC := hid hcell
      have Hn := hid hn
      clear hWr' hWr hb5 hv hA hcell hn hx
      go_wp2_with fail
      go_loopw [21] (fun i wx => ∃ j : Nat, i = .int .i64 j ∧ j ≤ n ∧ Hid (Bd (fun x => x < w1.heap.size ∨ (w4.heap.size ≤ x ∧ x < w5.heap.size)) w1.heap.size (textTo p k ++ nameL k ++ tailW ((writtenL p k).take j)) wx) ∧ Hid (Std (fun x => x < w1.heap.size ∨ (w4.heap.size ≤ x ∧ x < w5.heap.size)) w5 wx)) (fun i _ => n - (RowKit.intOf i).toNat)
      case atStart => exact ⟨0, rfl, Nat.zero_le _, HB5, Std.refl _ _⟩
      case round =>
        obtain ⟨j, rfl, hj, HBx, HWx⟩ := hrel
        by_cases hjn : j < n
        · obtain ⟨rfl, hbk⟩ := HA.out (by omega)
          obtain ⟨x, hx⟩ : ∃ x, (writtenL p k)[j]? = some x := ⟨_, List.getElem?_eq_getElem (by rw [← Hn.out]; exact hjn)⟩
          have hcj : wr.cell? ⟨bk, o + j, none⟩ = some (.string (sB x)) := by
            rw [cell_of_heap (HWx.out.block bk hbk)]; exact HC.out j x hx
          have hnx : textTo p k ++ nameL k ++ tailW ((writtenL p k).take j) ++ (32 :: x) = textTo p k ++ nameL k ++ tailW ((writtenL p k).take (j + 1)) := by rw [List.append_assoc, tailW_next hx]
          have hle := tailW_le (writtenL p k) (j + 1)
          have hn9 : n ≤ 9814 := by have := tailW_ge (writtenL p k); have := Hn.out; omega
          have hl5 : (textTo p k ++ nameL k ++ tailW ((writtenL p k).take j)).length + (32 :: x).length ≤ 9814 := by
            have := congrArg List.length hnx
            rw [List.length_append] at this
            rw [this]; simp only [List.length_append]; omega
          have cW : ∀ s : ByteArray, s = sB (32 :: x) → Calls Tryd.prog 33 #[.pointer (some ⟨w1.heap.size, 0, none⟩), .string s] wr fun e w' => e = .returned (.tuple #[.int .i64 s.size, .nilIface]) ∧ Bd (fun x => x < w1.heap.size ∨ (w4.heap.size ≤ x ∧ x < w5.heap.size)) w1.heap.size (textTo p k ++ nameL k ++ tailW ((writtenL p k).take (j + 1))) w' ∧ Std (fun x => x < w1.heap.size ∨ (w4.heap.size ≤ x ∧ x < w5.heap.size)) wr w' := fun s hs => by
            subst hs
            rw [← hnx]
            exact bWrite HBx.out (sB (32 :: x)) (by show _ + (32 :: x).length ≤ _; omega)
          have hcat : ¬ (9223372036854775807 < 1 + (sB x).size) := by
            rw [List.length_cons] at hl5
            show ¬ (9223372036854775807 < 1 + x.length); omega
          clear hx hnx hle
          go_wp2_with (go_at_fn 33; refine (cW _ (cat_sB [32] x)).mono ?_)
          rintro e w6 rfl hB6 hW6
          rw [← List.append_assoc] at hB6
          have HB6 := hid hB6
          have HW6 : Hid (Std (fun x => x < w1.heap.size ∨ (w4.heap.size ≤ x ∧ x < w5.heap.size)) w5 w6) := HWx.out.trans hW6 (fun _ h => h)
          clear hB6 hW6 cW hcj
          go_wp2_with fail
          go_roundw
          case rel => exact ⟨j + 1, by go_num, by omega, HB6, HW6⟩
          case measure => simp [RowKit.intOf]; omega
        · have hje : j = n := by omega
          subst hje
          have hB7 := HBx.out
          rw [Hn.out, List.take_length] at hB7
          have hW7 : Std (· < w1.heap.size) w1 wr := HW5.out.trans HWx.out (fun _ h => .inl h)
          have hB8 := hB7.below (S' := (· < w1.heap.size)) (Below.refl _ _) (fun _ h => .inl (.inl h))
          have hB9 := bWrite hB8 (sB [10]) (by show _ + 1 ≤ _; simp only [List.length_append]; omega)
          rw [show (sB [10]).data.toList = [10] from rfl, show textTo p k ++ nameL k ++ tailW (writtenL p k) ++ [10] = textTo p (k + 1) by show _ = textTo p k ++ (LineL p k ++ [10]); rw [hLn]; simp only [List.append_assoc]] at hB9
          have HW7 := hid hW7
          clear hB7 hW7 hB8
          go_wp2_with (go_at_fn 33; refine Calls.mono hB9 ?_)
          rintro e w8 ⟨rfl, hBe, hWe⟩
          have HBe := hid hBe
          have HWe : Hid (Std (· < w1.heap.size) w1 w8) := HW7.out.trans hWe (fun _ h => h)
          clear hBe hWe hB9
          go_wp2_with fail
          go_roundw
          case rel => exact ⟨k + 1, by go_num, by omega, HBe, HWe⟩
          case measure => simp [RowKit.intOf]; omega
    · have hke : k = 14 := by omega
      subst hke
      have hT := bString HB.out (by show textTo p 13 ++ (LineL p 13 ++ [10]) ≠ []; simp)
      go_wp2_with (go_at_fn 35; refine hT.mono ?_)
      rintro e w9 ⟨rfl, hW9⟩
      have HW9 := HW.out.trans hW9 (fun _ h => h)
      go_wp2_with fail
      go_ret2
      refine ⟨_, rfl, (hB0.trans (hb1.mono hB0.size)).trans (HW9.to fun k hk => Nat.lt_trans hk hlt1), ?_⟩
      exact .tup _ _ rfl fun i a u q1 q2 => by
        match i with
        | 0 => obtain rfl := Option.some.inj q1; obtain rfl := Option.some.inj q2; exact .v _
        | 1 => obtain rfl := Option.some.inj q1; obtain rfl := Option.some.inj q2; exact .v _
        | i + 2 => simp at q1
theorem dPrint0 (p : ScPlan) (a b c : Bool) (hp : p.ok) (hr : rightP p = false) : DCall C0 12 [.agg (planL p a b c)] (.tup [vS [], vI 1]) := by
  refine DCall.intro c0Ok Tryd.func12 rfl rfl (by kernel_rfl) rfl <| cSeq <| cReg rfl <| rAl 0 rfl rfl <| oR 2 rfl <| rE 3 <| cSeq <| cSeq <| cReg rfl <| oR 1 rfl <| rCl rfl (.inl rfl) (hr ▸ dRight p a b c hp) <| oR 1 rfl <| rE 6 ?_
  refine cCond rfl (fun _ => ?_) (fun h1 => by cases h1)
  refine cSeq <| cReg rfl <| oR 2 rfl <| rE 8 <| cRet ?_
  exact finTA rfl (by repeat' (first | exact trivial | constructor)) rfl rfl
def prtP (p : ScPlan) : W := if rightP p = true then textTo p 14 else []
def prtE (p : ScPlan) : Int := if rightP p = true then 0 else 1
theorem dPrint (p : ScPlan) (a b c : Bool) (hp : p.ok) : DCall C0 12 [.agg (planL p a b c)] (.tup [vS (prtP p), vI (prtE p)]) := by
  cases hr : rightP p with
  | true => unfold prtP prtE; rw [hr, if_pos rfl, if_pos rfl]; exact dPrint1 p a b c hp ((rightP_iff hp).1 hr)
  | false => unfold prtP prtE; rw [hr, if_neg (by decide), if_neg (by decide)]; exact dPrint0 p a b c hp hr
structure ScPlan.big (p : ScPlan) : Prop where
  lat : p.lat.length ≤ 9223372036854775807
  tape : p.tape.length ≤ 9223372036854775807
  tp : ∀ x ∈ p.tape, x ≤ 4294967295
  prog : p.prog.length ≤ 9223372036854775807
  pr : ∀ x ∈ p.prog, x ≤ 4294967295
  mem : p.mem.length ≤ 9223372036854775807
def fewP (p : ScPlan) : ScPlan := { p with lat := p.lat.take (min p.lat.length 100), tape := p.tape.take (min p.tape.length 100), prog := p.prog.take (min p.prog.length 100), mem := p.mem.take (min p.mem.length 400) }
theorem few_ok {p : ScPlan} (h : p.big) : (fewP p).ok := by
  have ml : ∀ {α : Type} (l : List α) (n : Nat), n ≤ 900000 → (l.take (min l.length n)).length ≤ 900000 := fun l n hn => by rw [List.length_take]; omega
  exact ⟨ml _ _ (by decide), ml _ _ (by decide), fun x hx => h.tp x (List.mem_of_mem_take hx), ml _ _ (by decide), fun x hx => h.pr x (List.mem_of_mem_take hx), ml _ _ (by decide)⟩
theorem dFew (p : ScPlan) (a b c : Bool) (hp : p.big) : DCall C0 11 [.agg (planL p a b c)] (.agg (planL (fewP p) (a && false) (b && false) (c && false))) := by
  refine dc1 (DCall.intro c1Ok Tryd.func11 rfl rfl (by kernel_rfl) rfl ?_)
  refine cSeq <| cReg rfl <| rAl 0 rfl rfl <| rAl 1 rfl rfl <| rE 2 <| cSeq <| cLate rfl rfl <| oR 6 rfl <| rOk (x := vN p.lat.length) rfl rfl (lenMap rowI p.lat) <| rOk (x := vN (min p.lat.length 100)) rfl rfl (minN64 p.lat.length 100) ?_
  refine rNeed (x := .sl 1 ((p.lat.take (min p.lat.length 100)).map rowI) (a && false)) rfl rfl (needS (sliceH rowI p.lat (min p.lat.length 100))) (by refine ⟨?_, ?_, ?_⟩; all_goals (first | exact Int.natCast_nonneg _ | decide | (apply Int.ofNat_le.2; exact omT) | (show ((_ : Nat) : Int) = ((_ : Nat) : Int); congr 1; omega) | rfl)) ?_
  refine oR 6 rfl <| rOk (x := vN p.tape.length) rfl rfl (lenMap rowU p.tape) <| rOk (x := vN (min p.tape.length 100)) rfl rfl (minN64 p.tape.length 100) ?_
  refine rNeed (x := .sl 1 ((p.tape.take (min p.tape.length 100)).map rowU) (b && false)) rfl rfl (needS (sliceH rowU p.tape (min p.tape.length 100))) (by refine ⟨?_, ?_, ?_⟩; all_goals (first | exact Int.natCast_nonneg _ | decide | (apply Int.ofNat_le.2; exact omT) | (show ((_ : Nat) : Int) = ((_ : Nat) : Int); congr 1; omega) | rfl)) ?_
  refine oR 4 rfl <| rOk (x := vN p.prog.length) rfl rfl (lenMap rowU p.prog) <| rOk (x := vN (min p.prog.length 100)) rfl rfl (minN64 p.prog.length 100) ?_
  refine rNeed (x := .sl 1 ((p.prog.take (min p.prog.length 100)).map rowU) (c && false)) rfl rfl (needS (sliceH rowU p.prog (min p.prog.length 100))) (by refine ⟨?_, ?_, ?_⟩; all_goals (first | exact Int.natCast_nonneg _ | decide | (apply Int.ofNat_le.2; exact omT) | (show ((_ : Nat) : Int) = ((_ : Nat) : Int); congr 1; omega) | rfl)) ?_
  refine oR 4 rfl <| rOk (x := vN p.mem.length) rfl rfl rfl <| rOk (x := vN (min p.mem.length 400)) rfl rfl (minN64 p.mem.length 400) <| rNeed (x := vS (p.mem.take (min p.mem.length 400))) rfl rfl (needSt (ext_to p.mem (min p.mem.length 400))) (⟨Int.le_refl _, Int.natCast_nonneg _, Int.ofNat_le.2 (by show (min p.mem.length 400) ≤ p.mem.length; omega)⟩) <| oR 2 rfl <| rSt rfl <| oR 2 rfl <| rSt rfl <| oR 1 rfl <| rSt rfl <| oR 1 rfl <| rSt rfl <| rE 44 <| And.intro (by kernel_rfl) <| cSeq <| cReg rfl ?_
  refine oR 1 rfl <| rSt rfl <| rE 46 <| cRet ?_
  exact finTA rfl (by repeat' (first | exact trivial | constructor)) rfl rfl
theorem prtE_1 {p : ScPlan} (h : rightP p = false) : prtE p = 1 ∧ prtP p = [] := by unfold prtE prtP; rw [h, if_neg (by decide), if_neg (by decide)]; exact ⟨rfl, rfl⟩
theorem prtE_0 {p : ScPlan} (h : rightP p = true) : prtE p = 0 ∧ prtP p = textTo p 14 := by unfold prtE prtP; rw [h, if_pos rfl, if_pos rfl]; exact ⟨rfl, rfl⟩
open Go.RowKit Go.ChangeShapes Go.WideShapes Go.ChangeAt Go.Deep
theorem u32_natM {n : Int} (h : (Lit.int .u32 n).wf = true) : ∃ m : Nat, n = m ∧ m ≤ 4294967295 := by
  simp only [Lit.wf, IntKind.min, IntKind.max, IntKind.signed, IntKind.bits, Bool.and_eq_true, decide_eq_true_eq] at h
  simp at h
  exact ⟨n.toNat, by omega, by omega⟩
theorem tv_int {cs : List AV} (h : TyV Tryd.prog 3 cs) : ∃ n : Int, cs = [.v (.int .i64 n)] ∧ True := by
  have hu := Tryd.underlying3
  cases h with
  | int h n hn => rw [hu] at h; injection h with h; injection h with h; subst h; exact ⟨n, rfl, trivial⟩
  | bool h => rw [hu] at h; cases h
  | string h => rw [hu] at h; cases h
  | slice h => rw [hu] at h; cases h
  | struct h => rw [hu] at h; cases h
  | array h => rw [hu] at h; cases h
theorem tv_u32 {cs : List AV} (h : TyV Tryd.prog 58 cs) : ∃ n : Nat, cs = [.v (.int .u32 (n : Int))] ∧ n ≤ 4294967295 := by
  have hu := Tryd.underlying58
  cases h with
  | int h n hn =>
    rw [hu] at h; injection h with h; injection h with h; subst h
    obtain ⟨m, rfl, hm⟩ := u32_natM hn
    exact ⟨m, rfl, hm⟩
  | bool h => rw [hu] at h; cases h
  | string h => rw [hu] at h; cases h
  | slice h => rw [hu] at h; cases h
  | struct h => rw [hu] at h; cases h
  | array h => rw [hu] at h; cases h
theorem tv_bool {cs : List AV} (h : TyV Tryd.prog 4 cs) : ∃ b : Bool, cs = [.v (.bool b)] ∧ True := by
  have hu := Tryd.underlying4
  cases h with
  | bool h b => exact ⟨b, rfl, trivial⟩
  | int h => rw [hu] at h; cases h
  | string h => rw [hu] at h; cases h
  | slice h => rw [hu] at h; cases h
  | struct h => rw [hu] at h; cases h
  | array h => rw [hu] at h; cases h
theorem tv_str {cs : List AV} (h : TyV Tryd.prog 9 cs) : ∃ b : ByteArray, cs = [.v (.string b)] ∧ b.size ≤ maxLen := by
  have hu := Tryd.underlying9
  cases h with
  | string h b hb => exact ⟨b, rfl, hb⟩
  | int h => rw [hu] at h; cases h
  | bool h => rw [hu] at h; cases h
  | slice h => rw [hu] at h; cases h
  | struct h => rw [hu] at h; cases h
  | array h => rw [hu] at h; cases h
theorem rows_of {α : Type} {f : α → List AV} {p : α → Prop} : ∀ (rows : List (List AV)), (∀ row ∈ rows, ∃ x, row = f x ∧ p x) → ∃ l : List α, rows = l.map f ∧ l.length = rows.length ∧ ∀ x ∈ l, p x
  | [], _ => ⟨[], rfl, rfl, fun x h => by cases h⟩
  | row :: rows, h => by
    obtain ⟨x, rfl, hx⟩ := h row (List.mem_cons_self)
    obtain ⟨l, rfl, hl, hp⟩ := rows_of rows fun r hr => h r (List.mem_cons_of_mem _ hr)
    exact ⟨x :: l, rfl, by simp, fun y hy => by rcases List.mem_cons.1 hy with rfl | hy; exact hx; exact hp y hy⟩
theorem tv_slice {α : Type} {t e : TypeId} {k : Nat} {f : α → List AV} {p : α → Prop} (hu : Tryd.prog.underlying t = some (.slice e)) (hk : Tryd.prog.cellsOf e = k) (hrow : ∀ row, TyV Tryd.prog e row → ∃ x, row = f x ∧ p x) {cs : List AV} (h : TyV Tryd.prog t cs) :
    ∃ l : List α, cs = [.sl k (l.map f) false] ∧ l.length ≤ 9223372036854775807 ∧ ∀ x ∈ l, p x := by
  cases h with
  | slice h rows hl hr hrs =>
    rw [hu] at h; injection h with h; injection h with h; subst h; subst hk
    obtain ⟨l, rfl, h1, h2⟩ := rows_of rows fun row hrow' => hrow row (hr row hrow')
    exact ⟨l, rfl, Nat.le_trans (Nat.le_of_eq h1) (Nat.le_trans hl (by decide)), h2⟩
  | int h => rw [hu] at h; cases h
  | bool h => rw [hu] at h; cases h
  | string h => rw [hu] at h; cases h
  | struct h => rw [hu] at h; cases h
  | array h => rw [hu] at h; cases h
theorem tv_u32R (row : List AV) (h : TyV Tryd.prog 58 row) : ∃ n : Nat, row = rowU n ∧ n ≤ 4294967295 := tv_u32 h
theorem tv_intR (row : List AV) (h : TyV Tryd.prog 3 row) : ∃ n : Int, row = rowI n ∧ True := tv_int h
theorem tv_u32s {cs : List AV} (h : TyV Tryd.prog 23 cs) : ∃ l : List Nat, cs = [.sl 1 (l.map rowU) false] ∧ l.length ≤ 9223372036854775807 ∧ ∀ x ∈ l, (fun n : Nat => n ≤ 4294967295) x :=
  tv_slice (f := rowU) (p := (fun n : Nat => n ≤ 4294967295)) Tryd.underlying23 (by kernel_rfl) (fun row hr => tv_u32R _ hr) h
theorem tv_ints {cs : List AV} (h : TyV Tryd.prog 22 cs) : ∃ l : List Int, cs = [.sl 1 (l.map rowI) false] ∧ l.length ≤ 9223372036854775807 ∧ ∀ x ∈ l, (fun (_ : Int) => True) x :=
  tv_slice (f := rowI) (p := (fun (_ : Int) => True)) Tryd.underlying22 (by kernel_rfl) (fun row hr => tv_intR _ hr) h
theorem tv_conf {cs : List AV} (h : TyV Tryd.prog 25 cs) : ∃ x : Cf, cs = cfL x false false ∧ x.ok := by
  have hu := Tryd.underlying25
  cases h with
  | bool h => rw [hu] at h; cases h
  | int h => rw [hu] at h; cases h
  | string h => rw [hu] at h; cases h
  | slice h => rw [hu] at h; cases h
  | array h => rw [hu] at h; cases h
  | struct h parts hp =>
    rw [hu] at h; injection h with h; injection h with h; subst h
    obtain ⟨x0, e0, p0⟩ := tv_int (hp 0 _ rfl)
    obtain ⟨x1, e1, p1⟩ := tv_int (hp 1 _ rfl)
    obtain ⟨x2, e2, p2⟩ := tv_int (hp 2 _ rfl)
    obtain ⟨x3, e3, p3⟩ := tv_int (hp 3 _ rfl)
    obtain ⟨x4, e4, p4⟩ := tv_int (hp 4 _ rfl)
    obtain ⟨x5, e5, p5⟩ := tv_int (hp 5 _ rfl)
    obtain ⟨x6, e6, p6⟩ := tv_int (hp 6 _ rfl)
    obtain ⟨x7, e7, p7⟩ := tv_int (hp 7 _ rfl)
    obtain ⟨x8, e8, p8⟩ := tv_ints (hp 8 _ rfl)
    obtain ⟨x9, e9, p9⟩ := tv_bool (hp 9 _ rfl)
    obtain ⟨x10, e10, p10⟩ := tv_u32s (hp 10 _ rfl)
    refine ⟨⟨x0, x1, x2, x3, x4, x5, x6, x7, x8, x9, x10⟩, ?_, ⟨p8.1, p10.1, p10.2⟩⟩
    show parts 0 ++ (parts 1 ++ (parts 2 ++ (parts 3 ++ (parts 4 ++ (parts 5 ++ (parts 6 ++ (parts 7 ++ (parts 8 ++ (parts 9 ++ (parts 10 ++ [])))))))))) = _
    rw [e0, e1, e2, e3, e4, e5, e6, e7, e8, e9, e10]; rfl
theorem tv_plan {cs : List AV} (h : TyV Tryd.prog 27 cs) : ∃ x : ScPlan, cs = planL x false false false ∧ x.big := by
  have hu := Tryd.underlying27
  cases h with
  | bool h => rw [hu] at h; cases h
  | int h => rw [hu] at h; cases h
  | string h => rw [hu] at h; cases h
  | slice h => rw [hu] at h; cases h
  | array h => rw [hu] at h; cases h
  | struct h parts hp =>
    rw [hu] at h; injection h with h; injection h with h; subst h
    obtain ⟨x0, e0, p0⟩ := tv_conf (hp 0 _ rfl)
    obtain ⟨x1, e1, p1⟩ := tv_u32s (hp 1 _ rfl)
    obtain ⟨x2, e2, p2⟩ := tv_str (hp 2 _ rfl)
    obtain ⟨x3, e3, p3⟩ := tv_int (hp 3 _ rfl)
    refine ⟨⟨x0.mode, x0.width, x0.rob, x0.queue, x0.stores, x0.slots, x0.sets, x0.ways, x0.tables, x0.lat, x0.tape, x1, x2.data.toList, x3⟩, ?_, ⟨p0.lat, p0.tape, p0.tp, p1.1, p1.2, Nat.le_trans p2 (by decide)⟩⟩
    show parts 0 ++ (parts 1 ++ (parts 2 ++ (parts 3 ++ []))) = _
    rw [e0, e1, e2, e3]; rfl
set_option maxRecDepth 100000 in
theorem open_plan {H : Type} {enc : TypeId × Value → H} {w : World} {base : Nat} {spare : Nat → Bool} {held : Bool} {r : Reach} {b0 : Nat} {v : Value} {d : DataW H} {p : List MemPlace}
    (hv : Value.okWide Tryd.prog w r b0 27 v) (h : DataW.Trod enc Tryd.prog w base spare held 27 v d p) :
    ∃ c : ScPlan, Rep (· < w.heap.size) w noB (.agg (planL c false false false)) v ∧ c.big := by
  obtain ⟨cs, rfl, hsz⟩ := okWide_struct Tryd.underlying27 hv
  obtain ⟨fuel, hf⟩ := h
  obtain ⟨cells, ho⟩ := trod_opened 7 fuel _ _ _ hf (by kernel_rfl)
  obtain ⟨c, rfl, hc⟩ := tv_plan ho.ty
  refine ⟨c, .agg _ cs ?_ (fun i u hu => ho.one u ?_) (fun i a u h1 h2 => ho.rep.2 i a u h1 ?_), hc⟩
  · exact ho.rep.1
  · exact Array.mem_toList_iff.2 (Array.mem_of_getElem? hu)
  · show cs.toList[i]? = some u
    rw [Array.getElem?_toList]; exact h2
theorem rep_cap {S : Nat → Prop} {w : World} {k : Nat} {rows : List (List AV)} {cl : Bool} {A : Option Addr} {n c : Nat} (h : Rep S w noB (.sl k rows cl) (.slice A n c)) : n ≤ c := by
  cases h with
  | sl rs rows clip A c b o u hc hm hcl hrs hA hw h1 hr' => exact hc
theorem join_nil : ∀ l : List W, Lib.join l [] = l.flatten
  | [] => rfl
  | x :: r => by
    rw [Lib.join_cons, List.flatten_cons]
    unfold Lib.joinTail
    rw [show (([] : List UInt8) ++ ·) = id from funext fun _ => rfl, List.map_id]
theorem dJoin (l : List W) (cl : Bool) (hn : l.length ≤ 900000) (ht : l.flatten.length ≤ 900000) : DCall C0 17 [.sl 1 (l.map rowS) cl, vS []] (vS l.flatten) := by
  refine ⟨⟨Tryd.f17, Tryd.func17, rfl, by kernel_rfl⟩, fun S w vs hS hG hu => ?_⟩
  obtain ⟨v, rfl, hv⟩ : ∃ v, vs = [v, .string ⟨#[]⟩] ∧ Rep S w noB (.sl 1 (l.map rowS) cl) v := by
    match vs, hu with
    | [x, y], hu =>
      have h1 := rep_v (hu.2 1 _ _ rfl rfl)
      exact ⟨x, by rw [h1]; rfl, hu.2 0 _ _ rfl rfl⟩
    | [], hu => cases hu.1
    | [x], hu => cases hu.1
    | x :: y :: z :: t, hu => cases hu.1
  obtain ⟨A, n, c, bk, o, rfl, hln, hA, hcell⟩ := rep_strs hv
  have hcap := rep_cap hv
  rcases Nat.eq_zero_or_pos n with h0 | h0
  · subst h0
    obtain rfl := List.eq_nil_of_length_eq_zero hln.symm
    refine (Any.strings_Join_none lays156 Builder_Extra_156 A c ⟨#[]⟩ w).mono fun e w' h => ⟨_, h.1, by rw [h.2]; exact Below.refl _ _, .v _⟩
  · obtain ⟨rfl, hb⟩ := hA h0
    have hj : Lib.join ((l.map sB).map (·.data.toList)) [] = l.flatten := by
      rw [join_nil, List.map_map, show ((fun x : ByteArray => x.data.toList) ∘ sB) = id from funext fun _ => rfl, List.map_id]
    have h := Any.strings_Join lays156 Builder_Extra_156 bk o c (l.map sB) ⟨#[]⟩ w (fun j x hx => by
        rw [List.getElem?_map] at hx
        obtain ⟨y, hy, rfl⟩ := Option.map_eq_some_iff.1 hx
        exact hcell j y hy) (hS bk hb) (by rw [List.length_map]; omega) (by rw [List.length_map]; omega) (by show (Lib.join ((l.map sB).map (·.data.toList)) []).length ≤ _; rw [hj]; omega)
    rw [List.length_map, ← hln] at h
    refine h.mono fun e w' h => ⟨_, h.1, h.2, ?_⟩
    show Rep _ _ _ (vS l.flatten) (.string ⟨(Lib.join ((l.map sB).map (·.data.toList)) []).toArray⟩)
    rw [hj]; exact .v _
def linesT (p : ScPlan) : List W := ((List.range 14).map fun k => LineL p k ++ [10]) ++ [[]]
theorem text_lines (p : ScPlan) : ∀ n, textTo p n = ((List.range n).map fun k => LineL p k ++ [10]).flatten
  | 0 => rfl
  | n + 1 => by
    rw [List.range_succ, List.map_append, List.flatten_append, ← text_lines p n]
    show textTo p n ++ (LineL p n ++ [10]) = _
    simp
theorem piece_lines {c : UInt8} : ∀ ws : List W, (∀ w ∈ ws, c ∉ w) → pieceL c 1 ws.length ((ws.map (· ++ [c])).flatten) = ws.map (· ++ [c]) ++ [[]] ∧ ((ws.map (· ++ [c])).flatten).count c = ws.length
  | [], _ => ⟨rfl, rfl⟩
  | w :: ws, h => by
    obtain ⟨ih1, ih2⟩ := piece_lines ws fun x hx => h x (List.mem_cons_of_mem _ hx)
    have hw := h w List.mem_cons_self
    have e : ((w :: ws).map (· ++ [c])).flatten = w ++ c :: (ws.map (· ++ [c])).flatten := by simp
    have hc := cut_app (s := (ws.map (· ++ [c])).flatten) hw
    rw [e]
    constructor
    · show pieceL c 1 (ws.length + 1) _ = _
      unfold pieceL
      rw [hc, if_pos rfl]
      show (w ++ c :: (ws.map (· ++ [c])).flatten).take (w.length + 1) :: pieceL c 1 ws.length ((ws.map (· ++ [c])).flatten) = _
      rw [ih1, show w ++ c :: (ws.map (· ++ [c])).flatten = (w ++ [c]) ++ (ws.map (· ++ [c])).flatten by simp, List.take_left' (by simp)]; rfl
    · rw [List.count_append, List.count_cons_self, ih2, List.count_eq_zero_of_not_mem hw, List.length_cons]; omega
theorem pieces_text {p : ScPlan} (h : ∀ k, k < 14 → (10 : UInt8) ∉ LineL p k) : pieceL 10 1 ((textTo p 14).count 10) (textTo p 14) = linesT p := by
  have := piece_lines (c := 10) ((List.range 14).map fun k => LineL p k) fun w hw => by
    obtain ⟨k, hk, rfl⟩ := List.mem_map.1 hw
    exact h k (List.mem_range.1 hk)
  rw [List.map_map, List.length_map, List.length_range] at this
  rw [text_lines]
  rw [show (fun k => LineL p k ++ [10]) = (fun x => x ++ [10]) ∘ (fun k => LineL p k) from rfl, this.2]
  exact this.1
theorem linesT_take (p : ScPlan) {k : Nat} (hk : k ≤ 14) : ((linesT p).take k).flatten = textTo p k := by
  unfold linesT
  rw [List.take_append_of_le_length (by rw [List.length_map, List.length_range]; exact hk), ← List.map_take, List.take_range, Nat.min_eq_left hk, ← text_lines]
theorem linesT_all (p : ScPlan) : (linesT p).flatten = textTo p 14 := by
  unfold linesT
  rw [List.flatten_append, ← text_lines]; simp
theorem linesT_drop (p : ScPlan) {k : Nat} (hk : k < 14) : ((linesT p).drop (k + 1)).flatten = textFrom p (k + 1) (13 - k) := by
  have h1 : ((linesT p).take (k + 1)).flatten ++ ((linesT p).drop (k + 1)).flatten = textTo p 14 := by rw [← List.flatten_append, List.take_append_drop, linesT_all]
  have h2 := text_from p (13 - k) (k + 1)
  rw [show k + 1 + (13 - k) = 14 by omega] at h2
  rw [linesT_take p (by omega), h2] at h1
  exact List.append_cancel_left h1
def atN (a : Int) : Nat := (((a.tmod 14) + 14).tmod 14).toNat
theorem atN_lt (a : Int) : atN a ≤ 13 := by
  unfold atN
  have h1 := Int.tmod_lt_of_pos (a.tmod 14 + 14) (show (0 : Int) < 14 by decide)
  omega
theorem atN_eq (a : Int) : (atN a : Int) = ((a.tmod 14) + 14).tmod 14 := by
  unfold atN
  have h0 : -14 < a.tmod 14 := Int.lt_tmod_of_pos a (by decide)
  have h1 : 0 ≤ (a.tmod 14 + 14).tmod 14 := Int.tmod_nonneg 14 (by omega)
  omega
theorem prt_len {p : ScPlan} (hp : p.ok) : (prtP p).length ≤ 900000 := by
  unfold prtP
  split
  · rename_i h
    have := text_small ((rightP_iff hp).1 h) (k := 14) (Nat.le_refl _); omega
  · exact Nat.zero_le _
theorem prt_right {p : ScPlan} (hp : p.ok) (h : prtE p = 0) : RightL okM p ∧ prtP p = textTo p 14 := by
  cases hr : rightP p with
  | true => exact ⟨(rightP_iff hp).1 hr, (prtE_0 hr).2⟩
  | false => rw [(prtE_1 hr).1] at h; cases h
theorem dSplitT {p : ScPlan} (hp : p.ok) (h : prtE p = 0) : DCall C0 16 [vS (prtP p), .v (.string ⟨#[10]⟩)] (.sl 1 ((linesT p).map rowS) false) := by
  have q := dSplitAfter (prtP p) 10 (prt_len hp)
  obtain ⟨hR, e⟩ := prt_right hp h
  rw [e, pieces_text fun k hk => line_clear (hR k)] at q
  rw [e]; exact q
theorem rem_add (a : Int) : IntKind.wrap .i64 (a.tmod 14 + 14) = a.tmod 14 + 14 := by
  have h0 : -14 < a.tmod 14 := Int.lt_tmod_of_pos a (by decide)
  have h1 := Int.tmod_lt_of_pos a (show (0 : Int) < 14 by decide)
  exact wrap_i64 (by omega) (by omega)
theorem jn_take {p : ScPlan} (hR : RightL okM p) {k : Nat} (hk : k ≤ 13) : ((linesT p).take k).flatten.length ≤ 9814 := by
  rw [linesT_take p (by omega)]
  have := text_small hR (k := k) (by omega); omega
theorem jn_drop {p : ScPlan} (hR : RightL okM p) {k : Nat} : ((linesT p).drop (k + 1)).flatten.length ≤ 9814 := by
  have h1 : ((linesT p).take (k + 1)).flatten ++ ((linesT p).drop (k + 1)).flatten = textTo p 14 := by rw [← List.flatten_append, List.take_append_drop, linesT_all]
  have h2 := congrArg List.length h1
  have := text_small hR (k := 14) (Nat.le_refl _)
  rw [List.length_append] at h2; omega
theorem dParseL {p : ScPlan} (hR : RightL okM p) {k : Nat} (hk : k ≤ 13) : DCall C0 7 [vS (((linesT p).take k).flatten ++ ((linesT p).drop (k + 1)).flatten)] (.tup [.agg (planE plZ), vI 250, vI ((k : Int) + 1)]) := by
  have h1 := jn_take hR hk
  have h2 := jn_drop hR (k := k)
  have q := dParseZ (((linesT p).take k).flatten ++ ((linesT p).drop (k + 1)).flatten) (by rw [List.length_append]; omega)
  have e : PZ (((linesT p).take k).flatten ++ ((linesT p).drop (k + 1)).flatten) = (plZ, 250, (k : Int) + 1) := by
    rw [linesT_take p (by omega), linesT_drop p (by omega)]
    exact parse_less hR plO_right (by omega)
  rw [e] at q; exact q
theorem line13 {p : ScPlan} (hR : RightL okM p) {x : W} (hx : (linesT p)[13]? = some x) : x ≠ [] ∧ x.length ≤ 701 := by
  have : (linesT p)[13]? = some (LineL p 13 ++ [10]) := rfl
  rw [this] at hx
  obtain rfl := Option.some.inj hx
  have := line_small hR (k := 13) (by decide)
  exact ⟨by simp, by rw [List.length_append, List.length_singleton]; omega⟩
theorem dParseM {p : ScPlan} (hp : p.ok) (h : prtE p = 0) {x : W} (hx : (linesT p)[13]? = some x) : DCall C0 7 [vS (prtP p ++ x)] (.tup [.agg (planE plZ), vI 250, vI 15]) := by
  obtain ⟨hR, e⟩ := prt_right hp h
  obtain ⟨h1, h2⟩ := line13 hR hx
  rw [e]
  have := text_small hR (k := 14) (Nat.le_refl _)
  have q := dParseZ (textTo p 14 ++ x) (by rw [List.length_append]; omega)
  have e2 : PZ (textTo p 14 ++ x) = (plZ, 250, 15) := parse_more hR plO_right h1
  rw [e2] at q; exact q
theorem ln_no {p : ScPlan} (h : (prtE p != 0) = true) : cond2 true (decide (prtP p = [])) false = true := by
  cases hr : rightP p with
  | true => rw [(prtE_0 hr).1] at h; cases h
  | false => rw [(prtE_1 hr).2]; rfl
theorem ln_yes (k : Nat) : cond2 (cond2 (cond2 (cond2 true (250 == 250) false) ((((k : Nat) : Int) + 1) == (((k) + 1 : Nat) : Int)) false) (250 == 250) false) (15 == 15) false = true := by
  rw [show ((((k : Nat) : Int) + 1) == (((k) + 1 : Nat) : Int)) = true by rw [beq_iff_eq]; omega]; rfl
theorem ln_14 {p : ScPlan} {x : W} (hx : (linesT p)[14]? = some x) : x = [] := by
  have : (linesT p)[14]? = some [] := rfl
  rw [this] at hx
  exact (Option.some.inj hx).symm
set_option maxRecDepth 100000 in
set_option maxHeartbeats 4000000 in
theorem dLines (p : ScPlan) (at_ : Int) (a b c : Bool) (hp : p.big) : DCall C0 6 [.agg (planL p a b c), vI at_] (vB true) := by
  refine dc1 (DCall.intro c1Ok Tryd.func6 rfl rfl (by kernel_rfl) rfl ?_)
  have hq := few_ok hp
  have hT15 : (linesT (fewP p)).length = 15 := rfl
  have hPL := prt_len hq
  have hat := atN_lt at_
  refine cSeq ?_
  refine cReg rfl ?_
  refine rFx (d := 2) (x := .ptr 0 0) (h' := upd _ 0 (some (.box [vI p.mode, vI p.width, vI p.rob, vI p.queue, vI p.stores, vI p.slots, vI p.sets, vI p.ways, .sl 1 (p.lat.map rowI) a, vB p.tables, .sl 1 (p.tape.map rowU) b, .sl 1 (p.prog.map rowU) c, vS p.mem, vI p.cycles]))) rfl rfl (rfl) (trivial) ?_
  refine rOk (d := 4) (x := vB false) rfl rfl rfl ?_
  refine rEnd (n' := 2) rfl ?_
  refine cSeq ?_
  refine cReg rfl ?_
  refine rOk (d := 16) (x := .agg [vI p.mode, vI p.width, vI p.rob, vI p.queue, vI p.stores, vI p.slots, vI p.sets, vI p.ways, .sl 1 (p.lat.map rowI) a, vB p.tables, .sl 1 (p.tape.map rowU) b, .sl 1 (p.prog.map rowU) c, vS p.mem, vI p.cycles]) rfl rfl rfl ?_
  refine rCall (args := [.agg [vI p.mode, vI p.width, vI p.rob, vI p.queue, vI p.stores, vI p.slots, vI p.sets, vI p.ways, .sl 1 (p.lat.map rowI) a, vB p.tables, .sl 1 (p.tape.map rowU) b, .sl 1 (p.prog.map rowU) c, vS p.mem, vI p.cycles]]) (d := 17) (x := .agg (planL (fewP p) (a && false) (b && false) (c && false))) rfl rfl rfl rfl (.inl rfl) rfl (dFew p a b c hp) ?_
  refine rCall (args := [.agg (planL (fewP p) (a && false) (b && false) (c && false))]) (d := 18) (x := .tup [vS (prtP (fewP p)), vI (prtE (fewP p))]) rfl rfl rfl rfl (.inl rfl) rfl (dPrint (fewP p) _ _ _ hq) ?_
  refine rOk (d := 15) (x := .tup [vS (prtP (fewP p)), vI (prtE (fewP p))]) rfl rfl rfl ?_
  refine rOk (d := 19) (x := vS (prtP (fewP p))) rfl rfl rfl ?_
  refine rOk (d := 20) (x := vI (prtE (fewP p))) rfl rfl rfl ?_
  refine rOk (d := 5) (x := vS (prtP (fewP p))) rfl rfl rfl ?_
  refine rOk (d := 6) (x := vI (prtE (fewP p))) rfl rfl rfl ?_
  refine rEnd (n' := 10) rfl ?_
  refine cSeq ?_
  refine cSeq ?_
  refine cReg rfl ?_
  refine rOk (d := 21) (x := vI (prtE (fewP p))) rfl rfl rfl ?_
  refine rOk (d := 22) (x := vB ((prtE (fewP p)) != 0)) rfl rfl rfl ?_
  refine rEnd (n' := 12) rfl ?_
  refine cCond (v := (prtE (fewP p)) != 0) rfl (fun h1 => ?_) (fun h1 => ?_)
  · skip
    have h1p := bne_t h1
    refine cSeq ?_
    refine cReg rfl ?_
    refine rCall (args := []) (d := 23) (x := vB true) rfl rfl rfl rfl (.inl rfl) rfl (dAlive) ?_
    refine rOk (d := 24) (x := vB true) rfl rfl rfl ?_
    refine gOk (d := 25) (x := vS (prtP (fewP p))) (g := true) rfl rfl rfl rfl rfl rfl ?_
    refine gOkS (d := 26) (x := vB (decide (prtP (fewP p) = []))) (g := true) rfl rfl rfl rfl (fun h => h) rfl (okBo (eq_tL (prtP (fewP p)) ([]))) ?_
    refine rNeed (d := 27) (x := vB (cond2 true (decide (prtP (fewP p) = [])) false)) rfl rfl rfl (fun h => h) ?_
    refine rOk (d := 4) (x := vB (cond2 true (decide (prtP (fewP p) = [])) false)) rfl rfl rfl ?_
    refine rEnd (n' := 18) rfl ?_
    refine cRet ?_
    exact finTA rfl trivial rfl (bool_eq (ln_no h1))
  · skip
    have h1p := bne_f h1
    refine cSkip ?_
    refine cSeq ?_
    refine cReg rfl ?_
    refine rOk (d := 28) (x := vS (prtP (fewP p))) rfl rfl rfl ?_
    refine rCall (args := [vS (prtP (fewP p)), .v (.string (⟨#[10]⟩ : ByteArray))]) (d := 29) (x := .sl 1 ((linesT (fewP p)).map rowS) false) rfl rfl rfl rfl (.inl rfl) rfl (dSplitT hq (by simpa using h1)) ?_
    refine rOk (d := 7) (x := .sl 1 ((linesT (fewP p)).map rowS) false) rfl rfl rfl ?_
    refine rEnd (n' := 15) rfl ?_
    refine cSeq ?_
    refine cSeq ?_
    refine cReg rfl ?_
    refine rOk (d := 30) (x := .sl 1 ((linesT (fewP p)).map rowS) false) rfl rfl rfl ?_
    refine rOk (d := 31) (x := vI 15) rfl rfl rfl ?_
    refine rOk (d := 32) (x := vB (15 != 15)) rfl rfl rfl ?_
    refine rOk (d := 33) (x := vB (15 != 15)) rfl rfl rfl ?_
    refine gOk (d := 34) (x := .sl 1 ((linesT (fewP p)).map rowS) false) (g := !(15 != 15)) rfl rfl rfl rfl rfl rfl ?_
    obtain ⟨x1, hx1⟩ : ∃ y_, (linesT (fewP p))[14]? = some y_ := ⟨_, List.getElem?_eq_getElem (by first | omega | rfl | (simp only [List.length_map, List.length_cons, List.length_nil, List.length_append, List.length_set, List.length_take, List.length_drop, List.length_replicate, List.length_range, capMax]; done) | (simp only [List.length_map, List.length_cons, List.length_nil, List.length_append, List.length_set, List.length_take, List.length_drop, List.length_replicate, List.length_range, capMax]; omega) | (simp [capMax]; done) | (simp [capMax]; omega))⟩
    refine gIdxS (rowS x1) (d := 35) (x := .dp 1 0 (rowS x1)) (g := !(15 != 15)) rfl rfl rfl rfl (fun h => h) rfl rfl (fun hg => ⟨by decide, getM hx1⟩) rfl ?_
    refine gOkS (d := 36) (x := vS x1) (g := !(15 != 15)) rfl rfl rfl rfl (fun h => h) rfl rfl ?_
    refine gOkS (d := 37) (x := vB (!decide (x1 = []))) (g := !(15 != 15)) rfl rfl rfl rfl (fun h => h) rfl (okBo (congrArg (!·) (eq_tL x1 ([])))) ?_
    refine rNeed (d := 38) (x := vB (cond2 (15 != 15) true (!decide (x1 = [])))) rfl rfl rfl (by simp) ?_
    refine rEnd (n' := 24) rfl ?_
    refine cCond (v := cond2 (15 != 15) true (!decide (x1 = []))) rfl (fun h2 => ?_) (fun h2 => ?_)
    · skip
      refine cSeq ?_
      refine cReg rfl ?_
      refine rOk (d := 4) (x := vB false) rfl rfl rfl ?_
      refine rEnd (n' := 25) rfl ?_
      refine cRet ?_
      exact absurd h2 (by rw [ln_14 hx1]; decide)
    · skip
      refine cSkip ?_
      refine cSeq ?_
      refine cReg rfl ?_
      refine rOk (d := 39) (x := vI at_) rfl rfl rfl ?_
      refine rNeed (d := 40) (x := vI (at_.tmod 14)) rfl rfl rfl ((by decide)) ?_
      refine rOk (d := 41) (x := vI (at_.tmod 14 + 14)) rfl rfl (okI (rem_add at_)) ?_
      refine rNeed (d := 42) (x := vN (atN at_)) rfl rfl (needI (atN_eq at_).symm) ((by decide)) ?_
      refine rOk (d := 1) (x := vN (atN at_)) rfl rfl rfl ?_
      refine rEnd (n' := 29) rfl ?_
      refine cSeq ?_
      refine cReg rfl ?_
      refine rOk (d := 43) (x := .sl 1 ((linesT (fewP p)).map rowS) false) rfl rfl rfl ?_
      refine rOk (d := 44) (x := vN (atN at_)) rfl rfl rfl ?_
      refine rNeed (d := 45) (x := .sl 1 (((linesT (fewP p)).take (atN at_)).map rowS) false) rfl rfl (needS (sliceH rowS (linesT (fewP p)) (atN at_))) (by refine ⟨?_, ?_, ?_⟩; all_goals (first | exact Int.natCast_nonneg _ | decide | (apply Int.ofNat_le.2; first | omega | rfl | (simp only [List.length_map, List.length_cons, List.length_nil, List.length_append, List.length_set, List.length_take, List.length_drop, List.length_replicate, List.length_range, capMax]; done) | (simp only [List.length_map, List.length_cons, List.length_nil, List.length_append, List.length_set, List.length_take, List.length_drop, List.length_replicate, List.length_range, capMax]; omega) | (simp [capMax]; done) | (simp [capMax]; omega)) | (show ((_ : Nat) : Int) = ((_ : Nat) : Int); congr 1; omega) | rfl)) ?_
      have b1 : ((linesT (fewP p)).take (atN at_)).flatten.length ≤ 9814 := jn_take (prt_right hq (by simpa using h1)).1 (atN_lt at_)
      refine rCall (args := [.sl 1 (((linesT (fewP p)).take (atN at_)).map rowS) false, .v (.string (⟨#[]⟩ : ByteArray))]) (d := 46) (x := vS (((linesT (fewP p)).take (atN at_)).flatten)) rfl rfl rfl rfl (.inl rfl) rfl (dJoin _ _ (by first | (rw [List.length_take]; omega) | (rw [List.length_drop]; omega)) (by omega)) ?_
      refine rOk (d := 47) (x := .sl 1 ((linesT (fewP p)).map rowS) false) rfl rfl rfl ?_
      refine rOk (d := 48) (x := vN (atN at_)) rfl rfl rfl ?_
      have b2 : (atN at_) + 1 ≤ 14 := Nat.add_le_add (atN_lt at_) (Nat.le_refl 1)
      refine rOk (d := 49) (x := vN ((atN at_) + 1)) rfl rfl (okI (wrapI64 b2 rfl)) ?_
      refine rNeed (d := 50) (x := .sl 1 (((linesT (fewP p)).drop ((atN at_) + 1)).map rowS) false) rfl rfl (needS (sliceL rowS (linesT (fewP p)) ((atN at_) + 1))) (by refine ⟨?_, ?_, ?_⟩; all_goals (first | exact Int.natCast_nonneg _ | decide | (apply Int.ofNat_le.2; first | omega | rfl | (simp only [List.length_map, List.length_cons, List.length_nil, List.length_append, List.length_set, List.length_take, List.length_drop, List.length_replicate, List.length_range, capMax]; done) | (simp only [List.length_map, List.length_cons, List.length_nil, List.length_append, List.length_set, List.length_take, List.length_drop, List.length_replicate, List.length_range, capMax]; omega) | (simp [capMax]; done) | (simp [capMax]; omega)) | (show ((_ : Nat) : Int) = ((_ : Nat) : Int); congr 1; omega) | rfl)) ?_
      have b3 : ((linesT (fewP p)).drop ((atN at_) + 1)).flatten.length ≤ 9814 := jn_drop (prt_right hq (by simpa using h1)).1
      refine rCall (args := [.sl 1 (((linesT (fewP p)).drop ((atN at_) + 1)).map rowS) false, .v (.string (⟨#[]⟩ : ByteArray))]) (d := 51) (x := vS (((linesT (fewP p)).drop ((atN at_) + 1)).flatten)) rfl rfl rfl rfl (.inl rfl) rfl (dJoin _ _ (by first | (rw [List.length_take]; omega) | (rw [List.length_drop]; omega)) (by omega)) ?_
      refine rNeed (d := 52) (x := vS ((((linesT (fewP p)).take (atN at_)).flatten) ++ (((linesT (fewP p)).drop ((atN at_) + 1)).flatten))) rfl rfl (needSt (cat_sB (((linesT (fewP p)).take (atN at_)).flatten) (((linesT (fewP p)).drop ((atN at_) + 1)).flatten))) (by show (((((linesT (fewP p)).take (atN at_)).flatten).length + (((linesT (fewP p)).drop ((atN at_) + 1)).flatten).length : Nat) : Int) ≤ 9223372036854775807; omega) ?_
      refine rOk (d := 8) (x := vS ((((linesT (fewP p)).take (atN at_)).flatten) ++ (((linesT (fewP p)).drop ((atN at_) + 1)).flatten))) rfl rfl rfl ?_
      refine rEnd (n' := 40) rfl ?_
      refine cSeq ?_
      refine cReg rfl ?_
      refine rOk (d := 54) (x := vS ((((linesT (fewP p)).take (atN at_)).flatten) ++ (((linesT (fewP p)).drop ((atN at_) + 1)).flatten))) rfl rfl rfl ?_
      refine rCall (args := [vS ((((linesT (fewP p)).take (atN at_)).flatten) ++ (((linesT (fewP p)).drop ((atN at_) + 1)).flatten))]) (d := 55) (x := .tup [.agg (planE plZ), vI 250, vI (((atN at_ : Nat) : Int) + 1)]) rfl rfl rfl rfl (.inl rfl) rfl (dParseL (prt_right hq (by simpa using h1)).1 (atN_lt at_)) ?_
      refine rOk (d := 53) (x := .tup [.agg (planE plZ), vI 250, vI (((atN at_ : Nat) : Int) + 1)]) rfl rfl rfl ?_
      refine rOk (d := 56) (x := .agg (planE plZ)) rfl rfl rfl ?_
      refine rOk (d := 57) (x := vI 250) rfl rfl rfl ?_
      refine rOk (d := 58) (x := vI (((atN at_ : Nat) : Int) + 1)) rfl rfl rfl ?_
      refine rFx (d := 9) (x := .ptr 46 0) (h' := upd _ 46 (some (.box [vI 0, vI 0, vI 0, vI 0, vI 0, vI 0, vI 0, vI 0, .sl 0 ([]) true, vB false, .sl 0 ([]) true, .sl 0 ([]) true, .v (.string (⟨#[]⟩ : ByteArray)), vI 0]))) rfl rfl (rfl) (trivial) ?_
      refine rFx0 (h' := upd _ 46 (some (.box [vI plZ.mode, vI plZ.width, vI plZ.rob, vI plZ.queue, vI plZ.stores, vI plZ.slots, vI plZ.sets, vI plZ.ways, .sl 1 (plZ.lat.map rowI) true, vB plZ.tables, .sl 1 (plZ.tape.map rowU) true, .sl 1 (plZ.prog.map rowU) true, vS plZ.mem, vI plZ.cycles]))) rfl rfl (rfl) (trivial) ?_
      refine rOk (d := 10) (x := vI 250) rfl rfl rfl ?_
      refine rOk (d := 11) (x := vI (((atN at_ : Nat) : Int) + 1)) rfl rfl rfl ?_
      refine rEnd (n' := 50) rfl ?_
      refine cSeq ?_
      refine cReg rfl ?_
      refine rOk (d := 60) (x := vS (prtP (fewP p))) rfl rfl rfl ?_
      refine rOk (d := 61) (x := .sl 1 ((linesT (fewP p)).map rowS) false) rfl rfl rfl ?_
      obtain ⟨x2, hx2⟩ : ∃ y_, (linesT (fewP p))[13]? = some y_ := ⟨_, List.getElem?_eq_getElem (by first | omega | rfl | (simp only [List.length_map, List.length_cons, List.length_nil, List.length_append, List.length_set, List.length_take, List.length_drop, List.length_replicate, List.length_range, capMax]; done) | (simp only [List.length_map, List.length_cons, List.length_nil, List.length_append, List.length_set, List.length_take, List.length_drop, List.length_replicate, List.length_range, capMax]; omega) | (simp [capMax]; done) | (simp [capMax]; omega))⟩
      refine rIdx (rowS x2) (d := 62) (x := .dp 1 0 (rowS x2)) rfl rfl rfl (⟨by decide, getM hx2⟩) rfl ?_
      refine rOk (d := 63) (x := vS x2) rfl rfl rfl ?_
      have b4 : x2.length ≤ 701 := (line13 (prt_right hq (by simpa using h1)).1 hx2).2
      have b5 : x2.length ≤ 701 := (line13 (prt_right hq (by simpa using h1)).1 hx2).2
      refine rNeed (d := 64) (x := vS ((prtP (fewP p)) ++ x2)) rfl rfl (needSt (cat_sB (prtP (fewP p)) x2)) (by show (((prtP (fewP p)).length + x2.length : Nat) : Int) ≤ 9223372036854775807; omega) ?_
      refine rCall (args := [vS ((prtP (fewP p)) ++ x2)]) (d := 65) (x := .tup [.agg (planE plZ), vI 250, vI 15]) rfl rfl rfl rfl (.inl rfl) rfl (dParseM hq (by simpa using h1) hx2) ?_
      refine rOk (d := 59) (x := .tup [.agg (planE plZ), vI 250, vI 15]) rfl rfl rfl ?_
      refine rOk (d := 66) (x := .agg (planE plZ)) rfl rfl rfl ?_
      refine rOk (d := 67) (x := vI 250) rfl rfl rfl ?_
      refine rOk (d := 68) (x := vI 15) rfl rfl rfl ?_
      refine rFx (d := 12) (x := .ptr 60 0) (h' := upd _ 60 (some (.box [vI 0, vI 0, vI 0, vI 0, vI 0, vI 0, vI 0, vI 0, .sl 0 ([]) true, vB false, .sl 0 ([]) true, .sl 0 ([]) true, .v (.string (⟨#[]⟩ : ByteArray)), vI 0]))) rfl rfl (rfl) (trivial) ?_
      refine rFx0 (h' := upd _ 60 (some (.box [vI plZ.mode, vI plZ.width, vI plZ.rob, vI plZ.queue, vI plZ.stores, vI plZ.slots, vI plZ.sets, vI plZ.ways, .sl 1 (plZ.lat.map rowI) true, vB plZ.tables, .sl 1 (plZ.tape.map rowU) true, .sl 1 (plZ.prog.map rowU) true, vS plZ.mem, vI plZ.cycles]))) rfl rfl (rfl) (trivial) ?_
      refine rOk (d := 13) (x := vI 250) rfl rfl rfl ?_
      refine rOk (d := 14) (x := vI 15) rfl rfl rfl ?_
      refine rEnd (n' := 64) rfl ?_
      refine cSeq ?_
      refine cReg rfl ?_
      refine rCall (args := []) (d := 69) (x := vB true) rfl rfl rfl rfl (.inl rfl) rfl (dAlive) ?_
      refine rOk (d := 70) (x := vB true) rfl rfl rfl ?_
      refine gOk (d := 71) (x := vI 250) (g := true) rfl rfl rfl rfl rfl rfl ?_
      refine gOkS (d := 72) (x := vB (250 == 250)) (g := true) rfl rfl rfl rfl (fun h => h) rfl rfl ?_
      refine rNeed (d := 73) (x := vB (cond2 true (250 == 250) false)) rfl rfl rfl (fun h => h) ?_
      refine rOk (d := 74) (x := vB (cond2 true (250 == 250) false)) rfl rfl rfl ?_
      refine gOk (d := 75) (x := vI (((atN at_ : Nat) : Int) + 1)) (g := cond2 true (250 == 250) false) rfl rfl rfl rfl rfl rfl ?_
      refine gOk (d := 76) (x := vN (atN at_)) (g := cond2 true (250 == 250) false) rfl rfl rfl rfl rfl rfl ?_
      have b6 : (atN at_) + 1 ≤ 14 := Nat.add_le_add (atN_lt at_) (Nat.le_refl 1)
      refine gOkS (d := 77) (x := vN ((atN at_) + 1)) (g := cond2 true (250 == 250) false) rfl rfl rfl rfl (fun h => h) rfl (okI (wrapI64 b6 rfl)) ?_
      refine gOkS (d := 78) (x := vB ((((atN at_ : Nat) : Int) + 1) == (((atN at_) + 1 : Nat) : Int))) (g := cond2 true (250 == 250) false) rfl rfl rfl rfl (fun h => by first | (simp_all; done) | exact (Bool.and_eq_true_iff.1 h).1 | exact Bool.and_eq_true_iff.2 ⟨h, h⟩) rfl rfl ?_
      refine rNeed (d := 79) (x := vB (cond2 (cond2 true (250 == 250) false) ((((atN at_ : Nat) : Int) + 1) == (((atN at_) + 1 : Nat) : Int)) false)) rfl rfl rfl (fun h => h) ?_
      refine rOk (d := 80) (x := vB (cond2 (cond2 true (250 == 250) false) ((((atN at_ : Nat) : Int) + 1) == (((atN at_) + 1 : Nat) : Int)) false)) rfl rfl rfl ?_
      refine gOk (d := 81) (x := vI 250) (g := cond2 (cond2 true (250 == 250) false) ((((atN at_ : Nat) : Int) + 1) == (((atN at_) + 1 : Nat) : Int)) false) rfl rfl rfl rfl rfl rfl ?_
      refine gOkS (d := 82) (x := vB (250 == 250)) (g := cond2 (cond2 true (250 == 250) false) ((((atN at_ : Nat) : Int) + 1) == (((atN at_) + 1 : Nat) : Int)) false) rfl rfl rfl rfl (fun h => h) rfl rfl ?_
      refine rNeed (d := 83) (x := vB (cond2 (cond2 (cond2 true (250 == 250) false) ((((atN at_ : Nat) : Int) + 1) == (((atN at_) + 1 : Nat) : Int)) false) (250 == 250) false)) rfl rfl rfl (fun h => h) ?_
      refine rOk (d := 84) (x := vB (cond2 (cond2 (cond2 true (250 == 250) false) ((((atN at_ : Nat) : Int) + 1) == (((atN at_) + 1 : Nat) : Int)) false) (250 == 250) false)) rfl rfl rfl ?_
      refine gOk (d := 85) (x := vI 15) (g := cond2 (cond2 (cond2 true (250 == 250) false) ((((atN at_ : Nat) : Int) + 1) == (((atN at_) + 1 : Nat) : Int)) false) (250 == 250) false) rfl rfl rfl rfl rfl rfl ?_
      refine gOkS (d := 86) (x := vB (15 == 15)) (g := cond2 (cond2 (cond2 true (250 == 250) false) ((((atN at_ : Nat) : Int) + 1) == (((atN at_) + 1 : Nat) : Int)) false) (250 == 250) false) rfl rfl rfl rfl (fun h => h) rfl rfl ?_
      refine rNeed (d := 87) (x := vB (cond2 (cond2 (cond2 (cond2 true (250 == 250) false) ((((atN at_ : Nat) : Int) + 1) == (((atN at_) + 1 : Nat) : Int)) false) (250 == 250) false) (15 == 15) false)) rfl rfl rfl (fun h => h) ?_
      refine rOk (d := 4) (x := vB (cond2 (cond2 (cond2 (cond2 true (250 == 250) false) ((((atN at_ : Nat) : Int) + 1) == (((atN at_) + 1 : Nat) : Int)) false) (250 == 250) false) (15 == 15) false)) rfl rfl rfl ?_
      refine rEnd (n' := 84) rfl ?_
      refine cRet ?_
      exact finTA rfl trivial rfl (bool_eq (ln_yes _))
open Go.RowKit Go.ChangeShapes Go.WideShapes Go.ChangeAt
set_option maxRecDepth 100000 in
theorem scriptLines_lifted (os : Os) (started : os.Started) (H : Type) (enc : TypeId × Value → H) :
    ReturnsInHanded {} Tryd.checked os 6 .any (fun w args => (Rows.scriptLinesSpec.pre enc Tryd.prog Tryd.f6 [] false w args ∧ laidMetH Tryd.prog laid0 w) ∧ sizedMet enc Tryd.prog Tryd.f6 (OpenSpec.ofChange Rows.scriptLinesSpec) false w args)
      (Rows.scriptLinesSpec.post enc Tryd.prog Tryd.f6 false true false false) := by
  refine returnsInHanded_of_change_and (C := Tryd.checked) (X := fun w _ => laidMetH Tryd.prog laid0 w) (fun _ _ _ hh h => h.of_heap hh) ownK started (by kernel_rfl) Tryd.func6
    (ChangeSpec.witness_shaped (enc := enc) (C := Tryd.checked) (os := os) (X := fun w _ => laidMetH Tryd.prog laid0 w) false (World.laidAll Tryd.prog os laid0) #[.agg #[.int .i64 0, .int .i64 0, .int .i64 0, .int .i64 0, .int .i64 0, .int .i64 0, .int .i64 0, .int .i64 0, .slice none 0 0, .bool false, .slice none 0 0, .slice none 0 0, .string ⟨#[]⟩, .int .i64 0], .int .i64 0] 8 (World.laidAll_os _ _ _) (World.shaped_of_ZipB (by kernel_rfl) (by kernel_rfl)) (by kernel_rfl) (by kernel_rfl) (by kernel_rfl) (door_met os _)) ?_
  intro W base args ds gs before hval0 hW _ _ hL _
  have hval : ∀ (j : Nat) t v, Tryd.f6.params[j]? = some t → args[j]? = some v → Value.okWide Tryd.prog W .any base t v := hval0
  have hW' := hW
  obtain ⟨p, q, hA0, hV, rfl, hfz, hnd⟩ := hW
  have hA : DataW.TrodAll enc Tryd.prog W 0 (fun _ => true) true Tryd.f6.params.toList args.toList ds p := hA0
  have hA1 := hA
  rw [Tryd.params6] at hA hval
  obtain ⟨v0, vs0, d0, ds0, p0, q0, hargs, rfl, rfl, h0, r0⟩ := trodAll_cons hA
  obtain ⟨v1, vs1, d1, ds1, p1, q1, rfl, rfl, rfl, h1, r1⟩ := trodAll_cons r0
  obtain ⟨rfl, rfl, rfl⟩ := trodAll_nil r1
  obtain rfl : args = #[v0, v1] := by cases args; simp_all
  obtain ⟨rfl, rfl⟩ := trodVars_none hV
  obtain ⟨c0, rp0, hPl0⟩ := open_plan (hval 0 _ v0 rfl rfl) h0
  obtain ⟨a1, rfl, rfl, rfl, w1⟩ := open_int Tryd.underlying3 (hval 1 _ v1 rfl rfl) h1
  have hC := pow_of_laid hL
  refine ((dLines c0 a1 false false false hPl0).law hC (RepL.cons rp0 (RepL.cons (.v _) (RepL.nil _ _ _)))).mono fun e W' ⟨he, hb⟩ => ?_
  subst he
  exact ⟨_, rfl, law_post laidOutK (by kernel_rfl) hW' hA1 rfl rfl rfl rfl (by kernel_rfl) Tryd.underlying4 rfl rfl rfl hb⟩
theorem scriptLines_row : Rows.ScriptLinesSaid :=
  OpenClaim.holds_of_wide 6 Tryd.f6 rfl rfl rfl rfl rfl rfl rfl ⟨rfl, rfl, rfl, rfl, rfl⟩ rfl rfl rfl rfl rfl (by kernel_rfl) Tryd.func6 (by kernel_rfl)
    (of_decide_eq_true (by kernel_rfl)) (by unfold Func.isWrapper; first | (rw [if_pos (by decide +kernel)]; kernel_rfl) | (rw [if_neg (by decide +kernel)]; exact ⟨rfl, rfl⟩))
    (fun os started H enc _ => scriptLines_lifted os started H enc)
theorem scriptLines_holds : Rows.ScriptLinesCardSaid :=
  Claim7.holds_tied_plain_at .later [] [.data, .data, .data, .data, .pinned] true (true, "e7b1bd1984cf3a3107cbd2ea3272adb4ae58c6d67ef108536ca9dce61493671c") false
    scriptLines_row (fun _ h => by cases h) (by kernel_rfl) (fun _ h => by cases h) scriptLines_row_tie rfl ⟨rfl, rfl⟩ (by kernel_rfl) rfl
    (fun f fn hf hfn => by
      obtain rfl : f = 6 := Option.some.inj ((show Tryd.prog.funcNamed "auspex/auspexlaw25.ScriptLines" = some 6 by kernel_rfl).symm.trans hf) |>.symm
      obtain rfl : fn = Tryd.f6 := (Option.some.inj (Tryd.func6.symm.trans hfn)).symm
      exact ⟨by kernel_rfl, fun j t ht => by
        have h3 : (Tryd.f6.params.toList.all fun t => Tryd.prog.wantsStandIn t == false) = true := by kernel_rfl
        have h4 := List.all_eq_true.1 h3 t (Array.mem_toList_iff.2 (Array.mem_of_getElem? ht))
        exact beq_iff_eq.1 h4⟩)
    (by kernel_rfl)
#print axioms scriptLines_holds
end Go.Proofs.YtpefnjbmbfdmmaaDoor
