/- The reference's plans: which may be, how lines are read, how a text is parsed: walks on the second machine. -/
import Derived.Test.YtpefnjbmbfdmmaaDoorAbsT
import Derived.Test.YtpefnjbmbfdmmaaDoorScrP
namespace Go.Proofs.YtpefnjbmbfdmmaaDoor
set_option maxRecDepth 100000
set_option maxHeartbeats 4000000
open Go.RowKit Go.Lib

theorem DCall.rmono {C : Ctx} {f : FuncId} {args : List AV} {r r' : AV} (h : DCall C f args r) (hr : ∀ S w v, Rep S w noB r v → Rep S w noB r' v) : DCall C f args r' :=
  ⟨h.1, fun S w vs a b c => (h.2 S w vs a b c).mono fun _ _ ⟨v, h1, h2, h3⟩ => ⟨v, h1, h2, hr _ _ _ h3⟩⟩
theorem rep_nil {S : Nat → Prop} {w : World} {β : Bt} {v : Value} {n : Nat} (h : Rep S w β (.sl 0 [] true) v) : Rep S w β (.sl n [] true) v := by
  cases h with
  | sl rs rows clip A c b o u hc hm hcl hrs hA hw h1 hr => exact .sl n [] true A c b o u hc hm hcl (fun r h => absurd h List.not_mem_nil) hA (fun i row j a h => by simp at h) h1 (fun i row j a h => by simp at h)
theorem rep_nil_agg {S : Nat → Prop} {w : World} {β : Bt} {v : Value} {cs : List AV} {i n : Nat} (h : Rep S w β (.agg cs) v) (hi : cs[i]? = some (.sl 0 [] true)) : Rep S w β (.agg (cs.set i (.sl n [] true))) v := by
  cases h with
  | agg cs vs hl h1 h =>
    refine .agg _ vs (by rw [List.length_set]; exact hl) h1 fun j a u ha hu => ?_
    by_cases hj : i = j
    · subst hj
      rw [List.getElem?_set_self (List.getElem?_eq_some_iff.1 hi).1] at ha
      rw [← Option.some.inj ha]; exact rep_nil (h i _ u hi hu)
    · rw [List.getElem?_set_ne hj] at ha; exact h j a u ha hu
theorem rep_nil_tup {S : Nat → Prop} {w : World} {β : Bt} {v : Value} {cs : List AV} {i n : Nat} (h : Rep S w β (.tup cs) v) (hi : cs[i]? = some (.sl 0 [] true)) : Rep S w β (.tup (cs.set i (.sl n [] true))) v := by
  cases h with
  | tup cs vs hl h =>
    refine .tup _ vs (by rw [List.length_set]; exact hl) fun j a u ha hu => ?_
    by_cases hj : i = j
    · subst hj
      rw [List.getElem?_set_self (List.getElem?_eq_some_iff.1 hi).1] at ha
      rw [← Option.some.inj ha]; exact rep_nil (h i _ u hi hu)
    · rw [List.getElem?_set_ne hj] at ha; exact h j a u ha hu

theorem clean_lat (c : Cf) : (cleanCf c).lat.length ≤ 64 := by unfold cleanCf; show ((c.lat.take 64).map _).length ≤ 64; rw [List.length_map, List.length_take]; omega
theorem clean_tape (c : Cf) : (cleanCf c).tape.length ≤ 64 := by unfold cleanCf; show (c.tape.take 64).length ≤ 64; rw [List.length_take]; omega

def latK (c : Cf) (k : Nat) : List Int := (c.lat.take (min k 64)).map fun n => clampI n 1 8
def tapeK (c : Cf) (k : Nat) : List Nat := c.tape.take (min k 64)
theorem latK_len {c : Cf} {k : Nat} (h : k ≤ c.lat.length) : (latK c k).length = min k 64 := by unfold latK; rw [List.length_map, List.length_take]; omega
theorem tapeK_len {c : Cf} {k : Nat} (h : k ≤ c.tape.length) : (tapeK c k).length = min k 64 := by unfold tapeK; rw [List.length_take]; omega
theorem latK_next {c : Cf} {k : Nat} {x : Int} (h : c.lat[k]? = some x) (hk : k < 64) : latK c k ++ [clampI x 1 8] = latK c (k + 1) := by
  unfold latK; rw [show min k 64 = k by omega, show min (k + 1) 64 = k + 1 by omega, List.take_add_one, h]; simp
theorem latK_stay {c : Cf} {k : Nat} (hk : ¬ k < 64) : latK c k = latK c (k + 1) := by unfold latK; rw [show min k 64 = min (k + 1) 64 by omega]
theorem tapeK_next {c : Cf} {k : Nat} {x : Nat} (h : c.tape[k]? = some x) (hk : k < 64) : tapeK c k ++ [x] = tapeK c (k + 1) := by
  unfold tapeK; rw [show min k 64 = k by omega, show min (k + 1) 64 = k + 1 by omega, List.take_add_one, h]; simp
theorem tapeK_stay {c : Cf} {k : Nat} (hk : ¬ k < 64) : tapeK c k = tapeK c (k + 1) := by unfold tapeK; rw [show min k 64 = min (k + 1) 64 by omega]
theorem latK_end {c : Cf} {k : Nat} (h : c.lat.length ≤ k) : latK c k = (cleanCf c).lat := by
  unfold latK cleanCf
  show _ = (c.lat.take 64).map _
  congr 1
  by_cases h2 : c.lat.length ≤ 64
  · rw [List.take_of_length_le (by omega), List.take_of_length_le h2]
  · rw [show min k 64 = 64 by omega]
theorem tapeK_end {c : Cf} {k : Nat} (h : c.tape.length ≤ k) : tapeK c k = (cleanCf c).tape := by
  unfold tapeK cleanCf
  show _ = c.tape.take 64
  by_cases h2 : c.tape.length ≤ 64
  · rw [List.take_of_length_le (by omega), List.take_of_length_le h2]
  · rw [show min k 64 = 64 by omega]

theorem dIn08 (n lo hi : Int) (h : lo ≤ hi) : DCall C0 48 [vI n, vI lo, vI hi] (vI (clampI n lo hi)) := by
  refine DCall.intro c0Ok Tryd.func48 rfl rfl (by kernel_rfl) rfl <| cSeq <| cReg rfl <| oR 1 rfl <| rE 1 <| cSeq <| cSeq <| cReg rfl <| oR 2 rfl <| rOk (x := vB (decide (n < lo))) rfl rfl rfl <| rE 4 ?_
  refine cCond rfl (fun h1 => ?_) (fun h1 => ?_)
  · have h1p := of_decide_eq_true h1
    refine cSeq <| cReg rfl <| oR 2 rfl <| rE 6 <| cRet ?_
    exact finTA rfl trivial rfl (congrArg vI (by unfold clampI; (repeat' split) <;> omega))
  · have h1p := of_decide_eq_false h1
    refine cSkip <| cSeq <| cSeq <| cReg rfl <| oR 2 rfl <| rOk (x := vB (decide (n > hi))) rfl rfl rfl <| rE 7 ?_
    refine cCond rfl (fun h2 => ?_) (fun h2 => ?_)
    · have h2p := of_decide_eq_true h2
      refine cSeq <| cReg rfl <| oR 2 rfl <| rE 9 <| cRet ?_
      exact finTA rfl trivial rfl (congrArg vI (by unfold clampI; (repeat' split) <;> omega))
    · have h2p := of_decide_eq_false h2
      refine cSkip <| cSeq <| cReg rfl <| oR 2 rfl <| rE 9 <| cRet ?_
      exact finTA rfl trivial rfl (congrArg vI (by unfold clampI; (repeat' split) <;> omega))
theorem rClean08 (c : Cf) (cl ct : Bool) (hc : c.ok) : DCall C0 25 [.agg (cfL c cl ct)] (.agg (cfL (cleanCf c) false false)) := by
  refine dc1 (DCall.intro c1Ok Tryd.func25 rfl rfl (by kernel_rfl) rfl ?_)
  refine cSeq <| cReg rfl <| rAl 0 rfl rfl <| rAl 1 rfl rfl <| rE 2 <| cSeq <| cReg rfl <| oR 2 rfl <| rCl rfl (.inl rfl) (dIn08 c.mode 0 2 (by decide)) <| oR 2 rfl <| rCl rfl (.inl rfl) (dIn08 c.width 1 2 (by decide)) <| oR 2 rfl <| rCl rfl (.inl rfl) (dIn08 c.rob 2 8 (by decide)) <| oR 2 rfl <| rCl rfl (.inl rfl) (dIn08 c.queue 1 4 (by decide)) <| oR 2 rfl ?_
  refine rCl rfl (.inl rfl) (dIn08 c.stores 1 4 (by decide)) <| oR 2 rfl <| rCl rfl (.inl rfl) (dIn08 c.slots 2 6 (by decide)) <| oR 2 rfl <| rCl rfl (.inl rfl) (dIn08 c.sets 1 4 (by decide)) <| oR 2 rfl <| rCl rfl (.inl rfl) (dIn08 c.ways 1 2 (by decide)) <| oR 2 rfl <| rOk (x := .agg [vI (clampI c.mode 0 2), vI (clampI c.width 1 2), vI (clampI c.rob 2 8), vI (clampI c.queue 1 4), vI (clampI c.stores 1 4), vI (clampI c.slots 2 6), vI (clampI c.sets 1 4), vI (clampI c.ways 1 2), .sl 0 ([]) true, vB c.tables, .sl 0 ([]) true]) rfl rfl rfl <| rAl 29 rfl rfl <| rSt rfl <| rE 31 ?_
  refine cJoin (κ := Unit) (fun u_ => ⟨slotsF [(1, .ptr 0 0), (2, .ptr 1 0), (3, .ptr 29 0)], heapF [(0, .box [vI c.mode, vI c.width, vI c.rob, vI c.queue, vI c.stores, vI c.slots, vI c.sets, vI c.ways, .sl 1 (c.lat.map rowI) cl, vB c.tables, .sl 1 (c.tape.map rowU) ct]), (1, .box [vI 0, vI 0, vI 0, vI 0, vI 0, vI 0, vI 0, vI 0, .sl 0 ([]) true, vB false, .sl 0 ([]) true]), (29, .box [vI (clampI c.mode 0 2), vI (clampI c.width 1 2), vI (clampI c.rob 2 8), vI (clampI c.queue 1 4), vI (clampI c.stores 1 4), vI (clampI c.slots 2 6), vI ((cleanCf c).sets), vI (clampI c.ways 1 2), .sl 0 ([]) true, vB c.tables, .sl 0 ([]) true])], 31⟩) (fun u_ => True) ?_ ?_
  · refine cSeq <| cReg rfl <| oR 2 rfl <| rOk (x := vB ((clampI c.sets 1 4) == 3)) rfl rfl rfl <| rE 34 ?_
    refine cCond rfl (fun h1 => ?_) (fun h1 => ?_)
    · have h1p := beq_t h1
      refine cReg rfl <| oR 1 rfl <| rSt rfl <| rE 36 ?_
      refine .mk _ (.refl _) ⟨(), fun s => s, Weak.of_lists (fun s => s) wT ⟨⟨rfl, rfl, rfl⟩, ⟨rfl, rfl, rfl⟩, ⟨rfl, (by rw [show (cleanCf c).sets = 2 from if_pos (by simpa using h1)]; rfl), rfl⟩, trivial⟩ rfl, rfl, trivial⟩
    · have h1p := beq_f h1
      refine cSkip ?_
      refine .mk _ (.refl _) ⟨(), fun s => s, Weak.of_lists (fun s => s) wT ⟨⟨rfl, rfl, rfl⟩, ⟨rfl, rfl, rfl⟩, ⟨rfl, (by rw [show (cleanCf c).sets = clampI c.sets 1 4 from if_neg (by simpa using h1)]; rfl), rfl⟩, trivial⟩ rfl, rfl, trivial⟩
  · intro u_ _
    refine cJoin (κ := Unit) (fun u_ => ⟨slotsF [(1, .ptr 0 0), (2, .ptr 1 0), (3, .ptr 29 0)], heapF [(0, .box [vI c.mode, vI c.width, vI c.rob, vI c.queue, vI c.stores, vI c.slots, vI c.sets, vI c.ways, .sl 1 (c.lat.map rowI) cl, vB c.tables, .sl 1 (c.tape.map rowU) ct]), (1, .box [vI 0, vI 0, vI 0, vI 0, vI 0, vI 0, vI 0, vI 0, .sl 0 ([]) true, vB false, .sl 0 ([]) true]), (29, .box [vI (clampI c.mode 0 2), vI (clampI c.width 1 2), vI (clampI c.rob 2 8), vI (clampI c.queue 1 4), vI (clampI c.stores 1 4), vI (clampI c.slots 2 6), vI ((cleanCf c).sets), vI (clampI c.ways 1 2), .sl 1 (((cleanCf c).lat).map rowI) false, vB c.tables, .sl 0 ([]) true])], 31⟩) (fun u_ => True) ?_ ?_
    · refine cSeq <| cReg rfl <| oR 2 rfl <| rOk (x := vN c.lat.length) rfl rfl (lenMap rowI c.lat) <| oR 1 rfl <| rE 35 <| cBlock <| cLoop (κ := Nat) (fun k => match k with | 0 => ⟨slotsF [(1, .ptr 0 0), (2, .ptr 1 0), (3, .ptr 29 0), (40, .sl 1 (c.lat.map rowI) cl), (41, vN c.lat.length), (42, vN 0)], heapF [(0, .box [vI c.mode, vI c.width, vI c.rob, vI c.queue, vI c.stores, vI c.slots, vI c.sets, vI c.ways, .sl 1 (c.lat.map rowI) cl, vB c.tables, .sl 1 (c.tape.map rowU) ct]), (1, .box [vI 0, vI 0, vI 0, vI 0, vI 0, vI 0, vI 0, vI 0, .sl 0 ([]) true, vB false, .sl 0 ([]) true]), (29, .box [vI (clampI c.mode 0 2), vI (clampI c.width 1 2), vI (clampI c.rob 2 8), vI (clampI c.queue 1 4), vI (clampI c.stores 1 4), vI (clampI c.slots 2 6), vI ((cleanCf c).sets), vI (clampI c.ways 1 2), .sl 0 ([]) true, vB c.tables, .sl 0 ([]) true])], 101⟩ | k + 1 => ⟨slotsF [(1, .ptr 0 0), (2, .ptr 1 0), (3, .ptr 29 0), (40, .sl 1 (c.lat.map rowI) cl), (41, vN c.lat.length), (42, vN (k + 1))], heapF [(0, .box [vI c.mode, vI c.width, vI c.rob, vI c.queue, vI c.stores, vI c.slots, vI c.sets, vI c.ways, .sl 1 (c.lat.map rowI) cl, vB c.tables, .sl 1 (c.tape.map rowU) ct]), (1, .box [vI 0, vI 0, vI 0, vI 0, vI 0, vI 0, vI 0, vI 0, .sl 0 ([]) true, vB false, .sl 0 ([]) true]), (29, .box [vI (clampI c.mode 0 2), vI (clampI c.width 1 2), vI (clampI c.rob 2 8), vI (clampI c.queue 1 4), vI (clampI c.stores 1 4), vI (clampI c.slots 2 6), vI ((cleanCf c).sets), vI (clampI c.ways 1 2), .osl 100 0 (min (k + 1) 64) false, vB c.tables, .sl 0 ([]) true]), (100, .arr ((latK c (k + 1)).map rowI) 1)], 101⟩) (fun k => k ≤ c.lat.length) (fun k => c.lat.length - k) 0 (fun s => s) (Weak.of_lists (fun s => s) wT wH rfl) (Nat.zero_le _) ?_
      intro k hk
      rcases k with _ | k
      · refine cSeq <| cReg rfl <| rOk (x := vB (decide (0 < c.lat.length))) rfl rfl (okB (ltN _ _)) <| rE 102 <| cSeq ?_
        refine cCond rfl (fun h2 => ?_) (fun h2 => ?_)
        · have h2p := of_decide_eq_true h2
          refine cSkip <| cSeq <| cBlock <| cSeq <| cReg rfl <| oR 1 rfl ?_
          obtain ⟨x, hx⟩ : ∃ y_, c.lat[0]? = some y_ := ⟨_, List.getElem?_eq_getElem omT⟩
          refine rIdx (rowI x) (x := .dp 1 0 (rowI x)) rfl rfl rfl (⟨by decide, getM hx⟩) rfl <| oR 3 rfl <| rE 107 <| cSeq <| cReg rfl <| oR 1 rfl <| rOk (x := vB (decide (0 < 64))) rfl rfl (okB (ltN _ _)) <| rE 109 ?_
          refine cCond rfl (fun _ => ?_) (fun h3 => by exact absurd h3 (by decide))
          refine cReg rfl <| oR 3 rfl <| rCl rfl (.inl rfl) (dIn08 x 1 8 (by decide)) <| rOk (x := .sl 1 ([[vI (clampI x 1 8)]]) true) rfl rfl rfl <| rFx (x := .osl 114 0 1 false) (h' := upd _ 114 (some (.arr (([(clampI x 1 8 : Int)]).map rowI) 1))) rfl rfl (app_nil omT) (⟨rfl, by exact omT, by exact omT, trivial⟩) <| oR 1 rfl <| rSt rfl <| rE 117 <| cReg rfl ?_
          have b1 : 0 + 1 ≤ 9223372036854775807 := by have := hc.lat; have := hc.tape; omega
          refine rOk (x := vN (0 + 1)) rfl rfl (okI (wrapI64 (show 0 + 1 ≤ 9223372036854775807 by have := hc.lat; have := hc.tape; omega) rfl)) <| oR 1 rfl <| rE 119 ?_
          refine ⟨0 + 1, fun i => match i with | 100 => 114 | i => i, Weak.of_lists (fun i => match i with | 100 => 114 | i => i) wT ⟨⟨rfl, rfl, rfl⟩, ⟨rfl, rfl, rfl⟩, ⟨rfl, rfl, rfl⟩, ⟨rfl, (congrArg (fun z : List Int => some (Blk.arr (z.map rowI) 1)) (latK_next hx (by omega))), rfl⟩, trivial⟩ rfl, by have := of_decide_eq_true h2; omega, by have := of_decide_eq_true h2; show c.lat.length - (0 + 1) < c.lat.length - (0); omega⟩
        · have h2p := of_decide_eq_false h2
          refine cExit ?_
          refine .mk _ (.step none (Ghost.of_lists (l := [(1, .ptr 0 0), (2, .ptr 1 0), (3, .ptr 29 0)]) (hp := [(0, .box [vI c.mode, vI c.width, vI c.rob, vI c.queue, vI c.stores, vI c.slots, vI c.sets, vI c.ways, .sl 1 (c.lat.map rowI) cl, vB c.tables, .sl 1 (c.tape.map rowU) ct]), (1, .box [vI 0, vI 0, vI 0, vI 0, vI 0, vI 0, vI 0, vI 0, .sl 0 ([]) true, vB false, .sl 0 ([]) true]), (29, .box [vI (clampI c.mode 0 2), vI (clampI c.width 1 2), vI (clampI c.rob 2 8), vI (clampI c.queue 1 4), vI (clampI c.stores 1 4), vI (clampI c.slots 2 6), vI ((cleanCf c).sets), vI (clampI c.ways 1 2), .sl 1 ([]) false, vB c.tables, .sl 0 ([]) true])]) trivial ⟨.refl _, .refl _, .refl _, trivial⟩ ⟨⟨trivial, _, rfl, .refl _⟩, ⟨trivial, _, rfl, .refl _⟩, ⟨trivial, _, rfl, LeB.boxL ⟨.refl _, .refl _, .refl _, .refl _, .refl _, .refl _, .refl _, .refl _, .nil 1 false, .refl _, .refl _, trivial⟩⟩, trivial⟩) (.refl _)) ⟨(), fun s => s, Weak.of_lists (fun s => s) wT ⟨⟨rfl, rfl, rfl⟩, ⟨rfl, rfl, rfl⟩, ⟨rfl, (by rw [← latK_end (c := c) (k := 0) (by have := of_decide_eq_false h2; omega)]; rfl), rfl⟩, trivial⟩ rfl, rfl, trivial⟩
      · have hkB : k + 1 ≤ 9223372036854775807 := by have := hc.lat; omega
        have hKl := latK_len (c := c) (k := k + 1) hk
        refine cSeq <| cReg rfl <| rOk (x := vB (decide ((k + 1) < c.lat.length))) rfl rfl (okB (ltN _ _)) <| rE 102 <| cSeq ?_
        refine cCond rfl (fun h4 => ?_) (fun h4 => ?_)
        · have h4p := of_decide_eq_true h4
          refine cSkip <| cSeq <| cBlock <| cSeq <| cReg rfl <| oR 1 rfl ?_
          obtain ⟨x, hx⟩ : ∃ y_, c.lat[(k + 1)]? = some y_ := ⟨_, List.getElem?_eq_getElem omT⟩
          refine rIdx (rowI x) (x := .dp 1 0 (rowI x)) rfl rfl rfl (⟨Int.natCast_nonneg _, getM hx⟩) rfl <| oR 3 rfl <| rE 107 <| cSeq <| cReg rfl <| oR 1 rfl <| rOk (x := vB (decide ((k + 1) < 64))) rfl rfl (okB (ltN _ _)) <| rE 109 ?_
          refine cCond rfl (fun h5 => ?_) (fun h5 => ?_)
          · have h5p := of_decide_eq_true h5
            refine cReg rfl <| oR 3 rfl <| rCl rfl (.inl rfl) (dIn08 x 1 8 (by decide)) <| rOk (x := .sl 1 ([[vI (clampI x 1 8)]]) true) rfl rfl rfl <| rFx (x := .osl 114 0 (min (k + 1) 64 + 1) false) (h' := upd (upd _ 100 none) 114 (some (.arr (((latK c (k + 1)) ++ ([(clampI x 1 8 : Int)])).map rowI) 1))) rfl rfl (app_own rowI (latK c (k + 1)) ([(clampI x 1 8 : Int)]) omT omT) (⟨by exact omT, by exact omT, trivial⟩) <| oR 1 rfl <| rSt rfl <| rE 117 <| cReg rfl ?_
            have b2 : k + 1 + 1 ≤ 9223372036854775807 := by have := hc.lat; have := hc.tape; omega
            refine rOk (x := vN (k + 1 + 1)) rfl rfl (okI (wrapI64 (show k + 1 + 1 ≤ 9223372036854775807 by have := hc.lat; have := hc.tape; omega) rfl)) <| oR 1 rfl <| rE 119 ?_
            refine ⟨(k + 1) + 1, fun i => match i with | 100 => 114 | i => i, Weak.of_lists (fun i => match i with | 100 => 114 | i => i) wT ⟨⟨rfl, rfl, rfl⟩, ⟨rfl, rfl, rfl⟩, ⟨rfl, (by rw [show min (k + 1) 64 + 1 = min (k + 1 + 1) 64 by omega]; rfl), rfl⟩, ⟨rfl, (congrArg (fun z : List Int => some (Blk.arr (z.map rowI) 1)) (latK_next hx (by omega))), rfl⟩, trivial⟩ rfl, by have := of_decide_eq_true h4; omega, by have := of_decide_eq_true h4; show c.lat.length - ((k + 1) + 1) < c.lat.length - (k + 1); omega⟩
          · have h5p := of_decide_eq_false h5
            refine cSkip <| cReg rfl ?_
            have b3 : k + 1 + 1 ≤ 9223372036854775807 := by have := hc.lat; have := hc.tape; omega
            refine rOk (x := vN (k + 1 + 1)) rfl rfl (okI (wrapI64 (show k + 1 + 1 ≤ 9223372036854775807 by have := hc.lat; have := hc.tape; omega) rfl)) <| oR 1 rfl <| rE 111 ?_
            refine ⟨(k + 1) + 1, fun i => i, Weak.of_lists (fun i => i) wT ⟨⟨rfl, rfl, rfl⟩, ⟨rfl, rfl, rfl⟩, ⟨rfl, (by rw [show min (k + 1) 64 = min (k + 1 + 1) 64 by have := of_decide_eq_false h5; omega]; rfl), rfl⟩, ⟨rfl, (congrArg (fun z : List Int => some (Blk.arr (z.map rowI) 1)) (latK_stay (c := c) (by have := of_decide_eq_false h5; omega))), rfl⟩, trivial⟩ rfl, by have := of_decide_eq_true h4; omega, by have := of_decide_eq_true h4; show c.lat.length - ((k + 1) + 1) < c.lat.length - (k + 1); omega⟩
        · have h4p := of_decide_eq_false h4
          refine cExit ?_
          refine .mk _ (.step (some (100, 1, (latK c (k + 1)).map rowI)) (Ghost.of_lists (l := [(1, .ptr 0 0), (2, .ptr 1 0), (3, .ptr 29 0)]) (hp := [(0, .box [vI c.mode, vI c.width, vI c.rob, vI c.queue, vI c.stores, vI c.slots, vI c.sets, vI c.ways, .sl 1 (c.lat.map rowI) cl, vB c.tables, .sl 1 (c.tape.map rowU) ct]), (1, .box [vI 0, vI 0, vI 0, vI 0, vI 0, vI 0, vI 0, vI 0, .sl 0 ([]) true, vB false, .sl 0 ([]) true]), (29, .box [vI (clampI c.mode 0 2), vI (clampI c.width 1 2), vI (clampI c.rob 2 8), vI (clampI c.queue 1 4), vI (clampI c.stores 1 4), vI (clampI c.slots 2 6), vI ((cleanCf c).sets), vI (clampI c.ways 1 2), .sl 1 ((latK c (k + 1)).map rowI) false, vB c.tables, .sl 0 ([]) true])]) rfl ⟨.refl _, .refl _, .refl _, trivial⟩ ⟨⟨rfl, _, rfl, .refl _⟩, ⟨rfl, _, rfl, .refl _⟩, ⟨rfl, _, rfl, LeB.boxL ⟨.refl _, .refl _, .refl _, .refl _, .refl _, .refl _, .refl _, .refl _, frz_all hKl, .refl _, .refl _, trivial⟩⟩, trivial⟩) (.refl _)) ⟨(), fun s => s, Weak.of_lists (fun s => s) wT ⟨⟨rfl, rfl, rfl⟩, ⟨rfl, rfl, rfl⟩, ⟨rfl, (by rw [← latK_end (c := c) (k := k + 1) (by have := of_decide_eq_false h4; omega)]; rfl), rfl⟩, trivial⟩ rfl, rfl, trivial⟩
    · intro u_ _
      refine cJoin (κ := Unit) (fun u_ => ⟨slotsF [(1, .ptr 0 0), (2, .ptr 1 0), (3, .ptr 29 0)], heapF [(0, .box [vI c.mode, vI c.width, vI c.rob, vI c.queue, vI c.stores, vI c.slots, vI c.sets, vI c.ways, .sl 1 (c.lat.map rowI) cl, vB c.tables, .sl 1 (c.tape.map rowU) ct]), (1, .box [vI 0, vI 0, vI 0, vI 0, vI 0, vI 0, vI 0, vI 0, .sl 0 ([]) true, vB false, .sl 0 ([]) true]), (29, .box [vI (clampI c.mode 0 2), vI (clampI c.width 1 2), vI (clampI c.rob 2 8), vI (clampI c.queue 1 4), vI (clampI c.stores 1 4), vI (clampI c.slots 2 6), vI ((cleanCf c).sets), vI (clampI c.ways 1 2), .sl 1 (((cleanCf c).lat).map rowI) false, vB c.tables, .sl 1 (((cleanCf c).tape).map rowU) false])], 31⟩) (fun u_ => True) ?_ ?_
      · refine cSeq <| cReg rfl <| oR 2 rfl <| rOk (x := vN c.tape.length) rfl rfl (lenMap rowU c.tape) <| oR 1 rfl <| rE 35 <| cBlock <| cLoop (κ := Nat) (fun k => match k with | 0 => ⟨slotsF [(1, .ptr 0 0), (2, .ptr 1 0), (3, .ptr 29 0), (58, .sl 1 (c.tape.map rowU) ct), (59, vN c.tape.length), (60, vN 0)], heapF [(0, .box [vI c.mode, vI c.width, vI c.rob, vI c.queue, vI c.stores, vI c.slots, vI c.sets, vI c.ways, .sl 1 (c.lat.map rowI) cl, vB c.tables, .sl 1 (c.tape.map rowU) ct]), (1, .box [vI 0, vI 0, vI 0, vI 0, vI 0, vI 0, vI 0, vI 0, .sl 0 ([]) true, vB false, .sl 0 ([]) true]), (29, .box [vI (clampI c.mode 0 2), vI (clampI c.width 1 2), vI (clampI c.rob 2 8), vI (clampI c.queue 1 4), vI (clampI c.stores 1 4), vI (clampI c.slots 2 6), vI ((cleanCf c).sets), vI (clampI c.ways 1 2), .sl 1 (((cleanCf c).lat).map rowI) false, vB c.tables, .sl 0 ([]) true])], 101⟩ | k + 1 => ⟨slotsF [(1, .ptr 0 0), (2, .ptr 1 0), (3, .ptr 29 0), (58, .sl 1 (c.tape.map rowU) ct), (59, vN c.tape.length), (60, vN (k + 1))], heapF [(0, .box [vI c.mode, vI c.width, vI c.rob, vI c.queue, vI c.stores, vI c.slots, vI c.sets, vI c.ways, .sl 1 (c.lat.map rowI) cl, vB c.tables, .sl 1 (c.tape.map rowU) ct]), (1, .box [vI 0, vI 0, vI 0, vI 0, vI 0, vI 0, vI 0, vI 0, .sl 0 ([]) true, vB false, .sl 0 ([]) true]), (29, .box [vI (clampI c.mode 0 2), vI (clampI c.width 1 2), vI (clampI c.rob 2 8), vI (clampI c.queue 1 4), vI (clampI c.stores 1 4), vI (clampI c.slots 2 6), vI ((cleanCf c).sets), vI (clampI c.ways 1 2), .sl 1 (((cleanCf c).lat).map rowI) false, vB c.tables, .osl 100 0 (min (k + 1) 64) false]), (100, .arr ((tapeK c (k + 1)).map rowU) 1)], 101⟩) (fun k => k ≤ c.tape.length) (fun k => c.tape.length - k) 0 (fun s => s) (Weak.of_lists (fun s => s) wT wH rfl) (Nat.zero_le _) ?_
        intro k hk
        rcases k with _ | k
        · refine cSeq <| cReg rfl <| rOk (x := vB (decide (0 < c.tape.length))) rfl rfl (okB (ltN _ _)) <| rE 102 <| cSeq ?_
          refine cCond rfl (fun h6 => ?_) (fun h6 => ?_)
          · have h6p := of_decide_eq_true h6
            refine cSkip <| cSeq <| cBlock <| cSeq <| cReg rfl <| oR 1 rfl ?_
            obtain ⟨x, hx⟩ : ∃ y_, c.tape[0]? = some y_ := ⟨_, List.getElem?_eq_getElem omT⟩
            have hxo := hc.tp x (List.mem_of_getElem? hx)
            refine rIdx (rowU x) (x := .dp 1 0 (rowU x)) rfl rfl rfl (⟨by decide, getM hx⟩) rfl <| oR 3 rfl <| rE 107 <| cSeq <| cReg rfl <| oR 1 rfl <| rOk (x := vB (decide (0 < 64))) rfl rfl (okB (ltN _ _)) <| rE 109 ?_
            refine cCond rfl (fun _ => ?_) (fun h7 => by exact absurd h7 (by decide))
            refine cReg rfl <| oR 3 rfl <| rOk (x := .sl 1 ([[vU x]]) true) rfl rfl rfl <| rFx (x := .osl 113 0 1 false) (h' := upd _ 113 (some (.arr (([x]).map rowU) 1))) rfl rfl (app_nil omT) (⟨rfl, by exact omT, by exact omT, trivial⟩) <| oR 1 rfl <| rSt rfl <| rE 116 <| cReg rfl ?_
            have b4 : 0 + 1 ≤ 9223372036854775807 := by have := hc.lat; have := hc.tape; omega
            refine rOk (x := vN (0 + 1)) rfl rfl (okI (wrapI64 (show 0 + 1 ≤ 9223372036854775807 by have := hc.lat; have := hc.tape; omega) rfl)) <| oR 1 rfl <| rE 118 ?_
            refine ⟨0 + 1, fun i => match i with | 100 => 113 | i => i, Weak.of_lists (fun i => match i with | 100 => 113 | i => i) wT ⟨⟨rfl, rfl, rfl⟩, ⟨rfl, rfl, rfl⟩, ⟨rfl, rfl, rfl⟩, ⟨rfl, (congrArg (fun z : List Nat => some (Blk.arr (z.map rowU) 1)) (tapeK_next hx (by omega))), rfl⟩, trivial⟩ rfl, by have := of_decide_eq_true h6; omega, by have := of_decide_eq_true h6; show c.tape.length - (0 + 1) < c.tape.length - (0); omega⟩
          · have h6p := of_decide_eq_false h6
            refine cExit ?_
            refine .mk _ (.step none (Ghost.of_lists (l := [(1, .ptr 0 0), (2, .ptr 1 0), (3, .ptr 29 0)]) (hp := [(0, .box [vI c.mode, vI c.width, vI c.rob, vI c.queue, vI c.stores, vI c.slots, vI c.sets, vI c.ways, .sl 1 (c.lat.map rowI) cl, vB c.tables, .sl 1 (c.tape.map rowU) ct]), (1, .box [vI 0, vI 0, vI 0, vI 0, vI 0, vI 0, vI 0, vI 0, .sl 0 ([]) true, vB false, .sl 0 ([]) true]), (29, .box [vI (clampI c.mode 0 2), vI (clampI c.width 1 2), vI (clampI c.rob 2 8), vI (clampI c.queue 1 4), vI (clampI c.stores 1 4), vI (clampI c.slots 2 6), vI ((cleanCf c).sets), vI (clampI c.ways 1 2), .sl 1 (((cleanCf c).lat).map rowI) false, vB c.tables, .sl 1 ([]) false])]) trivial ⟨.refl _, .refl _, .refl _, trivial⟩ ⟨⟨trivial, _, rfl, .refl _⟩, ⟨trivial, _, rfl, .refl _⟩, ⟨trivial, _, rfl, LeB.boxL ⟨.refl _, .refl _, .refl _, .refl _, .refl _, .refl _, .refl _, .refl _, .refl _, .refl _, .nil 1 false, trivial⟩⟩, trivial⟩) (.refl _)) ⟨(), fun s => s, Weak.of_lists (fun s => s) wT ⟨⟨rfl, rfl, rfl⟩, ⟨rfl, rfl, rfl⟩, ⟨rfl, (by rw [← tapeK_end (c := c) (k := 0) (by have := of_decide_eq_false h6; omega)]; rfl), rfl⟩, trivial⟩ rfl, rfl, trivial⟩
        · have hkB : k + 1 ≤ 9223372036854775807 := by have := hc.tape; omega
          have hKl := tapeK_len (c := c) (k := k + 1) hk
          refine cSeq <| cReg rfl <| rOk (x := vB (decide ((k + 1) < c.tape.length))) rfl rfl (okB (ltN _ _)) <| rE 102 <| cSeq ?_
          refine cCond rfl (fun h8 => ?_) (fun h8 => ?_)
          · have h8p := of_decide_eq_true h8
            refine cSkip <| cSeq <| cBlock <| cSeq <| cReg rfl <| oR 1 rfl ?_
            obtain ⟨x, hx⟩ : ∃ y_, c.tape[(k + 1)]? = some y_ := ⟨_, List.getElem?_eq_getElem omT⟩
            have hxo := hc.tp x (List.mem_of_getElem? hx)
            refine rIdx (rowU x) (x := .dp 1 0 (rowU x)) rfl rfl rfl (⟨Int.natCast_nonneg _, getM hx⟩) rfl <| oR 3 rfl <| rE 107 <| cSeq <| cReg rfl <| oR 1 rfl <| rOk (x := vB (decide ((k + 1) < 64))) rfl rfl (okB (ltN _ _)) <| rE 109 ?_
            refine cCond rfl (fun h9 => ?_) (fun h9 => ?_)
            · have h9p := of_decide_eq_true h9
              refine cReg rfl <| oR 3 rfl <| rOk (x := .sl 1 ([[vU x]]) true) rfl rfl rfl <| rFx (x := .osl 113 0 (min (k + 1) 64 + 1) false) (h' := upd (upd _ 100 none) 113 (some (.arr (((tapeK c (k + 1)) ++ ([x])).map rowU) 1))) rfl rfl (app_own rowU (tapeK c (k + 1)) ([x]) omT omT) (⟨by exact omT, by exact omT, trivial⟩) <| oR 1 rfl <| rSt rfl <| rE 116 <| cReg rfl ?_
              have b5 : k + 1 + 1 ≤ 9223372036854775807 := by have := hc.lat; have := hc.tape; omega
              refine rOk (x := vN (k + 1 + 1)) rfl rfl (okI (wrapI64 (show k + 1 + 1 ≤ 9223372036854775807 by have := hc.lat; have := hc.tape; omega) rfl)) <| oR 1 rfl <| rE 118 ?_
              refine ⟨(k + 1) + 1, fun i => match i with | 100 => 113 | i => i, Weak.of_lists (fun i => match i with | 100 => 113 | i => i) wT ⟨⟨rfl, rfl, rfl⟩, ⟨rfl, rfl, rfl⟩, ⟨rfl, (by rw [show min (k + 1) 64 + 1 = min (k + 1 + 1) 64 by omega]; rfl), rfl⟩, ⟨rfl, (congrArg (fun z : List Nat => some (Blk.arr (z.map rowU) 1)) (tapeK_next hx (by omega))), rfl⟩, trivial⟩ rfl, by have := of_decide_eq_true h8; omega, by have := of_decide_eq_true h8; show c.tape.length - ((k + 1) + 1) < c.tape.length - (k + 1); omega⟩
            · have h9p := of_decide_eq_false h9
              refine cSkip <| cReg rfl ?_
              have b6 : k + 1 + 1 ≤ 9223372036854775807 := by have := hc.lat; have := hc.tape; omega
              refine rOk (x := vN (k + 1 + 1)) rfl rfl (okI (wrapI64 (show k + 1 + 1 ≤ 9223372036854775807 by have := hc.lat; have := hc.tape; omega) rfl)) <| oR 1 rfl <| rE 111 ?_
              refine ⟨(k + 1) + 1, fun i => i, Weak.of_lists (fun i => i) wT ⟨⟨rfl, rfl, rfl⟩, ⟨rfl, rfl, rfl⟩, ⟨rfl, (by rw [show min (k + 1) 64 = min (k + 1 + 1) 64 by have := of_decide_eq_false h9; omega]; rfl), rfl⟩, ⟨rfl, (congrArg (fun z : List Nat => some (Blk.arr (z.map rowU) 1)) (tapeK_stay (c := c) (by have := of_decide_eq_false h9; omega))), rfl⟩, trivial⟩ rfl, by have := of_decide_eq_true h8; omega, by have := of_decide_eq_true h8; show c.tape.length - ((k + 1) + 1) < c.tape.length - (k + 1); omega⟩
          · have h8p := of_decide_eq_false h8
            refine cExit ?_
            refine .mk _ (.step (some (100, 1, (tapeK c (k + 1)).map rowU)) (Ghost.of_lists (l := [(1, .ptr 0 0), (2, .ptr 1 0), (3, .ptr 29 0)]) (hp := [(0, .box [vI c.mode, vI c.width, vI c.rob, vI c.queue, vI c.stores, vI c.slots, vI c.sets, vI c.ways, .sl 1 (c.lat.map rowI) cl, vB c.tables, .sl 1 (c.tape.map rowU) ct]), (1, .box [vI 0, vI 0, vI 0, vI 0, vI 0, vI 0, vI 0, vI 0, .sl 0 ([]) true, vB false, .sl 0 ([]) true]), (29, .box [vI (clampI c.mode 0 2), vI (clampI c.width 1 2), vI (clampI c.rob 2 8), vI (clampI c.queue 1 4), vI (clampI c.stores 1 4), vI (clampI c.slots 2 6), vI ((cleanCf c).sets), vI (clampI c.ways 1 2), .sl 1 (((cleanCf c).lat).map rowI) false, vB c.tables, .sl 1 ((tapeK c (k + 1)).map rowU) false])]) rfl ⟨.refl _, .refl _, .refl _, trivial⟩ ⟨⟨rfl, _, rfl, .refl _⟩, ⟨rfl, _, rfl, .refl _⟩, ⟨rfl, _, rfl, LeB.boxL ⟨.refl _, .refl _, .refl _, .refl _, .refl _, .refl _, .refl _, .refl _, .refl _, .refl _, frz_all hKl, trivial⟩⟩, trivial⟩) (.refl _)) ⟨(), fun s => s, Weak.of_lists (fun s => s) wT ⟨⟨rfl, rfl, rfl⟩, ⟨rfl, rfl, rfl⟩, ⟨rfl, (by rw [← tapeK_end (c := c) (k := k + 1) (by have := of_decide_eq_false h8; omega)]; rfl), rfl⟩, trivial⟩ rfl, rfl, trivial⟩
      · intro u_ _
        refine cSeq <| cReg rfl <| oR 1 rfl <| rSt rfl <| rE 33 <| cRet ?_
        exact finTA rfl (by repeat' (first | exact trivial | constructor)) rfl rfl
theorem take_on {α : Type} {l m : List α} {k : Nat} {x y : α} (h : l.take k = m.take k) (hx : l[k]? = some x) (hy : m[k]? = some y) (e : x = y) : l.take (k + 1) = m.take (k + 1) := by
  rw [List.take_add_one, List.take_add_one, h, hx, hy, e]
theorem take_all {α : Type} {l m : List α} {k : Nat} (h : l.take k = m.take k) (hl : l.length = m.length) (hk : l.length ≤ k) : l = m := by
  rw [List.take_of_length_le hk, List.take_of_length_le (by omega)] at h; exact h
theorem at_ne {α : Type} {l m : List α} {k : Nat} {x y : α} (hx : l[k]? = some x) (hy : m[k]? = some y) (e : ¬ x = y) : ¬ l = m := fun q => by
  rw [q, hy] at hx; exact e (Option.some.inj hx).symm
theorem likeC_len {a b : Cf} (h : LikeC a b) : a.lat.length = b.lat.length ∧ a.tape.length = b.tape.length := by rw [likeC_eq.1 h]; exact ⟨rfl, rfl⟩

theorem rLike08 (a b : Cf) (ca cb da db : Bool) (ha : a.ok) (hb : b.ok) : DCall C0 32 [.agg (cfL a ca cb), .agg (cfL b da db)] (vB (decide (LikeC a b))) := by
  refine DCall.intro c0Ok Tryd.func32 rfl rfl (by kernel_rfl) rfl <| cSeq <| cReg rfl <| rAl 0 rfl rfl <| rAl 1 rfl rfl <| oR 1 rfl <| rE 3 <| cSeq <| cSeq <| cReg rfl <| oR 4 rfl <| rOk (x := vB (a.mode != b.mode)) rfl rfl rfl <| oR 1 rfl <| gN rfl <| gS rfl id <| gN rfl ?_
  refine gS rfl id <| gBS (x := vB (a.width != b.width)) rfl (fun h => by first | (simp_all; done) | exact (Bool.and_eq_true_iff.1 h).1 | exact Bool.and_eq_true_iff.2 ⟨h, h⟩) rfl <| rNeed rfl rfl rfl (by simp) <| oR 1 rfl <| gN rfl <| gS rfl id <| gN rfl <| gS rfl id <| gBS (x := vB (a.rob != b.rob)) rfl (fun h => by first | (simp_all; done) | exact (Bool.and_eq_true_iff.1 h).1 | exact Bool.and_eq_true_iff.2 ⟨h, h⟩) rfl <| rNeed rfl rfl rfl (by simp) <| oR 1 rfl <| gN rfl <| gS rfl id <| gN rfl <| gS rfl id <| gBS (x := vB (a.queue != b.queue)) rfl (fun h => by first | (simp_all; done) | exact (Bool.and_eq_true_iff.1 h).1 | exact Bool.and_eq_true_iff.2 ⟨h, h⟩) rfl ?_
  refine rNeed rfl rfl rfl (by simp) <| oR 1 rfl <| gN rfl <| gS rfl id <| gN rfl <| gS rfl id <| gBS (x := vB (a.stores != b.stores)) rfl (fun h => by first | (simp_all; done) | exact (Bool.and_eq_true_iff.1 h).1 | exact Bool.and_eq_true_iff.2 ⟨h, h⟩) rfl <| rNeed rfl rfl rfl (by simp) <| oR 1 rfl <| gN rfl <| gS rfl id <| gN rfl <| gS rfl id <| gBS (x := vB (a.slots != b.slots)) rfl (fun h => by first | (simp_all; done) | exact (Bool.and_eq_true_iff.1 h).1 | exact Bool.and_eq_true_iff.2 ⟨h, h⟩) rfl <| rNeed rfl rfl rfl (by simp) <| oR 1 rfl ?_
  refine gN rfl <| gS rfl id <| gN rfl <| gS rfl id <| gBS (x := vB (a.sets != b.sets)) rfl (fun h => by first | (simp_all; done) | exact (Bool.and_eq_true_iff.1 h).1 | exact Bool.and_eq_true_iff.2 ⟨h, h⟩) rfl <| rNeed rfl rfl rfl (by simp) <| oR 1 rfl <| gN rfl <| gS rfl id <| gN rfl <| gS rfl id <| gBS (x := vB (a.ways != b.ways)) rfl (fun h => by first | (simp_all; done) | exact (Bool.and_eq_true_iff.1 h).1 | exact Bool.and_eq_true_iff.2 ⟨h, h⟩) rfl <| rNeed rfl rfl rfl (by simp) <| oR 1 rfl <| gN rfl <| gS rfl id ?_
  refine gN rfl <| gS rfl id <| gBS (x := vB (!(a.tables == b.tables))) rfl (fun h => by first | (simp_all; done) | exact (Bool.and_eq_true_iff.1 h).1 | exact Bool.and_eq_true_iff.2 ⟨h, h⟩) rfl <| rNeed rfl rfl rfl (by simp) <| oR 1 rfl <| gN rfl <| gS rfl id <| gBS (x := vN a.lat.length) rfl id (lenMap rowI a.lat) <| gN rfl <| gS rfl id <| gBS (x := vN b.lat.length) rfl id (lenMap rowI b.lat) <| gBS (x := vB (a.lat.length != b.lat.length)) rfl (fun h => by first | (simp_all; done) | exact (Bool.and_eq_true_iff.1 h).1 | exact Bool.and_eq_true_iff.2 ⟨h, h⟩) (okB (neN _ _)) <| rNeed rfl rfl rfl (by simp) <| oR 1 rfl <| gN rfl <| gS rfl id ?_
  refine gBS (x := vN a.tape.length) rfl id (lenMap rowU a.tape) <| gN rfl <| gS rfl id <| gBS (x := vN b.tape.length) rfl id (lenMap rowU b.tape) <| gBS (x := vB (a.tape.length != b.tape.length)) rfl (fun h => by first | (simp_all; done) | exact (Bool.and_eq_true_iff.1 h).1 | exact Bool.and_eq_true_iff.2 ⟨h, h⟩) (okB (neN _ _)) <| rNeed rfl rfl rfl (by simp) <| rE 82 ?_
  refine cCond rfl (fun h1 => ?_) (fun h1 => ?_)
  · refine cSeq <| cReg rfl <| oR 1 rfl <| rE 83 <| cRet ?_
    exact finTA rfl trivial rfl (bool_eq ((decide_eq_false fun q => by have q0 := likeC_len q; obtain ⟨q1, q2, q3, q4, q5, q6, q7, q8, q9, q10, q11⟩ := q; simp only [w64, cOr, cAnd, Bool.or_eq_true, Bool.and_eq_true, Bool.or_eq_false_iff, Bool.and_eq_false_imp, beq_iff_eq, bne_iff_ne, ne_eq, beq_eq_false_iff_ne, bne_eq_false_iff_eq, decide_eq_true_eq, decide_eq_false_iff_not, Bool.not_eq_true, Bool.not_eq_false, Bool.not_eq_eq_eq_not, Bool.not_true, Bool.not_false, Decidable.not_not] at h1; simp_all : decide (LikeC a b) = false).symm))
  · obtain ⟨hne, hlen⟩ : (a.mode = b.mode ∧ a.width = b.width ∧ a.rob = b.rob ∧ a.queue = b.queue ∧ a.stores = b.stores ∧ a.slots = b.slots ∧ a.sets = b.sets ∧ a.ways = b.ways ∧ a.tables = b.tables) ∧ (a.lat.length = b.lat.length ∧ a.tape.length = b.tape.length) := by
      simp only [w64, cOr, cAnd, Bool.or_eq_true, Bool.and_eq_true, Bool.or_eq_false_iff, Bool.and_eq_false_imp, beq_iff_eq, bne_iff_ne, ne_eq, beq_eq_false_iff_ne, bne_eq_false_iff_eq, decide_eq_true_eq, decide_eq_false_iff_not, Bool.not_eq_true, Bool.not_eq_false, Bool.not_eq_eq_eq_not, Bool.not_true, Bool.not_false, Decidable.not_not] at h1
      simp_all
    refine cSkip <| cSeq <| cSeq <| cReg rfl <| oR 2 rfl <| rOk (x := vN a.lat.length) rfl rfl (lenMap rowI a.lat) <| oR 1 rfl <| rE 86 <| cBlock <| cLoop (κ := Nat) (fun k => ⟨slotsF [(2, .ptr 0 0), (3, .ptr 1 0), (85, vB (cond2 (cond2 (cond2 (cond2 (cond2 (cond2 (cond2 (cond2 (cond2 (cond2 (a.mode != b.mode) true (a.width != b.width)) true (a.rob != b.rob)) true (a.queue != b.queue)) true (a.stores != b.stores)) true (a.slots != b.slots)) true (a.sets != b.sets)) true (a.ways != b.ways)) true (!(a.tables == b.tables))) true (a.lat.length != b.lat.length)) true (a.tape.length != b.tape.length))), (88, vN a.lat.length), (89, vN k)], heapF [(0, .box [vI a.mode, vI a.width, vI a.rob, vI a.queue, vI a.stores, vI a.slots, vI a.sets, vI a.ways, .sl 1 (a.lat.map rowI) ca, vB a.tables, .sl 1 (a.tape.map rowU) cb]), (1, .box [vI b.mode, vI b.width, vI b.rob, vI b.queue, vI b.stores, vI b.slots, vI b.sets, vI b.ways, .sl 1 (b.lat.map rowI) da, vB b.tables, .sl 1 (b.tape.map rowU) db])], 86⟩) (fun k => k ≤ a.lat.length ∧ a.lat.take k = b.lat.take k) (fun k => a.lat.length - k) 0 (fun s => s) (Weak.of_lists (fun s => s) wT wH rfl) (⟨Nat.zero_le _, rfl⟩) ?_
    intro k hk
    have hkn : k ≤ a.lat.length := hk.1
    have hkB : k ≤ 9223372036854775807 := by have := ha.lat; omega
    have hq1 := hlen.1
    have hqa := ha.lat
    refine cSeq <| cReg rfl <| rOk (x := vB (decide (k < a.lat.length))) rfl rfl (okB (ltN _ _)) <| rE 87 <| cSeq ?_
    refine cCond rfl (fun h2 => ?_) (fun h2 => ?_)
    · have h2p := of_decide_eq_true h2
      refine cSkip <| cSeq <| cBlock <| cSeq <| cReg rfl <| oR 2 rfl <| rE 89 <| cSeq <| cReg rfl <| oR 3 rfl ?_
      obtain ⟨x, hx⟩ : ∃ y_, a.lat[k]? = some y_ := ⟨_, List.getElem?_eq_getElem omT⟩
      refine rIdx (rowI x) (x := .dp 1 0 (rowI x)) rfl rfl rfl (⟨Int.natCast_nonneg _, getM hx⟩) rfl <| oR 4 rfl ?_
      obtain ⟨y, hy⟩ : ∃ y_, b.lat[k]? = some y_ := ⟨_, List.getElem?_eq_getElem omT⟩
      refine rIdx (rowI y) (x := .dp 1 0 (rowI y)) rfl rfl rfl (⟨Int.natCast_nonneg _, getM hy⟩) rfl <| oR 1 rfl <| rOk (x := vB (x != y)) rfl rfl rfl <| rE 100 ?_
      refine cCond rfl (fun h3 => ?_) (fun h3 => ?_)
      · have h3p := bne_t h3
        refine cSeq <| cReg rfl <| oR 1 rfl <| rE 101 <| cRet ?_
        exact finTA rfl trivial rfl (bool_eq ((decide_eq_false fun q => at_ne hx hy (by simpa using h3) (congrArg Cf.lat (likeC_eq.1 q))).symm))
      · have h3p := bne_f h3
        refine cSkip <| cReg rfl ?_
        have b1 : k + 1 ≤ 9223372036854775807 := by omega
        refine rOk (x := vN (k + 1)) rfl rfl (okI (wrapI64 (show k + 1 ≤ 9223372036854775807 by omega) rfl)) <| oR 1 rfl <| rE 102 ?_
        refine ⟨k + 1, fun s => s, Weak.of_lists (fun s => s) wT wH rfl, ⟨by omega, take_on hk.2 hx hy (by simpa using h3)⟩, by show a.lat.length - (k + 1) < a.lat.length - k; omega⟩
    · have h2p := of_decide_eq_false h2
      have hlat : a.lat = b.lat := take_all hk.2 hlen.1 (by have := of_decide_eq_false h2; omega)
      refine cExit <| cSeq <| cSeq <| cReg rfl <| oR 2 rfl <| rOk (x := vN a.tape.length) rfl rfl (lenMap rowU a.tape) <| oR 1 rfl <| rE 91 <| cBlock <| cLoop (κ := Nat) (fun j => ⟨slotsF [(2, .ptr 0 0), (3, .ptr 1 0), (85, vB (cond2 (cond2 (cond2 (cond2 (cond2 (cond2 (cond2 (cond2 (cond2 (cond2 (a.mode != b.mode) true (a.width != b.width)) true (a.rob != b.rob)) true (a.queue != b.queue)) true (a.stores != b.stores)) true (a.slots != b.slots)) true (a.sets != b.sets)) true (a.ways != b.ways)) true (!(a.tables == b.tables))) true (a.lat.length != b.lat.length)) true (a.tape.length != b.tape.length))), (90, vB (decide (k < a.lat.length))), (106, vN a.tape.length), (107, vN j)], heapF [(0, .box [vI a.mode, vI a.width, vI a.rob, vI a.queue, vI a.stores, vI a.slots, vI a.sets, vI a.ways, .sl 1 (a.lat.map rowI) ca, vB a.tables, .sl 1 (a.tape.map rowU) cb]), (1, .box [vI b.mode, vI b.width, vI b.rob, vI b.queue, vI b.stores, vI b.slots, vI b.sets, vI b.ways, .sl 1 (b.lat.map rowI) da, vB b.tables, .sl 1 (b.tape.map rowU) db])], 91⟩) (fun j => j ≤ a.tape.length ∧ a.tape.take j = b.tape.take j) (fun j => a.tape.length - j) 0 (fun s => s) (Weak.of_lists (fun s => s) wT wH rfl) (⟨Nat.zero_le _, rfl⟩) ?_
      intro j hj
      have hjn : j ≤ a.tape.length := hj.1
      have hjB : j ≤ 9223372036854775807 := by have := ha.tape; omega
      have hq2 := hlen.2
      have hqa := ha.tape
      refine cSeq <| cReg rfl <| rOk (x := vB (decide (j < a.tape.length))) rfl rfl (okB (ltN _ _)) <| rE 92 <| cSeq ?_
      refine cCond rfl (fun h4 => ?_) (fun h4 => ?_)
      · have h4p := of_decide_eq_true h4
        refine cSkip <| cSeq <| cBlock <| cSeq <| cReg rfl <| oR 2 rfl <| rE 94 <| cSeq <| cReg rfl <| oR 3 rfl ?_
        obtain ⟨z, hz⟩ : ∃ y_, a.tape[j]? = some y_ := ⟨_, List.getElem?_eq_getElem omT⟩
        have hzo := ha.tp z (List.mem_of_getElem? hz)
        refine rIdx (rowU z) (x := .dp 1 0 (rowU z)) rfl rfl rfl (⟨Int.natCast_nonneg _, getM hz⟩) rfl <| oR 4 rfl ?_
        obtain ⟨u, hu⟩ : ∃ y_, b.tape[j]? = some y_ := ⟨_, List.getElem?_eq_getElem omT⟩
        have huo := hb.tp u (List.mem_of_getElem? hu)
        refine rIdx (rowU u) (x := .dp 1 0 (rowU u)) rfl rfl rfl (⟨Int.natCast_nonneg _, getM hu⟩) rfl <| oR 1 rfl <| rOk (x := vB (z != u)) rfl rfl (okB (neN _ _)) <| rE 105 ?_
        refine cCond rfl (fun h5 => ?_) (fun h5 => ?_)
        · have h5p := bne_t h5
          refine cSeq <| cReg rfl <| oR 1 rfl <| rE 106 <| cRet ?_
          exact finTA rfl trivial rfl (bool_eq ((decide_eq_false fun q => at_ne hz hu (by simpa using h5) (congrArg Cf.tape (likeC_eq.1 q))).symm))
        · have h5p := bne_f h5
          refine cSkip <| cReg rfl ?_
          have b2 : j + 1 ≤ 9223372036854775807 := by omega
          refine rOk (x := vN (j + 1)) rfl rfl (okI (wrapI64 (show j + 1 ≤ 9223372036854775807 by omega) rfl)) <| oR 1 rfl <| rE 107 ?_
          refine ⟨j + 1, fun s => s, Weak.of_lists (fun s => s) wT wH rfl, ⟨by omega, take_on hj.2 hz hu (by simpa using h5)⟩, by show a.tape.length - (j + 1) < a.tape.length - j; omega⟩
      · have h4p := of_decide_eq_false h4
        have htape : a.tape = b.tape := take_all hj.2 hlen.2 (by have := of_decide_eq_false h4; omega)
        refine cExit <| cSeq <| cReg rfl <| oR 1 rfl <| rE 93 <| cRet ?_
        exact finTA rfl trivial rfl (bool_eq ((decide_eq_true (show LikeC a b from by obtain ⟨q1, q2, q3, q4, q5, q6, q7, q8, q9⟩ := hne; exact ⟨q1, q2, q3, q4, q5, q6, q7, q8, q9, hlat, htape⟩)).symm))
theorem rows8L : ∀ (l : List UInt8), bytesOfRows (l.map row8) = some l := bytesOfRows_map
theorem own8 {l : List UInt8} {n : Nat} (h : l.length ≤ n) : bytesOfRows (List.take n (List.drop 0 (l.map row8))) = some l := by rw [List.drop_zero, List.take_of_length_le (by rw [List.length_map]; exact h)]; exact rows8L l
theorem rClean05 (m : List UInt8) (hm : m.length ≤ 900000) : DCall C0 26 [vS m] (vS (cleanM m)) := by
  refine DCall.intro c0Ok Tryd.func26 rfl rfl (by kernel_rfl) rfl <| cSeq <| cReg rfl <| oR 1 rfl <| rE 1 <| cSeq <| cSeq <| cReg rfl <| oR 1 rfl <| rOk (x := vN m.length) rfl rfl rfl <| rOk (x := vB (decide (m.length > 256))) rfl rfl (okB (gtN _ _)) <| rE 4 ?_
  refine cCond rfl (fun h1 => ?_) (fun h1 => ?_)
  · have h1p := of_decide_eq_true h1
    refine cReg rfl <| oR 1 rfl <| rNeed (x := vS (m.take 256)) rfl rfl (needSt (ext_to m 256)) (⟨Int.le_refl _, Int.natCast_nonneg _, Int.ofNat_le.2 (by show 256 ≤ m.length; omega)⟩) <| oR 1 rfl <| rE 7 <| cSeq <| cReg rfl <| oR 1 rfl <| rE 8 <| cSeq <| cBlock <| cLoop (κ := Nat) (fun k => ⟨slotsF [(0, vS (m.take 256)), (3, vN (16 * 2 ^ k))], heapF [], 8⟩) (fun k => k ≤ 4 ∧ (k ≠ 0 → 16 * 2 ^ (k - 1) < (m.take 256).length)) (fun k => 4 - k) 0 (fun s => s) (Weak.of_lists (fun s => s) wT trivial rfl) (⟨by omega, fun h => absurd rfl h⟩) ?_
    intro k hk
    have hk4 : k ≤ 4 := hk.1
    have hkB : 16 * 2 ^ k ≤ 256 := Nat.mul_le_mul_left 16 (Nat.pow_le_pow_right (by decide) hk4 : 2 ^ k ≤ 2 ^ 4)
    have hT : (m.take 256).length ≤ 256 := by first | exact hT0 | (rw [List.length_take]; omega)
    refine cSeq <| cSeq <| cReg rfl <| oR 2 rfl <| rOk (x := vN ((m.take 256).length)) rfl rfl rfl <| rOk (x := vB (decide ((16 * 2 ^ k) < ((m.take 256).length)))) rfl rfl (okB (ltN _ _)) <| rE 12 ?_
    refine cCond rfl (fun h2 => ?_) (fun h2 => ?_)
    · have h2p := of_decide_eq_true h2
      have hk5 : k < 4 := by rcases Nat.lt_or_ge k 4 with q | q; exact q; (have e : k = 4 := by omega); subst e; have := of_decide_eq_true h2; omega
      refine cSkip <| cBlock <| cReg rfl <| oR 1 rfl ?_
      have b1 : 2 * (16 * 2 ^ k) ≤ 512 := by omega
      refine rOk (x := vN (2 * (16 * 2 ^ k))) rfl rfl (okI (wrapI64 (show 2 * (16 * 2 ^ k) ≤ 512 by omega) rfl)) <| oR 1 rfl <| rE 15 ?_
      refine ⟨k + 1, fun s => s, Weak.of_lists (fun s => s) ⟨⟨rfl, rfl⟩, ⟨(congrArg vN (show 2 * (16 * 2 ^ k) = 16 * 2 ^ (k + 1) by rw [Nat.pow_succ]; omega)), rfl⟩, trivial⟩ trivial rfl, ⟨by have := trivial; have q := hk5; omega, fun _ => by have := of_decide_eq_true h2; show 16 * 2 ^ k < _; omega⟩, by show 4 - (k + 1) < 4 - k; have q := hk5; omega⟩
    · have h2p := of_decide_eq_false h2
      refine cExit <| cSeq <| cReg rfl <| oR 2 rfl <| rOk (x := vN ((m.take 256).length)) rfl rfl rfl ?_
      have b2 : (16 * 2 ^ k) - ((m.take 256).length) ≤ 256 := Nat.le_trans (Nat.sub_le _ _) hkB
      refine rOk (x := vN ((16 * 2 ^ k) - ((m.take 256).length))) rfl rfl (okI (subN64 omT hkB rfl)) <| rFx (x := .osl 16 0 ((16 * 2 ^ k) - ((m.take 256).length)) false) (h' := upd _ 16 (some (.arr ((List.replicate ((16 * 2 ^ k) - ((m.take 256).length)) 0).map row8) 1))) rfl rfl (mk_eq (List.map_replicate (f := row8) (a := 0)).symm) (⟨Int.natCast_nonneg _, Int.ofNat_le.2 omT, by show ((((16 * 2 ^ k) - ((m.take 256).length)) : Nat) : Int) ≤ 1000000; omega⟩) <| oR 1 rfl <| rE 18 <| cSeq <| cReg rfl <| oR 2 rfl <| rStr (List.replicate ((16 * 2 ^ k) - ((m.take 256).length)) 0) (d := 23) rfl rfl rfl ((by show 0 + ((16 * 2 ^ k) - ((m.take 256).length)) ≤ ((List.replicate ((16 * 2 ^ k) - ((m.take 256).length)) 0).map row8).length; rw [List.length_map, List.length_replicate]; omega)) (own8 (by rw [List.length_replicate]; omega)) <| rNeed (x := vS ((m.take 256) ++ (List.replicate ((16 * 2 ^ k) - ((m.take 256).length)) 0))) rfl rfl (needSt (cat_sB (m.take 256) (List.replicate ((16 * 2 ^ k) - ((m.take 256).length)) 0))) (by show (((m.take 256).length + (List.replicate ((16 * 2 ^ k) - ((m.take 256).length)) 0).length : Nat) : Int) ≤ 9223372036854775807; (try simp only [List.length_replicate]); omega) <| oR 1 rfl <| rE 23 <| cRet ?_
      exact finTA rfl trivial rfl (congrArg vS (cleanM_at rfl hk4 (by have := of_decide_eq_false h2; omega) hk.2))
  · have h1p := of_decide_eq_false h1
    have hT0 : m.length ≤ 256 := by have := of_decide_eq_false h1; omega
    refine cSkip <| cSeq <| cReg rfl <| oR 1 rfl <| rE 5 <| cSeq <| cBlock <| cLoop (κ := Nat) (fun k => ⟨slotsF [(0, vS m), (3, vN (16 * 2 ^ k))], heapF [], 5⟩) (fun k => k ≤ 4 ∧ (k ≠ 0 → 16 * 2 ^ (k - 1) < m.length)) (fun k => 4 - k) 0 (fun s => s) (Weak.of_lists (fun s => s) wT trivial rfl) (⟨by omega, fun h => absurd rfl h⟩) ?_
    intro k hk
    have hk4 : k ≤ 4 := hk.1
    have hkB : 16 * 2 ^ k ≤ 256 := Nat.mul_le_mul_left 16 (Nat.pow_le_pow_right (by decide) hk4 : 2 ^ k ≤ 2 ^ 4)
    have hT : m.length ≤ 256 := by first | exact hT0 | (rw [List.length_take]; omega)
    refine cSeq <| cSeq <| cReg rfl <| oR 2 rfl <| rOk (x := vN m.length) rfl rfl rfl <| rOk (x := vB (decide ((16 * 2 ^ k) < m.length))) rfl rfl (okB (ltN _ _)) <| rE 9 ?_
    refine cCond rfl (fun h3 => ?_) (fun h3 => ?_)
    · have h3p := of_decide_eq_true h3
      have hk5 : k < 4 := by rcases Nat.lt_or_ge k 4 with q | q; exact q; (have e : k = 4 := by omega); subst e; have := of_decide_eq_true h3; omega
      refine cSkip <| cBlock <| cReg rfl <| oR 1 rfl ?_
      have b3 : 2 * (16 * 2 ^ k) ≤ 512 := by omega
      refine rOk (x := vN (2 * (16 * 2 ^ k))) rfl rfl (okI (wrapI64 (show 2 * (16 * 2 ^ k) ≤ 512 by omega) rfl)) <| oR 1 rfl <| rE 12 ?_
      refine ⟨k + 1, fun s => s, Weak.of_lists (fun s => s) ⟨⟨rfl, rfl⟩, ⟨(congrArg vN (show 2 * (16 * 2 ^ k) = 16 * 2 ^ (k + 1) by rw [Nat.pow_succ]; omega)), rfl⟩, trivial⟩ trivial rfl, ⟨by have := trivial; have q := hk5; omega, fun _ => by have := of_decide_eq_true h3; show 16 * 2 ^ k < _; omega⟩, by show 4 - (k + 1) < 4 - k; have q := hk5; omega⟩
    · have h3p := of_decide_eq_false h3
      refine cExit <| cSeq <| cReg rfl <| oR 2 rfl <| rOk (x := vN m.length) rfl rfl rfl ?_
      have b4 : (16 * 2 ^ k) - m.length ≤ 256 := Nat.le_trans (Nat.sub_le _ _) hkB
      refine rOk (x := vN ((16 * 2 ^ k) - m.length)) rfl rfl (okI (subN64 omT hkB rfl)) <| rFx (x := .osl 13 0 ((16 * 2 ^ k) - m.length) false) (h' := upd _ 13 (some (.arr ((List.replicate ((16 * 2 ^ k) - m.length) 0).map row8) 1))) rfl rfl (mk_eq (List.map_replicate (f := row8) (a := 0)).symm) (⟨Int.natCast_nonneg _, Int.ofNat_le.2 omT, by show ((((16 * 2 ^ k) - m.length) : Nat) : Int) ≤ 1000000; omega⟩) <| oR 1 rfl <| rE 15 <| cSeq <| cReg rfl <| oR 2 rfl <| rStr (List.replicate ((16 * 2 ^ k) - m.length) 0) (d := 23) rfl rfl rfl ((by show 0 + ((16 * 2 ^ k) - m.length) ≤ ((List.replicate ((16 * 2 ^ k) - m.length) 0).map row8).length; rw [List.length_map, List.length_replicate]; omega)) (own8 (by rw [List.length_replicate]; omega)) <| rNeed (x := vS (m ++ (List.replicate ((16 * 2 ^ k) - m.length) 0))) rfl rfl (needSt (cat_sB m (List.replicate ((16 * 2 ^ k) - m.length) 0))) (by show ((m.length + (List.replicate ((16 * 2 ^ k) - m.length) 0).length : Nat) : Int) ≤ 9223372036854775807; (try simp only [List.length_replicate]); omega) <| oR 1 rfl <| rE 20 <| cRet ?_
      exact finTA rfl trivial rfl (congrArg vS (cleanM_at (List.take_of_length_le hT0).symm hk4 (by have := of_decide_eq_false h3; omega) hk.2))
def shapeC (c : Cf) (n : Int) : Nat → Cf
  | 1 => { c with width := n }
  | 2 => { c with rob := n }
  | 3 => { c with queue := n }
  | 4 => { c with stores := n }
  | 5 => { c with slots := n }
  | 6 => { c with sets := n }
  | 7 => { c with ways := n }
  | _ => c

theorem eShaped (c : Cf) (cl ct : Bool) (k : Nat) (n : Int) (hk : k < 14) (hc : c.ok) : DCall C0 51 [.agg (cfL c cl ct), vN k, vI n] (.agg (cfL (shapeC c n k) cl ct)) := by
  refine DCall.intro c0Ok Tryd.func51 rfl rfl (by kernel_rfl) rfl <| cSeq <| cReg rfl <| rAl 0 rfl rfl <| rAl 1 rfl rfl <| rE 2 <| cSeq <| cSeq <| cReg rfl <| oR 1 rfl <| rE 3 <| cBlock <| cSeq <| cReg rfl <| rOk (x := vB (k == 1)) rfl rfl (okB (eqN _ _)) <| oR 1 rfl ?_
  refine rE 5 ?_
  refine cCond rfl (fun h1 => ?_) (fun h1 => ?_)
  · have h1p := beq_t h1
    refine cReg rfl <| oR 2 rfl <| rSt rfl <| rE 8 <| cSeq <| cReg rfl <| oR 1 rfl <| rSt rfl <| rE 10 <| cRet ?_
    have ek := beq_t h1
    subst ek
    exact finTA rfl (by repeat' (first | exact trivial | constructor)) rfl rfl
  · have h1p := beq_f h1
    refine cSeq <| cReg rfl <| rOk (x := vB (k == 2)) rfl rfl (okB (eqN _ _)) <| oR 1 rfl <| rE 7 ?_
    refine cCond rfl (fun h2 => ?_) (fun h2 => ?_)
    · have h2p := beq_t h2
      refine cReg rfl <| oR 2 rfl <| rSt rfl <| rE 10 <| cSeq <| cReg rfl <| oR 1 rfl <| rSt rfl <| rE 12 <| cRet ?_
      have ek := beq_t h2
      subst ek
      exact finTA rfl (by repeat' (first | exact trivial | constructor)) rfl rfl
    · have h2p := beq_f h2
      refine cSeq <| cReg rfl <| rOk (x := vB (k == 3)) rfl rfl (okB (eqN _ _)) <| oR 1 rfl <| rE 9 ?_
      refine cCond rfl (fun h3 => ?_) (fun h3 => ?_)
      · have h3p := beq_t h3
        refine cReg rfl <| oR 2 rfl <| rSt rfl <| rE 12 <| cSeq <| cReg rfl <| oR 1 rfl <| rSt rfl <| rE 14 <| cRet ?_
        have ek := beq_t h3
        subst ek
        exact finTA rfl (by repeat' (first | exact trivial | constructor)) rfl rfl
      · have h3p := beq_f h3
        refine cSeq <| cReg rfl <| rOk (x := vB (k == 4)) rfl rfl (okB (eqN _ _)) <| oR 1 rfl <| rE 11 ?_
        refine cCond rfl (fun h4 => ?_) (fun h4 => ?_)
        · have h4p := beq_t h4
          refine cReg rfl <| oR 2 rfl <| rSt rfl <| rE 14 <| cSeq <| cReg rfl <| oR 1 rfl <| rSt rfl <| rE 16 <| cRet ?_
          have ek := beq_t h4
          subst ek
          exact finTA rfl (by repeat' (first | exact trivial | constructor)) rfl rfl
        · have h4p := beq_f h4
          refine cSeq <| cReg rfl <| rOk (x := vB (k == 5)) rfl rfl (okB (eqN _ _)) <| oR 1 rfl <| rE 13 ?_
          refine cCond rfl (fun h5 => ?_) (fun h5 => ?_)
          · have h5p := beq_t h5
            refine cReg rfl <| oR 2 rfl <| rSt rfl <| rE 16 <| cSeq <| cReg rfl <| oR 1 rfl <| rSt rfl <| rE 18 <| cRet ?_
            have ek := beq_t h5
            subst ek
            exact finTA rfl (by repeat' (first | exact trivial | constructor)) rfl rfl
          · have h5p := beq_f h5
            refine cSeq <| cReg rfl <| rOk (x := vB (k == 6)) rfl rfl (okB (eqN _ _)) <| oR 1 rfl <| rE 15 ?_
            refine cCond rfl (fun h6 => ?_) (fun h6 => ?_)
            · have h6p := beq_t h6
              refine cReg rfl <| oR 2 rfl <| rSt rfl <| rE 18 <| cSeq <| cReg rfl <| oR 1 rfl <| rSt rfl <| rE 20 <| cRet ?_
              have ek := beq_t h6
              subst ek
              exact finTA rfl (by repeat' (first | exact trivial | constructor)) rfl rfl
            · have h6p := beq_f h6
              refine cSeq <| cReg rfl <| rOk (x := vB (k == 7)) rfl rfl (okB (eqN _ _)) <| oR 1 rfl <| rE 17 ?_
              refine cCond rfl (fun h7 => ?_) (fun h7 => ?_)
              · have h7p := beq_t h7
                refine cReg rfl <| oR 2 rfl <| rSt rfl <| rE 20 <| cSeq <| cReg rfl <| oR 1 rfl <| rSt rfl <| rE 22 <| cRet ?_
                have ek := beq_t h7
                subst ek
                exact finTA rfl (by repeat' (first | exact trivial | constructor)) rfl rfl
              · have h7p := beq_f h7
                refine cSkip <| cSeq <| cReg rfl <| oR 1 rfl <| rSt rfl <| rE 19 <| cRet ?_
                have e0 := beq_f h1
                have e1 := beq_f h2
                have e2 := beq_f h3
                have e3 := beq_f h4
                have e4 := beq_f h5
                have e5 := beq_f h6
                have e6 := beq_f h7
                rcases k with _ | _ | _ | _ | _ | _ | _ | _ | _ | _ | _ | _ | _ | _ | k
                all_goals first | (exfalso; omega) | exact finTA rfl (by repeat' (first | exact trivial | constructor)) rfl rfl
theorem one_len {w0 : List UInt8} {t : List (List UInt8)} (hw : ∀ x ∈ w0 :: t, x.length ≤ 900000) : (t.headD []).length ≤ 900000 := by
  cases t with
  | nil => decide
  | cons x t => exact hw x (by simp)
/-- What is read of bytes so far. -/
def refBk (w : W) (k : Nat) : W := (List.range k).map fun i => UInt8.ofNat (valV 16 ((w.take (2 * i + 2)).drop (2 * i)))
theorem refBk_next (w : W) (k : Nat) : refBk w k ++ [UInt8.ofNat (valV 16 ((w.take (2 * k + 2)).drop (2 * k)))] = refBk w (k + 1) := by unfold refBk; rw [List.range_succ, List.map_append]; rfl
theorem refBk_cons (x y : UInt8) (t : W) (k : Nat) : refBk (x :: y :: t) (k + 1) = UInt8.ofNat (valV 16 [x, y]) :: refBk t k := by
  unfold refBk
  rw [List.range_succ_eq_map, List.map_cons, List.map_map]
  congr 1
theorem refB_eq : ∀ (w : W) (k : Nat), 2 * k ≤ w.length → w.length < 2 * k + 2 → refBk w k = refB w
  | [], k, h, _ => by have : k = 0 := by simp at h; omega
                      subst this; rfl
  | [_], k, h, _ => by have : k = 0 := by simp at h; omega
                       subst this; rfl
  | x :: y :: t, k, h, h2 => by
    obtain ⟨j, rfl⟩ : ∃ j, k = j + 1 := ⟨k - 1, by simp at h2; omega⟩
    rw [refBk_cons, refB_eq t j (by simp at h; omega) (by simp at h2; omega)]; rfl

theorem eReadX (p : ScPlan) (a b c ck : Bool) (w0 : List UInt8) (t : List (List UInt8)) (k : Nat) (hk : k < 14) (h9 : ¬ k = 9) (hp : p.ok) (ht : (w0 :: t).length ≤ 900000) (hw : ∀ x ∈ w0 :: t, x.length ≤ 900000) : DCall C0 28 [.agg (planL p a b c), vN k, .sl 1 ((w0 :: t).map rowS) ck] (.agg (planL (readR p t k) a (if k = 10 then t.isEmpty else b) (if k = 11 then t.isEmpty else c))) := by
  refine dc1 (DCall.intro c1Ok Tryd.func28 rfl rfl (by kernel_rfl) rfl ?_)
  have b1_ := hp.lat
  have b2_ := hp.tape
  have b3_ := hp.prog
  have b4_ := hp.mem
  have hol := one_len hw
  have htl : t.length + 1 ≤ 900000 := ht
  refine cSeq <| cReg rfl <| rAl 0 rfl rfl <| rAl 1 rfl rfl <| rE 2 <| cSeq <| cReg rfl <| oR 1 rfl <| rE 3 ?_
  refine cJoin (κ := Unit) (fun u_ => ⟨slotsF [(2, .sl 1 ((w0 :: t).map rowS) ck), (1, vN k), (3, .ptr 0 0), (6, .ptr 1 0), (7, vS (t.headD []))], heapF [(0, .box [vI p.mode, vI p.width, vI p.rob, vI p.queue, vI p.stores, vI p.slots, vI p.sets, vI p.ways, .sl 1 (p.lat.map rowI) a, vB p.tables, .sl 1 (p.tape.map rowU) b, .sl 1 (p.prog.map rowU) c, vS p.mem, vI p.cycles]), (1, .box [vI 0, vI 0, vI 0, vI 0, vI 0, vI 0, vI 0, vI 0, .sl 0 ([]) true, vB false, .sl 0 ([]) true, .sl 0 ([]) true, .v (.string (⟨#[]⟩ : ByteArray)), vI 0])], 3⟩) (fun u_ => True) ?_ ?_
  · refine cSeq <| cReg rfl <| oR 1 rfl <| rOk (x := vN ((w0 :: t).length)) rfl rfl (lenMap rowS (w0 :: t)) <| rOk (x := vB (decide (((w0 :: t).length) > 1))) rfl rfl (okB (gtN _ _)) <| rE 6 ?_
    refine cCond rfl (fun h1 => ?_) (fun h1 => ?_)
    · have h1p := of_decide_eq_true h1
      refine cReg rfl <| oR 1 rfl ?_
      obtain ⟨x1, hx1⟩ : ∃ y_, (w0 :: t)[1]? = some y_ := ⟨_, List.getElem?_eq_getElem omT⟩
      have hx1o := hw x1 (List.mem_of_getElem? hx1)
      refine rIdx (rowS x1) (x := .dp 1 0 (rowS x1)) rfl rfl rfl (⟨by decide, getM hx1⟩) rfl <| oR 2 rfl <| rE 10 ?_
      refine .mk _ (.refl _) ⟨(), fun s => s, Weak.of_lists (fun s => s) ⟨⟨rfl, rfl⟩, ⟨rfl, rfl⟩, ⟨rfl, rfl⟩, ⟨rfl, rfl⟩, ⟨(by rw [← show x1 = t.headD [] by cases t with | nil => (exfalso; simp at h1) | cons y t => (have q : some y = some x1 := hx1; exact (Option.some.inj q).symm)]; rfl), rfl⟩, trivial⟩ wH rfl, rfl, trivial⟩
    · have h1p := of_decide_eq_false h1
      refine cSkip ?_
      refine .mk _ (.refl _) ⟨(), fun s => s, Weak.of_lists (fun s => s) ⟨⟨rfl, rfl⟩, ⟨rfl, rfl⟩, ⟨rfl, rfl⟩, ⟨rfl, rfl⟩, ⟨(by rw [show t.headD [] = [] by cases t with | nil => rfl | cons y t => (exfalso; simp at h1)]; rfl), rfl⟩, trivial⟩ wH rfl, rfl, trivial⟩
  · intro u_ _
    refine cSeq <| cSeq <| cReg rfl <| oR 1 rfl <| rE 4 <| cBlock <| cSeq <| cReg rfl <| rOk (x := vB (k == 0)) rfl rfl (okB (eqN _ _)) <| oR 1 rfl <| rE 6 ?_
    refine cCond rfl (fun h2 => ?_) (fun h2 => ?_)
    · have h2p := beq_t h2
      refine cSeq <| cReg rfl <| oR 2 rfl <| rSt rfl <| rE 9 <| cSeq <| cSeq <| cReg rfl <| oR 1 rfl <| rOk (x := vB (decide (t.headD [] = [116, 97, 105, 110, 116]))) rfl rfl (okBo (eq_tL (t.headD []) ([116, 97, 105, 110, 116]))) <| rE 11 ?_
      refine cCond rfl (fun h3 => ?_) (fun h3 => ?_)
      · have h3p := of_decide_eq_true h3
        refine cReg rfl <| oR 2 rfl <| rSt rfl <| rE 14 <| cSeq <| cReg rfl <| oR 1 rfl <| rOk (x := vB (decide (t.headD [] = [115, 116, 114, 105, 99, 116]))) rfl rfl (okBo (eq_tL (t.headD []) ([115, 116, 114, 105, 99, 116]))) <| rE 16 ?_
        refine cCond rfl (fun h4 => ?_) (fun h4 => ?_)
        · have h4p := of_decide_eq_true h4
          refine cReg rfl <| oR 2 rfl <| rSt rfl <| rE 19 <| cSeq <| cReg rfl <| oR 1 rfl <| rSt rfl <| rE 21 <| cRet ?_
          have ek := beq_t h2
          subst ek
          exact finTA rfl (by repeat' (first | exact trivial | constructor)) rfl (congrArg (fun z => AV.agg (planL { p with mode := z } a b c)) (by unfold refO taintW strictW; simp only [decide_eq_true_eq, decide_eq_false_iff_not] at h3 h4; rw [if_pos h4]))
        · have h4p := of_decide_eq_false h4
          refine cSkip <| cSeq <| cReg rfl <| oR 1 rfl <| rSt rfl <| rE 18 <| cRet ?_
          have ek := beq_t h2
          subst ek
          exact finTA rfl (by repeat' (first | exact trivial | constructor)) rfl (congrArg (fun z => AV.agg (planL { p with mode := z } a b c)) (by unfold refO taintW strictW; simp only [decide_eq_true_eq, decide_eq_false_iff_not] at h3 h4; rw [if_neg h4, if_pos h3]))
      · have h3p := of_decide_eq_false h3
        refine cSkip <| cSeq <| cReg rfl <| oR 1 rfl <| rOk (x := vB (decide (t.headD [] = [115, 116, 114, 105, 99, 116]))) rfl rfl (okBo (eq_tL (t.headD []) ([115, 116, 114, 105, 99, 116]))) <| rE 13 ?_
        refine cCond rfl (fun h5 => ?_) (fun h5 => ?_)
        · have h5p := of_decide_eq_true h5
          refine cReg rfl <| oR 2 rfl <| rSt rfl <| rE 16 <| cSeq <| cReg rfl <| oR 1 rfl <| rSt rfl <| rE 18 <| cRet ?_
          have ek := beq_t h2
          subst ek
          exact finTA rfl (by repeat' (first | exact trivial | constructor)) rfl (congrArg (fun z => AV.agg (planL { p with mode := z } a b c)) (by unfold refO taintW strictW; simp only [decide_eq_true_eq, decide_eq_false_iff_not] at h3 h5; rw [if_pos h5]))
        · have h5p := of_decide_eq_false h5
          refine cSkip <| cSeq <| cReg rfl <| oR 1 rfl <| rSt rfl <| rE 15 <| cRet ?_
          have ek := beq_t h2
          subst ek
          exact finTA rfl (by repeat' (first | exact trivial | constructor)) rfl (congrArg (fun z => AV.agg (planL { p with mode := z } a b c)) (by unfold refO taintW strictW; simp only [decide_eq_true_eq, decide_eq_false_iff_not] at h3 h5; rw [if_neg h5, if_neg h3]))
    · have h2p := beq_f h2
      refine cSeq <| cReg rfl <| rOk (x := vB (k == 8)) rfl rfl (okB (eqN _ _)) <| oR 1 rfl <| rE 8 ?_
      refine cCond rfl (fun h6 => ?_) (fun h6 => ?_)
      · have h6p := beq_t h6
        refine cReg rfl <| oR 1 rfl <| rOk (x := vB (decide (t.headD [] = [116, 97, 98, 108, 101, 115]))) rfl rfl (okBo (eq_tL (t.headD []) ([116, 97, 98, 108, 101, 115]))) <| oR 2 rfl <| rSt rfl <| rE 13 <| cSeq <| cReg rfl <| oR 1 rfl <| rSt rfl <| rE 15 <| cRet ?_
        have ek := beq_t h6
        subst ek
        exact finTA rfl (by repeat' (first | exact trivial | constructor)) rfl rfl
      · have h6p := beq_f h6
        refine cSeq <| cReg rfl <| rOk (x := vB (k == 9)) rfl rfl (okB (eqN _ _)) <| oR 1 rfl <| rE 10 ?_
        refine cCond rfl (fun h7 => by exact absurd (beq_t h7) h9) (fun _ => ?_)
        refine cSeq <| cReg rfl <| rOk (x := vB (k == 10)) rfl rfl (okB (eqN _ _)) <| oR 1 rfl <| rE 12 ?_
        refine cCond rfl (fun h8 => ?_) (fun h8 => ?_)
        · have h8p := beq_t h8
          refine cReg rfl <| oR 1 rfl ?_
          refine rNeed (x := .sl 1 (((w0 :: t).drop 1).map rowS) (ck && true)) rfl rfl (needS (sliceL rowS (w0 :: t) 1)) (by refine ⟨?_, ?_, ?_⟩; all_goals (first | exact Int.natCast_nonneg _ | decide | (apply Int.ofNat_le.2; exact omT) | (show ((_ : Nat) : Int) = ((_ : Nat) : Int); congr 1; omega) | rfl)) ?_
          refine rCl rfl (.inl rfl) (eWords t (ck && true) (by omega) (fun x hx => hw x (List.mem_cons_of_mem _ hx))) <| oR 2 rfl <| rSt rfl <| rE 18 <| cSeq <| cReg rfl <| oR 1 rfl <| rSt rfl <| rE 20 <| cRet ?_
          have ek := beq_t h8
          subst ek
          exact finTA rfl (by repeat' (first | exact trivial | constructor)) rfl rfl
        · have h8p := beq_f h8
          refine cSeq <| cReg rfl <| rOk (x := vB (k == 11)) rfl rfl (okB (eqN _ _)) <| oR 1 rfl <| rE 14 ?_
          refine cCond rfl (fun h9 => ?_) (fun h9 => ?_)
          · have h9p := beq_t h9
            refine cReg rfl <| oR 1 rfl ?_
            refine rNeed (x := .sl 1 (((w0 :: t).drop 1).map rowS) (ck && true)) rfl rfl (needS (sliceL rowS (w0 :: t) 1)) (by refine ⟨?_, ?_, ?_⟩; all_goals (first | exact Int.natCast_nonneg _ | decide | (apply Int.ofNat_le.2; exact omT) | (show ((_ : Nat) : Int) = ((_ : Nat) : Int); congr 1; omega) | rfl)) ?_
            refine rCl rfl (.inl rfl) (eWords t (ck && true) (by omega) (fun x hx => hw x (List.mem_cons_of_mem _ hx))) <| oR 1 rfl <| rSt rfl <| rE 19 <| cSeq <| cReg rfl <| oR 1 rfl <| rSt rfl <| rE 21 <| cRet ?_
            have ek := beq_t h9
            subst ek
            exact finTA rfl (by repeat' (first | exact trivial | constructor)) rfl rfl
          · have h9p := beq_f h9
            refine cSeq <| cReg rfl <| rOk (x := vB (k == 12)) rfl rfl (okB (eqN _ _)) <| oR 1 rfl <| rE 16 ?_
            refine cCond rfl (fun h10 => ?_) (fun h10 => ?_)
            · have h10p := beq_t h10
              refine cSeq <| cReg rfl <| rOk (x := .sl 1 ([]) true) rfl rfl rfl <| oR 1 rfl <| rE 18 <| cSeq <| cSeq <| cReg rfl <| oR 1 rfl <| rE 19 <| cBlock <| cLoop (κ := Nat) (fun k => match k with | 0 => ⟨slotsF [(3, .ptr 0 0), (6, .ptr 1 0), (7, vS (t.headD [])), (10, .sl 1 ([]) true), (11, vN 0)], heapF [(0, .box [vI p.mode, vI p.width, vI p.rob, vI p.queue, vI p.stores, vI p.slots, vI p.sets, vI p.ways, .sl 1 (p.lat.map rowI) a, vB p.tables, .sl 1 (p.tape.map rowU) b, .sl 1 (p.prog.map rowU) c, vS p.mem, vI p.cycles]), (1, .box [vI 0, vI 0, vI 0, vI 0, vI 0, vI 0, vI 0, vI 0, .sl 0 ([]) true, vB false, .sl 0 ([]) true, .sl 0 ([]) true, .v (.string (⟨#[]⟩ : ByteArray)), vI 0])], 20⟩ | k + 1 => ⟨slotsF [(3, .ptr 0 0), (6, .ptr 1 0), (7, vS (t.headD [])), (10, .osl 19 0 (k + 1) false), (11, vN (2 * (k + 1)))], heapF [(0, .box [vI p.mode, vI p.width, vI p.rob, vI p.queue, vI p.stores, vI p.slots, vI p.sets, vI p.ways, .sl 1 (p.lat.map rowI) a, vB p.tables, .sl 1 (p.tape.map rowU) b, .sl 1 (p.prog.map rowU) c, vS p.mem, vI p.cycles]), (1, .box [vI 0, vI 0, vI 0, vI 0, vI 0, vI 0, vI 0, vI 0, .sl 0 ([]) true, vB false, .sl 0 ([]) true, .sl 0 ([]) true, .v (.string (⟨#[]⟩ : ByteArray)), vI 0]), (19, .arr ((refBk (t.headD []) (k + 1)).map row8) 1)], 20⟩) (fun k => 2 * k ≤ (t.headD []).length) (fun k => (t.headD []).length - 2 * k) 0 (fun s => s) (Weak.of_lists (fun s => s) wT wH rfl) (Nat.zero_le _) ?_
              intro k hk
              rcases k with _ | k
              · refine cSeq <| cSeq <| cReg rfl <| oR 1 rfl ?_
                have b1 : 0 + 1 ≤ 1 := Nat.add_le_add (Nat.le_refl 0) (Nat.le_refl 1)
                refine rOk (x := vN (0 + 1)) rfl rfl (okI (wrapI64 b1 rfl)) <| oR 1 rfl <| rOk (x := vN ((t.headD []).length)) rfl rfl rfl <| rOk (x := vB (decide ((0 + 1) < ((t.headD []).length)))) rfl rfl (okB (ltN _ _)) <| rE 25 ?_
                refine cCond rfl (fun h11 => ?_) (fun h11 => ?_)
                · have h11p := of_decide_eq_true h11
                  refine cSkip <| cSeq <| cBlock <| cReg rfl <| oR 4 rfl ?_
                  have b2 : 0 + 2 ≤ 2 := Nat.add_le_add (Nat.le_refl 0) (Nat.le_refl 2)
                  refine rOk (x := vN (0 + 2)) rfl rfl (okI (wrapI64 b2 rfl)) <| rNeed (x := vS (((t.headD []).take (0 + 2)).drop 0)) rfl rfl (needSt (ext_sB (t.headD []) 0 (0 + 2))) (⟨Int.natCast_nonneg _, Int.ofNat_le.2 (by show 0 ≤ (0 + 2); omega), Int.ofNat_le.2 (by show (0 + 2) ≤ (t.headD []).length; omega)⟩) <| rCl rfl (.inl rfl) (eVal16 (((t.headD []).take (0 + 2)).drop 0) (by first | omega | (simp only [List.length_drop, List.length_take]; omega))) ?_
                  have b3 : (valV 16 (((t.headD []).take (0 + 2)).drop 0)) % 256 ≤ 255 := Nat.le_of_lt_succ (Nat.mod_lt _ (by decide))
                  refine rOk (x := .v (.int .u8 (((valV 16 (((t.headD []).take (0 + 2)).drop 0)) % 256 : Nat) : Int))) rfl rfl rfl <| rOk (x := .sl 1 ([[.v (.int .u8 (((valV 16 (((t.headD []).take (0 + 2)).drop 0)) % 256 : Nat) : Int))]]) true) rfl rfl rfl <| rFx (x := .osl 34 0 1 false) (h' := upd _ 34 (some (.arr (([(UInt8.ofNat (valV 16 (((t.headD []).take (0 + 2)).drop 0)))]).map row8) 1))) rfl rfl (app_sl row8 ([] : List UInt8) ([(UInt8.ofNat (valV 16 (((t.headD []).take (0 + 2)).drop 0)))]) omT) (⟨by exact omT, by exact omT, trivial, trivial⟩) <| oR 1 rfl <| rE 36 <| cReg rfl <| oR 1 rfl ?_
                  have b4 : 0 + 2 ≤ 2 := Nat.add_le_add (Nat.le_refl 0) (Nat.le_refl 2)
                  refine rOk (x := vN (0 + 2)) rfl rfl (okI (wrapI64 b4 rfl)) <| oR 1 rfl <| rE 39 ?_
                  refine ⟨0 + 1, fun i => match i with | 19 => 34 | i => i, Weak.of_lists (fun i => match i with | 19 => 34 | i => i) ⟨⟨rfl, rfl⟩, ⟨rfl, rfl⟩, ⟨rfl, rfl⟩, ⟨(show AV.osl 34 0 (1) false = AV.osl 34 0 (0 + 1) false from rfl), rfl⟩, ⟨rfl, rfl⟩, trivial⟩ ⟨⟨rfl, rfl, rfl⟩, ⟨rfl, rfl, rfl⟩, ⟨rfl, (congrArg (fun z : List UInt8 => some (Blk.arr (z.map row8) 1)) (show [(UInt8.ofNat (valV 16 (((t.headD []).take (0 + 2)).drop 0)))] = refBk (t.headD []) (0 + 1) from (refBk_next (t.headD []) 0))), rfl⟩, trivial⟩ rfl, by have := of_decide_eq_true h11; omega, by have := of_decide_eq_true h11; show (t.headD []).length - 2 * (0 + 1) < (t.headD []).length - 2 * (0); omega⟩
                · have h11p := of_decide_eq_false h11
                  refine cExit <| cReg rfl <| oR 1 rfl <| rStr ([]) (d := 99) rfl rfl rfl (trivial) (rfl) <| oR 1 rfl <| rSt rfl <| rE 29 <| cSeq <| cReg rfl <| oR 1 rfl <| rSt rfl <| rE 31 <| cRet ?_
                  have ek := beq_t h10
                  subst ek
                  have hE := refB_eq (t.headD []) (0) (by omega) (by have := of_decide_eq_false h11; omega)
                  exact finTA rfl (by repeat' (first | exact trivial | constructor)) rfl (congrArg (fun z => AV.agg (planL { p with mem := z } a b c)) (hE))
              · have hkk : 2 * (k + 1) ≤ (t.headD []).length := hk
                have hkB : k + 1 ≤ 900000 := by omega
                have hkC : 2 * (k + 1) ≤ 1800000 := by omega
                have hKl : (refBk (t.headD []) (k + 1)).length = k + 1 := by unfold refBk; rw [List.length_map, List.length_range]
                refine cSeq <| cSeq <| cReg rfl <| oR 1 rfl ?_
                have b5 : (2 * (k + 1)) + 1 ≤ 1800001 := Nat.add_le_add hkC (Nat.le_refl 1)
                refine rOk (x := vN ((2 * (k + 1)) + 1)) rfl rfl (okI (wrapI64 b5 rfl)) <| oR 1 rfl <| rOk (x := vN ((t.headD []).length)) rfl rfl rfl <| rOk (x := vB (decide (((2 * (k + 1)) + 1) < ((t.headD []).length)))) rfl rfl (okB (ltN _ _)) <| rE 25 ?_
                refine cCond rfl (fun h12 => ?_) (fun h12 => ?_)
                · have h12p := of_decide_eq_true h12
                  refine cSkip <| cSeq <| cBlock <| cReg rfl <| oR 4 rfl ?_
                  have b6 : (2 * (k + 1)) + 2 ≤ 1800002 := Nat.add_le_add hkC (Nat.le_refl 2)
                  refine rOk (x := vN ((2 * (k + 1)) + 2)) rfl rfl (okI (wrapI64 b6 rfl)) <| rNeed (x := vS (((t.headD []).take ((2 * (k + 1)) + 2)).drop (2 * (k + 1)))) rfl rfl (needSt (ext_sB (t.headD []) (2 * (k + 1)) ((2 * (k + 1)) + 2))) (⟨Int.natCast_nonneg _, Int.ofNat_le.2 (by show (2 * (k + 1)) ≤ ((2 * (k + 1)) + 2); omega), Int.ofNat_le.2 (by show ((2 * (k + 1)) + 2) ≤ (t.headD []).length; omega)⟩) <| rCl rfl (.inl rfl) (eVal16 (((t.headD []).take ((2 * (k + 1)) + 2)).drop (2 * (k + 1))) (by first | omega | (simp only [List.length_drop, List.length_take]; omega))) ?_
                  have b7 : (valV 16 (((t.headD []).take ((2 * (k + 1)) + 2)).drop (2 * (k + 1)))) % 256 ≤ 255 := Nat.le_of_lt_succ (Nat.mod_lt _ (by decide))
                  refine rOk (x := .v (.int .u8 (((valV 16 (((t.headD []).take ((2 * (k + 1)) + 2)).drop (2 * (k + 1)))) % 256 : Nat) : Int))) rfl rfl rfl <| rOk (x := .sl 1 ([[.v (.int .u8 (((valV 16 (((t.headD []).take ((2 * (k + 1)) + 2)).drop (2 * (k + 1)))) % 256 : Nat) : Int))]]) true) rfl rfl rfl <| rFx (x := .osl 34 0 (k + 1 + 1) false) (h' := upd (upd _ 19 none) 34 (some (.arr (((refBk (t.headD []) (k + 1)) ++ ([(UInt8.ofNat (valV 16 (((t.headD []).take ((2 * (k + 1)) + 2)).drop (2 * (k + 1)))))])).map row8) 1))) rfl rfl (app_own row8 (refBk (t.headD []) (k + 1)) ([(UInt8.ofNat (valV 16 (((t.headD []).take ((2 * (k + 1)) + 2)).drop (2 * (k + 1)))))]) omT omT) (⟨by exact omT, by exact omT, trivial⟩) <| oR 1 rfl <| rE 36 <| cReg rfl <| oR 1 rfl ?_
                  have b8 : (2 * (k + 1)) + 2 ≤ 1800002 := Nat.add_le_add hkC (Nat.le_refl 2)
                  refine rOk (x := vN ((2 * (k + 1)) + 2)) rfl rfl (okI (wrapI64 b8 rfl)) <| oR 1 rfl <| rE 39 ?_
                  refine ⟨(k + 1) + 1, fun i => match i with | 19 => 34 | i => i, Weak.of_lists (fun i => match i with | 19 => 34 | i => i) ⟨⟨rfl, rfl⟩, ⟨rfl, rfl⟩, ⟨rfl, rfl⟩, ⟨(show AV.osl 34 0 (k + 1 + 1) false = AV.osl 34 0 ((k + 1) + 1) false from rfl), rfl⟩, ⟨rfl, rfl⟩, trivial⟩ ⟨⟨rfl, rfl, rfl⟩, ⟨rfl, rfl, rfl⟩, ⟨rfl, (congrArg (fun z : List UInt8 => some (Blk.arr (z.map row8) 1)) (show (refBk (t.headD []) (k + 1)) ++ ([(UInt8.ofNat (valV 16 (((t.headD []).take ((2 * (k + 1)) + 2)).drop (2 * (k + 1)))))]) = refBk (t.headD []) ((k + 1) + 1) from (refBk_next (t.headD []) (k + 1)))), rfl⟩, trivial⟩ rfl, by have := of_decide_eq_true h12; omega, by have := of_decide_eq_true h12; show (t.headD []).length - 2 * ((k + 1) + 1) < (t.headD []).length - 2 * (k + 1); omega⟩
                · have h12p := of_decide_eq_false h12
                  refine cExit <| cReg rfl <| oR 1 rfl <| rStr (refBk (t.headD []) (k + 1)) (d := 99) rfl rfl rfl ((by show 0 + k + 1 ≤ ((refBk (t.headD []) (k + 1)).map row8).length; rw [List.length_map, hKl]; omega)) (own8 (by rw [hKl]; omega)) <| oR 1 rfl <| rSt rfl <| rE 29 <| cSeq <| cReg rfl <| oR 1 rfl <| rSt rfl <| rE 31 <| cRet ?_
                  have ek := beq_t h10
                  subst ek
                  have hE := refB_eq (t.headD []) (k + 1) (by omega) (by have := of_decide_eq_false h12; omega)
                  exact finTA rfl (by repeat' (first | exact trivial | constructor)) rfl (congrArg (fun z => AV.agg (planL { p with mem := z } a b c)) (hE))
            · have h10p := beq_f h10
              refine cSeq <| cReg rfl <| rOk (x := vB (k == 13)) rfl rfl (okB (eqN _ _)) <| oR 1 rfl <| rE 18 ?_
              refine cCond rfl (fun h13 => ?_) (fun h13 => ?_)
              · have h13p := beq_t h13
                refine cReg rfl <| oR 1 rfl <| rCl rfl (.inl rfl) (eVal10 (t.headD []) (by first | omega | (simp only [List.length_drop, List.length_take]; omega))) <| oR 1 rfl <| rSt rfl <| rE 22 <| cSeq <| cReg rfl <| oR 1 rfl <| rSt rfl <| rE 24 <| cRet ?_
                have ek := beq_t h13
                subst ek
                exact finTA rfl (by repeat' (first | exact trivial | constructor)) rfl rfl
              · have h13p := beq_f h13
                refine cReg rfl <| oR 4 rfl <| rCl rfl (.inl rfl) (eVal10 (t.headD []) (by first | omega | (simp only [List.length_drop, List.length_take]; omega))) <| rCl rfl (.inl rfl) (eShaped (cfOf p) a b k (valV 10 (t.headD [])) hk ⟨by show p.lat.length ≤ _; omega, by show p.tape.length ≤ _; omega, hp.tp⟩) <| oR 1 rfl <| rSt rfl <| rE 26 <| cSeq <| cReg rfl <| oR 1 rfl <| rSt rfl <| rE 28 <| cRet ?_
                have e0 := beq_f h2
                have e1 := beq_f h6
                have e2 := beq_f h8
                have e3 := beq_f h9
                have e4 := beq_f h10
                have e5 := beq_f h13
                rcases k with _ | _ | _ | _ | _ | _ | _ | _ | _ | _ | _ | _ | _ | _ | k
                all_goals first | (exfalso; omega) | exact finTA rfl (by repeat' (first | exact trivial | constructor)) rfl rfl
theorem eRead9E (p : ScPlan) (a b c ck : Bool) (w0 : List UInt8) (t : List (List UInt8)) (hT : t.length = 0) (hp : p.ok) (ht : (w0 :: t).length ≤ 900000) (hw : ∀ x ∈ w0 :: t, x.length ≤ 900000) : DCall C0 28 [.agg (planL p a b c), vI 9, .sl 1 ((w0 :: t).map rowS) ck] (.agg ((planL p a b c).set 8 (.sl 0 [] true))) := by
  refine dc1 (DCall.intro c1Ok Tryd.func28 rfl rfl (by kernel_rfl) rfl ?_)
  have b1_ := hp.lat
  have b2_ := hp.tape
  have b3_ := hp.prog
  have b4_ := hp.mem
  have hol := one_len hw
  have htl : t.length + 1 ≤ 900000 := ht
  refine cSeq <| cReg rfl <| rAl 0 rfl rfl <| rAl 1 rfl rfl <| rE 2 <| cSeq <| cReg rfl <| oR 1 rfl <| rE 3 ?_
  refine cJoin (κ := Unit) (fun u_ => ⟨slotsF [(2, .sl 1 ((w0 :: t).map rowS) ck), (1, vN 9), (3, .ptr 0 0), (6, .ptr 1 0), (7, vS (t.headD []))], heapF [(0, .box [vI p.mode, vI p.width, vI p.rob, vI p.queue, vI p.stores, vI p.slots, vI p.sets, vI p.ways, .sl 1 (p.lat.map rowI) a, vB p.tables, .sl 1 (p.tape.map rowU) b, .sl 1 (p.prog.map rowU) c, vS p.mem, vI p.cycles]), (1, .box [vI 0, vI 0, vI 0, vI 0, vI 0, vI 0, vI 0, vI 0, .sl 0 ([]) true, vB false, .sl 0 ([]) true, .sl 0 ([]) true, .v (.string (⟨#[]⟩ : ByteArray)), vI 0])], 3⟩) (fun u_ => True) ?_ ?_
  · refine cSeq <| cReg rfl <| oR 1 rfl <| rOk (x := vN ((w0 :: t).length)) rfl rfl (lenMap rowS (w0 :: t)) <| rOk (x := vB (decide (((w0 :: t).length) > 1))) rfl rfl (okB (gtN _ _)) <| rE 6 ?_
    refine cCond rfl (fun h1 => ?_) (fun h1 => ?_)
    · have h1p := of_decide_eq_true h1
      refine cReg rfl <| oR 1 rfl ?_
      obtain ⟨x1, hx1⟩ : ∃ y_, (w0 :: t)[1]? = some y_ := ⟨_, List.getElem?_eq_getElem omT⟩
      have hx1o := hw x1 (List.mem_of_getElem? hx1)
      refine rIdx (rowS x1) (x := .dp 1 0 (rowS x1)) rfl rfl rfl (⟨by decide, getM hx1⟩) rfl <| oR 2 rfl <| rE 10 ?_
      refine .mk _ (.refl _) ⟨(), fun s => s, Weak.of_lists (fun s => s) ⟨⟨rfl, rfl⟩, ⟨rfl, rfl⟩, ⟨rfl, rfl⟩, ⟨rfl, rfl⟩, ⟨(by rw [← show x1 = t.headD [] by cases t with | nil => (exfalso; simp at h1) | cons y t => (have q : some y = some x1 := hx1; exact (Option.some.inj q).symm)]; rfl), rfl⟩, trivial⟩ wH rfl, rfl, trivial⟩
    · have h1p := of_decide_eq_false h1
      refine cSkip ?_
      refine .mk _ (.refl _) ⟨(), fun s => s, Weak.of_lists (fun s => s) ⟨⟨rfl, rfl⟩, ⟨rfl, rfl⟩, ⟨rfl, rfl⟩, ⟨rfl, rfl⟩, ⟨(by rw [show t.headD [] = [] by cases t with | nil => rfl | cons y t => (exfalso; simp at h1)]; rfl), rfl⟩, trivial⟩ wH rfl, rfl, trivial⟩
  · intro u_ _
    refine cSeq <| cSeq <| cReg rfl <| oR 1 rfl <| rE 4 <| cBlock <| cSeq <| cReg rfl <| rOk (x := vB false) rfl rfl rfl <| oR 1 rfl <| rE 6 ?_
    refine cCond rfl (fun h => by cases h) (fun _ => ?_)
    refine cSeq <| cReg rfl <| rOk (x := vB false) rfl rfl rfl <| oR 1 rfl <| rE 8 ?_
    refine cCond rfl (fun h => by cases h) (fun _ => ?_)
    refine cSeq <| cReg rfl <| rOk (x := vB true) rfl rfl rfl <| oR 1 rfl <| rE 10 ?_
    refine cCond rfl (fun _ => ?_) (fun h => by cases h)
    refine cSeq <| cReg rfl <| oR 2 rfl <| rSt rfl <| rE 13 <| cSeq <| cReg rfl <| oR 1 rfl ?_
    refine rNeed (x := .sl 1 (t.map rowS) (ck && true)) rfl rfl (needS (sliceL rowS (w0 :: t) 1)) (by refine ⟨?_, ?_, ?_⟩; all_goals (first | decide | (apply Int.ofNat_le.2; exact omT))) ?_
    refine rOk (x := vN t.length) rfl rfl (lenMap rowS t) <| oR 1 rfl <| rE 17 <| cBlock <| cLoop (κ := Nat) (fun j => ⟨slotsF [(2, .sl 1 ((w0 :: t).map rowS) ck), (3, .ptr 0 0), (6, .ptr 1 0), (7, vS (t.headD [])), (18, vN 9), (26, vB false), (38, vB false), (44, vB true), (49, .sl 1 (t.map rowS) (ck && true)), (50, vN t.length), (51, vN j)], heapF [(0, .box [vI p.mode, vI p.width, vI p.rob, vI p.queue, vI p.stores, vI p.slots, vI p.sets, vI p.ways, .sl 0 ([]) true, vB p.tables, .sl 1 (p.tape.map rowU) b, .sl 1 (p.prog.map rowU) c, vS p.mem, vI p.cycles]), (1, .box [vI 0, vI 0, vI 0, vI 0, vI 0, vI 0, vI 0, vI 0, .sl 0 ([]) true, vB false, .sl 0 ([]) true, .sl 0 ([]) true, .v (.string (⟨#[]⟩ : ByteArray)), vI 0])], 17⟩) (fun j => j ≤ t.length) (fun j => t.length - j) 0 (fun s => s) (Weak.of_lists (fun s => s) wT wH rfl) (Nat.zero_le _) ?_
    intro j hj
    have hjn : j ≤ t.length := hj
    have hjB : j ≤ 900000 := by omega
    refine cSeq <| cReg rfl <| rOk (x := vB (decide (j < t.length))) rfl rfl (okB (ltN _ _)) <| rE 18 <| cSeq ?_
    refine cCond rfl (fun h2 => by exact absurd (of_decide_eq_true h2) (by omega)) (fun _ => ?_)
    refine cExit <| cSeq <| cReg rfl <| oR 1 rfl <| rSt rfl <| rE 20 <| cRet ?_
    exact finTA rfl (by repeat' (first | exact trivial | constructor)) rfl rfl
def latV (t : List W) (k : Nat) : List Int := (t.take k).map fun w => (valV 10 w : Int)
theorem latV_next {t : List W} {k : Nat} {x : W} (h : t[k]? = some x) : latV t k ++ [(valV 10 x : Int)] = latV t (k + 1) := by unfold latV; rw [List.take_add_one, h, List.map_append]; rfl
theorem latV_len {t : List W} {k : Nat} (h : k ≤ t.length) : (latV t k).length = k := by unfold latV; rw [List.length_map, List.length_take]; omega
theorem latV_end {t : List W} {k : Nat} (h : t.length ≤ k) : latV t k = t.map fun w => (valV 10 w : Int) := by unfold latV; rw [List.take_of_length_le h]

theorem eRead9O (p : ScPlan) (a b c ck : Bool) (w0 : List UInt8) (t : List (List UInt8)) (hT : ¬ t.length = 0) (hp : p.ok) (ht : (w0 :: t).length ≤ 900000) (hw : ∀ x ∈ w0 :: t, x.length ≤ 900000) : DCall C0 28 [.agg (planL p a b c), vI 9, .sl 1 ((w0 :: t).map rowS) ck] (.agg (planL (readR p t 9) false b c)) := by
  refine dc1 (DCall.intro c1Ok Tryd.func28 rfl rfl (by kernel_rfl) rfl ?_)
  have b1_ := hp.lat
  have b2_ := hp.tape
  have b3_ := hp.prog
  have b4_ := hp.mem
  have hol := one_len hw
  have htl : t.length + 1 ≤ 900000 := ht
  refine cSeq <| cReg rfl <| rAl 0 rfl rfl <| rAl 1 rfl rfl <| rE 2 <| cSeq <| cReg rfl <| oR 1 rfl <| rE 3 ?_
  refine cJoin (κ := Unit) (fun u_ => ⟨slotsF [(2, .sl 1 ((w0 :: t).map rowS) ck), (1, vN 9), (3, .ptr 0 0), (6, .ptr 1 0), (7, vS (t.headD []))], heapF [(0, .box [vI p.mode, vI p.width, vI p.rob, vI p.queue, vI p.stores, vI p.slots, vI p.sets, vI p.ways, .sl 1 (p.lat.map rowI) a, vB p.tables, .sl 1 (p.tape.map rowU) b, .sl 1 (p.prog.map rowU) c, vS p.mem, vI p.cycles]), (1, .box [vI 0, vI 0, vI 0, vI 0, vI 0, vI 0, vI 0, vI 0, .sl 0 ([]) true, vB false, .sl 0 ([]) true, .sl 0 ([]) true, .v (.string (⟨#[]⟩ : ByteArray)), vI 0])], 3⟩) (fun u_ => True) ?_ ?_
  · refine cSeq <| cReg rfl <| oR 1 rfl <| rOk (x := vN ((w0 :: t).length)) rfl rfl (lenMap rowS (w0 :: t)) <| rOk (x := vB (decide (((w0 :: t).length) > 1))) rfl rfl (okB (gtN _ _)) <| rE 6 ?_
    refine cCond rfl (fun h1 => ?_) (fun h1 => ?_)
    · have h1p := of_decide_eq_true h1
      refine cReg rfl <| oR 1 rfl ?_
      obtain ⟨x1, hx1⟩ : ∃ y_, (w0 :: t)[1]? = some y_ := ⟨_, List.getElem?_eq_getElem omT⟩
      have hx1o := hw x1 (List.mem_of_getElem? hx1)
      refine rIdx (rowS x1) (x := .dp 1 0 (rowS x1)) rfl rfl rfl (⟨by decide, getM hx1⟩) rfl <| oR 2 rfl <| rE 10 ?_
      refine .mk _ (.refl _) ⟨(), fun s => s, Weak.of_lists (fun s => s) ⟨⟨rfl, rfl⟩, ⟨rfl, rfl⟩, ⟨rfl, rfl⟩, ⟨rfl, rfl⟩, ⟨(by rw [← show x1 = t.headD [] by cases t with | nil => (exfalso; simp at h1) | cons y t => (have q : some y = some x1 := hx1; exact (Option.some.inj q).symm)]; rfl), rfl⟩, trivial⟩ wH rfl, rfl, trivial⟩
    · have h1p := of_decide_eq_false h1
      refine cSkip ?_
      refine .mk _ (.refl _) ⟨(), fun s => s, Weak.of_lists (fun s => s) ⟨⟨rfl, rfl⟩, ⟨rfl, rfl⟩, ⟨rfl, rfl⟩, ⟨rfl, rfl⟩, ⟨(by rw [show t.headD [] = [] by cases t with | nil => rfl | cons y t => (exfalso; simp at h1)]; rfl), rfl⟩, trivial⟩ wH rfl, rfl, trivial⟩
  · intro u_ _
    refine cSeq <| cSeq <| cReg rfl <| oR 1 rfl <| rE 4 <| cBlock <| cSeq <| cReg rfl <| rOk (x := vB false) rfl rfl rfl <| oR 1 rfl <| rE 6 ?_
    refine cCond rfl (fun h => by cases h) (fun _ => ?_)
    refine cSeq <| cReg rfl <| rOk (x := vB false) rfl rfl rfl <| oR 1 rfl <| rE 8 ?_
    refine cCond rfl (fun h => by cases h) (fun _ => ?_)
    refine cSeq <| cReg rfl <| rOk (x := vB true) rfl rfl rfl <| oR 1 rfl <| rE 10 ?_
    refine cCond rfl (fun _ => ?_) (fun h => by cases h)
    refine cSeq <| cReg rfl <| oR 2 rfl <| rSt rfl <| rE 13 <| cSeq <| cReg rfl <| oR 1 rfl ?_
    refine rNeed (x := .sl 1 (t.map rowS) (ck && true)) rfl rfl (needS (sliceL rowS (w0 :: t) 1)) (by refine ⟨?_, ?_, ?_⟩; all_goals (first | decide | (apply Int.ofNat_le.2; exact omT))) ?_
    refine rOk (x := vN t.length) rfl rfl (lenMap rowS t) <| oR 1 rfl <| rE 17 <| cBlock <| cLoop (κ := Nat) (fun k => match k with | 0 => ⟨slotsF [(3, .ptr 0 0), (6, .ptr 1 0), (49, .sl 1 (t.map rowS) (ck && true)), (50, vN t.length), (51, vN 0)], heapF [(1, .box [vI 0, vI 0, vI 0, vI 0, vI 0, vI 0, vI 0, vI 0, .sl 0 ([]) true, vB false, .sl 0 ([]) true, .sl 0 ([]) true, .v (.string (⟨#[]⟩ : ByteArray)), vI 0]), (0, .box [vI p.mode, vI p.width, vI p.rob, vI p.queue, vI p.stores, vI p.slots, vI p.sets, vI p.ways, .sl 0 ([]) true, vB p.tables, .sl 1 (p.tape.map rowU) b, .sl 1 (p.prog.map rowU) c, vS p.mem, vI p.cycles])], 101⟩ | k + 1 => ⟨slotsF [(3, .ptr 0 0), (6, .ptr 1 0), (49, .sl 1 (t.map rowS) (ck && true)), (50, vN t.length), (51, vN (k + 1))], heapF [(1, .box [vI 0, vI 0, vI 0, vI 0, vI 0, vI 0, vI 0, vI 0, .sl 0 ([]) true, vB false, .sl 0 ([]) true, .sl 0 ([]) true, .v (.string (⟨#[]⟩ : ByteArray)), vI 0]), (0, .box [vI p.mode, vI p.width, vI p.rob, vI p.queue, vI p.stores, vI p.slots, vI p.sets, vI p.ways, .osl 100 0 (k + 1) false, vB p.tables, .sl 1 (p.tape.map rowU) b, .sl 1 (p.prog.map rowU) c, vS p.mem, vI p.cycles]), (100, .arr ((latV t (k + 1)).map rowI) 1)], 101⟩) (fun k => k ≤ t.length) (fun k => t.length - k) 0 (fun s => s) (Weak.of_lists (fun s => s) wT wH rfl) (Nat.zero_le _) ?_
    intro k hk
    rcases k with _ | k
    · refine cSeq <| cReg rfl <| rOk (x := vB (decide (0 < t.length))) rfl rfl (okB (ltN _ _)) <| rE 102 <| cSeq ?_
      refine cCond rfl (fun h2 => ?_) (fun h2 => ?_)
      · have h2p := of_decide_eq_true h2
        refine cSkip <| cSeq <| cBlock <| cSeq <| cReg rfl ?_
        obtain ⟨x, hx⟩ : ∃ y_, t[0]? = some y_ := ⟨_, List.getElem?_eq_getElem omT⟩
        have hxo := (fun x hx => hw x (List.mem_cons_of_mem _ hx)) x (List.mem_of_getElem? hx)
        refine rIdx (rowS x) (x := .dp 1 0 (rowS x)) rfl rfl rfl (⟨by decide, getM hx⟩) rfl <| oR 2 rfl <| rE 105 <| cReg rfl <| oR 4 rfl <| rCl rfl (.inl rfl) (eVal10 x (by first | omega | (simp only [List.length_drop, List.length_take]; omega))) <| rOk (x := .sl 1 ([[vN (valV 10 x)]]) true) rfl rfl rfl <| rFx (x := .osl 111 0 1 false) (h' := upd _ 111 (some (.arr (([(valV 10 x : Int)]).map rowI) 1))) rfl rfl (app_nil omT) (⟨rfl, by exact omT, by exact omT, trivial⟩) <| oR 2 rfl <| rSt rfl <| rE 115 <| cReg rfl ?_
        have b1 : 0 + 1 ≤ 1 := Nat.add_le_add (Nat.le_refl 0) (Nat.le_refl 1)
        refine rOk (x := vN (0 + 1)) rfl rfl (okI (wrapI64 b1 rfl)) <| oR 1 rfl <| rE 117 ?_
        refine ⟨0 + 1, fun i => match i with | 100 => 111 | i => i, Weak.of_lists (fun i => match i with | 100 => 111 | i => i) wT ⟨⟨rfl, rfl, rfl⟩, ⟨rfl, rfl, rfl⟩, ⟨rfl, (congrArg (fun z : List Int => some (Blk.arr (z.map rowI) 1)) (latV_next hx)), rfl⟩, trivial⟩ rfl, by have := of_decide_eq_true h2; omega, by have := of_decide_eq_true h2; show t.length - (0 + 1) < t.length - (0); omega⟩
      · have h2p := of_decide_eq_false h2
        refine cExit <| cSeq <| cReg rfl <| oR 1 rfl <| rSt rfl <| rE 104 <| cRet ?_
        exact absurd (by have := of_decide_eq_false h2; omega) hT
    · have hkk : k + 1 ≤ t.length := hk
      have hkB : k + 1 ≤ 900000 := by omega
      have hKl := latV_len (t := t) (k := k + 1) hk
      refine cSeq <| cReg rfl <| rOk (x := vB (decide ((k + 1) < t.length))) rfl rfl (okB (ltN _ _)) <| rE 102 <| cSeq ?_
      refine cCond rfl (fun h3 => ?_) (fun h3 => ?_)
      · have h3p := of_decide_eq_true h3
        refine cSkip <| cSeq <| cBlock <| cSeq <| cReg rfl ?_
        obtain ⟨x, hx⟩ : ∃ y_, t[(k + 1)]? = some y_ := ⟨_, List.getElem?_eq_getElem omT⟩
        have hxo := (fun x hx => hw x (List.mem_cons_of_mem _ hx)) x (List.mem_of_getElem? hx)
        refine rIdx (rowS x) (x := .dp 1 0 (rowS x)) rfl rfl rfl (⟨Int.natCast_nonneg _, getM hx⟩) rfl <| oR 2 rfl <| rE 105 <| cReg rfl <| oR 4 rfl <| rCl rfl (.inl rfl) (eVal10 x (by first | omega | (simp only [List.length_drop, List.length_take]; omega))) <| rOk (x := .sl 1 ([[vN (valV 10 x)]]) true) rfl rfl rfl <| rFx (x := .osl 111 0 (k + 1 + 1) false) (h' := upd (upd _ 100 none) 111 (some (.arr (((latV t (k + 1)) ++ ([(valV 10 x : Int)])).map rowI) 1))) rfl rfl (app_own rowI (latV t (k + 1)) ([(valV 10 x : Int)]) omT omT) (⟨by exact omT, by exact omT, trivial⟩) <| oR 2 rfl <| rSt rfl <| rE 115 <| cReg rfl ?_
        have b2 : (k + 1) + 1 ≤ 900001 := Nat.add_le_add hkB (Nat.le_refl 1)
        refine rOk (x := vN ((k + 1) + 1)) rfl rfl (okI (wrapI64 b2 rfl)) <| oR 1 rfl <| rE 117 ?_
        refine ⟨(k + 1) + 1, fun i => match i with | 100 => 111 | i => i, Weak.of_lists (fun i => match i with | 100 => 111 | i => i) wT ⟨⟨rfl, rfl, rfl⟩, ⟨rfl, rfl, rfl⟩, ⟨rfl, (congrArg (fun z : List Int => some (Blk.arr (z.map rowI) 1)) (latV_next hx)), rfl⟩, trivial⟩ rfl, by have := of_decide_eq_true h3; omega, by have := of_decide_eq_true h3; show t.length - ((k + 1) + 1) < t.length - (k + 1); omega⟩
      · have h3p := of_decide_eq_false h3
        refine cExit <| cSeq <| cReg rfl <| oR 1 rfl <| rSt rfl <| rE 104 <| cRet ?_
        have hE := latV_end (t := t) (k := k + 1) (by have := of_decide_eq_false h3; omega)
        refine finTA rfl ⟨trivial, trivial, trivial, trivial, trivial, trivial, trivial, trivial, (by show 0 + (k + 1) ≤ ((latV t (k + 1)).map rowI).length; rw [List.length_map, hKl]; omega), trivial, trivial, trivial, trivial, trivial, trivial⟩ rfl ?_
        show AV.agg [vI p.mode, vI p.width, vI p.rob, vI p.queue, vI p.stores, vI p.slots, vI p.sets, vI p.ways, .sl 1 (List.take (k + 1) (List.drop 0 ((latV t (k + 1)).map rowI))) false, vB p.tables, .sl 1 (p.tape.map rowU) b, .sl 1 (p.prog.map rowU) c, vS p.mem, vI p.cycles] = _
        rw [own_all rowI (latV t (k + 1)) (by omega)]
        exact congrArg (fun z => AV.agg (planL { p with lat := z } false b c)) hE
theorem eRead (p : ScPlan) (a b c ck : Bool) (w0 : List UInt8) (t : List (List UInt8)) (k : Nat) (hk : k < 14) (hp : p.ok) (ht : (w0 :: t).length ≤ 900000) (hw : ∀ x ∈ w0 :: t, x.length ≤ 900000) :
    DCall C0 28 [.agg (planL p a b c), vN k, .sl 1 ((w0 :: t).map rowS) ck] (.agg (planL (readR p t k) (if k = 9 then t.isEmpty else a) (if k = 10 then t.isEmpty else b) (if k = 11 then t.isEmpty else c))) := by
  by_cases h9 : k = 9
  · subst h9
    cases t with
    | nil => exact (eRead9E p a b c ck w0 [] rfl hp ht hw).rmono fun S w v h => rep_nil_agg (i := 8) (n := 1) h rfl
    | cons x t => exact eRead9O p a b c ck w0 (x :: t) (by simp) hp ht hw
  · rw [if_neg h9]; exact eReadX p a b c ck w0 t k hk h9 hp ht hw

theorem ScPlan.ok.cf {p : ScPlan} (hp : p.ok) : (cfOf p).ok := ⟨Nat.le_trans hp.lat (by decide), Nat.le_trans hp.tape (by decide), hp.tp⟩
theorem clean_ok {c : Cf} (h : c.ok) : (cleanCf c).ok := ⟨Nat.le_trans (clean_lat c) (by decide), Nat.le_trans (clean_tape c) (by decide), fun x hx => h.tp x (List.mem_of_mem_take hx)⟩

theorem rRight (p : ScPlan) (a b c : Bool) (hp : p.ok) : DCall C0 13 [.agg (planL p a b c)] (vB (rightP p)) := by
  refine dc1 (DCall.intro c1Ok Tryd.func13 rfl rfl (by kernel_rfl) rfl ?_)
  refine cSeq <| cReg rfl <| rAl 0 rfl rfl <| oR 1 rfl <| rE 2 <| cSeq <| cReg rfl <| oR 4 rfl <| rCl rfl (.inl rfl) (rClean08 (cfOf p) a b hp.cf) <| rCl rfl (.inl rfl) (rLike08 (cfOf p) (cleanCf (cfOf p)) a b false false hp.cf (clean_ok hp.cf)) <| oR 1 rfl <| gN rfl <| gS rfl id <| gBS (x := vN p.prog.length) rfl id (lenMap rowU p.prog) <| gBS (x := vB (decide (p.prog.length ≤ 64))) rfl id (okB (leN _ _)) <| rNeed rfl rfl rfl (fun h => h) ?_
  refine oR 1 rfl <| gN rfl <| gS rfl id <| gCallS (args := [vS p.mem]) (x := vS (cleanM p.mem)) (g := cond2 (decide (LikeC (cfOf p) (cleanCf (cfOf p)))) (decide (p.prog.length ≤ 64)) false) rfl rfl rfl rfl (fun h => h) rfl rfl rfl (.inl rfl) rfl (fun hg => rClean05 p.mem hp.mem) <| gN rfl <| gS rfl id <| gBS (x := vB (decide (cleanM p.mem = p.mem))) rfl (fun h => by first | (simp_all; done) | exact (Bool.and_eq_true_iff.1 h).1 | exact Bool.and_eq_true_iff.2 ⟨h, h⟩) (okBo (eq_tL (cleanM p.mem) p.mem)) <| rNeed rfl rfl rfl (fun h => h) <| oR 1 rfl <| gN rfl <| gS rfl id <| gBS (x := vB (decide (p.cycles ≥ 0))) rfl id rfl <| rNeed rfl rfl rfl (fun h => h) <| oR 1 rfl <| gN rfl <| gS rfl id ?_
  refine gBS (x := vB (decide (p.cycles ≤ 600))) rfl id rfl <| rNeed rfl rfl rfl (fun h => h) <| oR 1 rfl <| rE 33 <| cRet ?_
  exact finTA rfl trivial rfl (bool_eq (by rw [Bool.eq_iff_iff]; unfold rightP; rw [decide_eq_true_eq]; unfold PlR okM; simp [cAnd, like_clean, and_assoc]))
def LikeP (p q : ScPlan) : Prop := LikeC (cfOf p) (cfOf q) ∧ p.mem = q.mem ∧ p.cycles = q.cycles ∧ p.prog = q.prog
instance (p q : ScPlan) : Decidable (LikeP p q) := by unfold LikeP; infer_instance
theorem likeP_eq {p q : ScPlan} : LikeP p q ↔ p = q := by
  constructor
  · rintro ⟨h1, h2, h3, h4⟩
    have h := likeC_eq.1 h1
    cases p; cases q; simp only [cfOf, Cf.mk.injEq] at *; obtain ⟨h5, h6, h7, h8, h9, h10, h11, h12, h13, h14, h15⟩ := h; subst_vars; rfl
  · rintro rfl; exact ⟨likeC_eq.2 rfl, rfl, rfl, rfl⟩

theorem rLike (p q : ScPlan) (a b c d e f : Bool) (hp : p.ok) (hq : q.ok) : DCall C0 10 [.agg (planL p a b c), .agg (planL q d e f)] (vB (decide (LikeP p q))) := by
  refine dc1 (DCall.intro c1Ok Tryd.func10 rfl rfl (by kernel_rfl) rfl ?_)
  refine cSeq <| cReg rfl <| rAl 0 rfl rfl <| rAl 1 rfl rfl <| oR 1 rfl <| rE 3 <| cSeq <| cSeq <| cReg rfl <| oR 4 rfl <| rCl rfl (.inl rfl) (rLike08 (cfOf p) (cfOf q) a b d e hp.cf hq.cf) <| oR 2 rfl <| gN rfl <| gS rfl id <| gN rfl <| gS rfl id ?_
  refine gBS (x := vB (!decide (p.mem = q.mem))) rfl (fun h => by first | (simp_all; done) | exact (Bool.and_eq_true_iff.1 h).1 | exact Bool.and_eq_true_iff.2 ⟨h, h⟩) (okBo (congrArg (!·) (eq_tL p.mem q.mem))) <| rNeed rfl rfl rfl (by simp) <| oR 1 rfl <| gN rfl <| gS rfl id <| gN rfl <| gS rfl id <| gBS (x := vB (p.cycles != q.cycles)) rfl (fun h => by first | (simp_all; done) | exact (Bool.and_eq_true_iff.1 h).1 | exact Bool.and_eq_true_iff.2 ⟨h, h⟩) rfl <| rNeed rfl rfl rfl (by simp) <| oR 1 rfl <| gN rfl <| gS rfl id <| gBS (x := vN p.prog.length) rfl id (lenMap rowU p.prog) <| gN rfl <| gS rfl id <| gBS (x := vN q.prog.length) rfl id (lenMap rowU q.prog) ?_
  refine gBS (x := vB (p.prog.length != q.prog.length)) rfl (fun h => by first | (simp_all; done) | exact (Bool.and_eq_true_iff.1 h).1 | exact Bool.and_eq_true_iff.2 ⟨h, h⟩) (okB (neN _ _)) <| rNeed rfl rfl rfl (by simp) <| rE 32 ?_
  refine cCond rfl (fun h1 => ?_) (fun h1 => ?_)
  · refine cSeq <| cReg rfl <| oR 1 rfl <| rE 33 <| cRet ?_
    exact finTA rfl trivial rfl (bool_eq ((decide_eq_false fun z => by have z0 := congrArg List.length z.2.2.2; obtain ⟨z1, z2, z3, z4⟩ := z; simp only [w64, cOr, cAnd, Bool.or_eq_true, Bool.and_eq_true, Bool.or_eq_false_iff, Bool.and_eq_false_imp, beq_iff_eq, bne_iff_ne, ne_eq, beq_eq_false_iff_ne, bne_eq_false_iff_eq, decide_eq_true_eq, decide_eq_false_iff_not, Bool.not_eq_true, Bool.not_eq_false, Bool.not_eq_eq_eq_not, Bool.not_true, Bool.not_false, Decidable.not_not] at h1; simp_all : decide (LikeP p q) = false).symm))
  · obtain ⟨hne, hm, hcy, hlen⟩ : LikeC (cfOf p) (cfOf q) ∧ p.mem = q.mem ∧ p.cycles = q.cycles ∧ p.prog.length = q.prog.length := by simp [cOr] at h1; simp_all
    refine cSkip <| cSeq <| cSeq <| cReg rfl <| oR 2 rfl <| rOk (x := vN p.prog.length) rfl rfl (lenMap rowU p.prog) <| oR 1 rfl <| rE 36 <| cBlock <| cLoop (κ := Nat) (fun k => ⟨slotsF [(2, .ptr 0 0), (3, .ptr 1 0), (34, vB (cond2 (cond2 (cond2 (!(decide (LikeC (cfOf p) (cfOf q)))) true (!decide (p.mem = q.mem))) true (p.cycles != q.cycles)) true (p.prog.length != q.prog.length))), (37, vN p.prog.length), (38, vN k)], heapF [(0, .box [vI p.mode, vI p.width, vI p.rob, vI p.queue, vI p.stores, vI p.slots, vI p.sets, vI p.ways, .sl 1 (p.lat.map rowI) a, vB p.tables, .sl 1 (p.tape.map rowU) b, .sl 1 (p.prog.map rowU) c, vS p.mem, vI p.cycles]), (1, .box [vI q.mode, vI q.width, vI q.rob, vI q.queue, vI q.stores, vI q.slots, vI q.sets, vI q.ways, .sl 1 (q.lat.map rowI) d, vB q.tables, .sl 1 (q.tape.map rowU) e, .sl 1 (q.prog.map rowU) f, vS q.mem, vI q.cycles])], 36⟩) (fun k => k ≤ p.prog.length ∧ p.prog.take k = q.prog.take k) (fun k => p.prog.length - k) 0 (fun s => s) (Weak.of_lists (fun s => s) wT wH rfl) (⟨Nat.zero_le _, rfl⟩) ?_
    intro k hk
    have hkn : k ≤ p.prog.length := hk.1
    have hkB : k ≤ 900000 := by have := hp.prog; omega
    have hqa := hlen
    have hqb := hp.prog
    refine cSeq <| cReg rfl <| rOk (x := vB (decide (k < p.prog.length))) rfl rfl (okB (ltN _ _)) <| rE 37 <| cSeq ?_
    refine cCond rfl (fun h2 => ?_) (fun h2 => ?_)
    · have h2p := of_decide_eq_true h2
      refine cSkip <| cSeq <| cBlock <| cSeq <| cReg rfl <| oR 2 rfl <| rE 39 <| cSeq <| cReg rfl <| oR 3 rfl ?_
      obtain ⟨x, hx⟩ : ∃ y_, p.prog[k]? = some y_ := ⟨_, List.getElem?_eq_getElem omT⟩
      have hxo := hp.pr x (List.mem_of_getElem? hx)
      refine rIdx (rowU x) (x := .dp 1 0 (rowU x)) rfl rfl rfl (⟨Int.natCast_nonneg _, getM hx⟩) rfl <| oR 4 rfl ?_
      obtain ⟨y, hy⟩ : ∃ y_, q.prog[k]? = some y_ := ⟨_, List.getElem?_eq_getElem omT⟩
      have hyo := hq.pr y (List.mem_of_getElem? hy)
      refine rIdx (rowU y) (x := .dp 1 0 (rowU y)) rfl rfl rfl (⟨Int.natCast_nonneg _, getM hy⟩) rfl <| oR 1 rfl <| rOk (x := vB (x != y)) rfl rfl (okB (neN _ _)) <| rE 50 ?_
      refine cCond rfl (fun h3 => ?_) (fun h3 => ?_)
      · have h3p := bne_t h3
        refine cSeq <| cReg rfl <| oR 1 rfl <| rE 51 <| cRet ?_
        exact finTA rfl trivial rfl (bool_eq ((decide_eq_false fun z => at_ne hx hy (by simpa using h3) z.2.2.2).symm))
      · have h3p := bne_f h3
        refine cSkip <| cReg rfl ?_
        have b1 : k + 1 ≤ 900001 := Nat.add_le_add hkB (Nat.le_refl 1)
        refine rOk (x := vN (k + 1)) rfl rfl (okI (wrapI64 b1 rfl)) <| oR 1 rfl <| rE 52 ?_
        refine ⟨k + 1, fun s => s, Weak.of_lists (fun s => s) wT wH rfl, ⟨by omega, take_on hk.2 hx hy (by simpa using h3)⟩, by show p.prog.length - (k + 1) < p.prog.length - k; omega⟩
    · have h2p := of_decide_eq_false h2
      refine cExit <| cSeq <| cReg rfl <| oR 1 rfl <| rE 38 <| cRet ?_
      have hE := take_all hk.2 hlen (by have := of_decide_eq_false h2; omega)
      exact finTA rfl trivial rfl (bool_eq ((decide_eq_true (show LikeP p q from ⟨hne, hm, hcy, hE⟩)).symm))
end Go.Proofs.YtpefnjbmbfdmmaaDoor
