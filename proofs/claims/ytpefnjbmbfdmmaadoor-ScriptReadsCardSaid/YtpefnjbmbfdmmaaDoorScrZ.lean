/- Package script: which plans may be: walks on the second machine. -/
import Derived.Test.YtpefnjbmbfdmmaaDoorAbsT
import Derived.Test.YtpefnjbmbfdmmaaDoorScrY
namespace Go.Proofs.YtpefnjbmbfdmmaaDoor
set_option maxRecDepth 100000
set_option maxHeartbeats 4000000
open Go.RowKit Go.Lib

def inB (n lo hi : Int) : Bool := decide (lo ≤ n ∧ n ≤ hi)

theorem dWithin (n lo hi : Int) : DCall C0 59 [vI n, vI lo, vI hi] (vB (inB n lo hi)) := by
  refine DCall.intro c0Ok Tryd.func59 rfl rfl (by kernel_rfl) rfl <| cSeq <| cReg rfl <| oR 1 rfl <| rE 1 <| cSeq <| cReg rfl <| oR 2 rfl <| rOk (x := vB (decide (n ≥ lo))) rfl rfl rfl <| oR 1 rfl <| gN rfl <| gN rfl <| gBS (x := vB (decide (n ≤ hi))) rfl (fun h => by first | (simp_all; done) | exact (Bool.and_eq_true_iff.1 h).1 | exact Bool.and_eq_true_iff.2 ⟨h, h⟩) rfl <| rNeed rfl rfl rfl (fun h => h) <| oR 1 rfl <| rE 10 ?_
  refine cRet ?_
  exact finTA rfl trivial rfl (bool_eq (by rw [Bool.eq_iff_iff]; simp [cAnd, inB]))
theorem dRightCf (c : Cf) (cl ct : Bool) (hc : c.ok) : DCall C0 36 [.agg (cfL c cl ct)] (vB (decide (CfR c))) := by
  refine DCall.intro c0Ok Tryd.func36 rfl rfl (by kernel_rfl) rfl <| cSeq <| cReg rfl <| rAl 0 rfl rfl <| oR 1 rfl <| rE 2 <| cSeq <| cReg rfl <| oR 1 rfl <| rE 3 <| cSeq <| cSeq <| cReg rfl <| oR 2 rfl <| rOk (x := vN c.lat.length) rfl rfl (lenMap rowI c.lat) <| oR 1 rfl ?_
  refine rE 7 <| cBlock <| cLoop (κ := Nat) (fun k => ⟨slotsF [(1, .ptr 0 0), (3, .clo 59 [] []), (7, .sl 1 (c.lat.map rowI) cl), (8, vN c.lat.length), (9, vN k)], heapF [(0, .box [vI c.mode, vI c.width, vI c.rob, vI c.queue, vI c.stores, vI c.slots, vI c.sets, vI c.ways, .sl 1 (c.lat.map rowI) cl, vB c.tables, .sl 1 (c.tape.map rowU) ct])], 7⟩) (fun k => k ≤ c.lat.length ∧ ∀ a ∈ c.lat.take k, 1 ≤ a ∧ a ≤ 8) (fun k => c.lat.length - k) 0 (fun s => s) (Weak.of_lists (fun s => s) wT wH rfl) (⟨Nat.zero_le _, (fun x h => absurd h List.not_mem_nil)⟩) ?_
  intro k hk
  have hkn : k ≤ c.lat.length := hk.1
  have hkB : k ≤ 9223372036854775807 := by have := hc.lat; omega
  have hqa := hc.lat
  refine cSeq <| cReg rfl <| rOk (x := vB (decide (k < c.lat.length))) rfl rfl (okB (ltN _ _)) <| rE 8 <| cSeq ?_
  refine cCond rfl (fun h1 => ?_) (fun h1 => ?_)
  · have h1p := of_decide_eq_true h1
    refine cSkip <| cSeq <| cBlock <| cSeq <| cReg rfl ?_
    obtain ⟨x, hx⟩ : ∃ y_, c.lat[k]? = some y_ := ⟨_, List.getElem?_eq_getElem omT⟩
    refine rIdx (rowI x) (x := .dp 1 0 (rowI x)) rfl rfl rfl (⟨Int.natCast_nonneg _, getM hx⟩) rfl <| oR 2 rfl <| rE 11 <| cSeq <| cReg rfl <| oR 2 rfl <| rCl rfl (.inl rfl) (dWithin x 1 8) <| oR 1 rfl <| rE 15 ?_
    refine cCond rfl (fun h2 => ?_) (fun h2 => ?_)
    · refine cSeq <| cReg rfl <| oR 1 rfl <| rE 16 <| cRet ?_
      exact finTA rfl trivial rfl (bool_eq (decide_eq_false (fun q => by have := q.2.2.2.2.2.2.2.2.1.2 x (List.mem_of_getElem? hx); simp [inB] at h2; omega) : decide (CfR c) = false).symm)
    · refine cSkip <| cReg rfl ?_
      have b1 : k + 1 ≤ 9223372036854775807 := by omega
      refine rOk (x := vN (k + 1)) rfl rfl (okI (wrapI64 (show k + 1 ≤ 9223372036854775807 by omega) rfl)) <| oR 1 rfl <| rE 17 ?_
      refine ⟨k + 1, fun s => s, Weak.of_lists (fun s => s) wT wH rfl, ⟨by omega, (fun a ha => by rw [List.take_add_one, hx] at ha; rcases List.mem_append.1 ha with ha | ha; exact hk.2 a ha; (rw [List.mem_singleton.1 ha]; simp [inB] at h2; omega))⟩, by show c.lat.length - (k + 1) < c.lat.length - k; omega⟩
  · have h1p := of_decide_eq_false h1
    refine cExit <| cSeq <| cReg rfl <| oR 3 rfl <| rCl rfl (.inl rfl) (dWithin c.mode 0 2) <| oR 1 rfl <| gN rfl <| gN rfl <| gS rfl id <| gCallS (args := [vI c.width, vI 1, vI 2]) (x := vB (inB c.width 1 2)) (g := inB c.mode 0 2) rfl rfl rfl rfl (fun h => by first | (simp_all; done) | exact (Bool.and_eq_true_iff.1 h).1 | exact Bool.and_eq_true_iff.2 ⟨h, h⟩) rfl rfl rfl (.inl rfl) rfl (fun hg => dWithin c.width 1 2) <| rNeed rfl rfl rfl (fun h => h) <| oR 1 rfl <| gN rfl <| gN rfl <| gS rfl id <| gCallS (args := [vI c.rob, vI 2, vI 8]) (x := vB (inB c.rob 2 8)) (g := cond2 (inB c.mode 0 2) (inB c.width 1 2) false) rfl rfl rfl rfl (fun h => by first | (simp_all; done) | exact (Bool.and_eq_true_iff.1 h).1 | exact Bool.and_eq_true_iff.2 ⟨h, h⟩) rfl rfl rfl (.inl rfl) rfl (fun hg => dWithin c.rob 2 8) ?_
    refine rNeed rfl rfl rfl (fun h => h) <| oR 1 rfl <| gN rfl <| gN rfl <| gS rfl id <| gCallS (args := [vI c.queue, vI 1, vI 4]) (x := vB (inB c.queue 1 4)) (g := cond2 (cond2 (inB c.mode 0 2) (inB c.width 1 2) false) (inB c.rob 2 8) false) rfl rfl rfl rfl (fun h => by first | (simp_all; done) | exact (Bool.and_eq_true_iff.1 h).1 | exact Bool.and_eq_true_iff.2 ⟨h, h⟩) rfl rfl rfl (.inl rfl) rfl (fun hg => dWithin c.queue 1 4) <| rNeed rfl rfl rfl (fun h => h) <| oR 1 rfl <| gN rfl <| gN rfl <| gS rfl id <| gCallS (args := [vI c.stores, vI 1, vI 4]) (x := vB (inB c.stores 1 4)) (g := cond2 (cond2 (cond2 (inB c.mode 0 2) (inB c.width 1 2) false) (inB c.rob 2 8) false) (inB c.queue 1 4) false) rfl rfl rfl rfl (fun h => by first | (simp_all; done) | exact (Bool.and_eq_true_iff.1 h).1 | exact Bool.and_eq_true_iff.2 ⟨h, h⟩) rfl rfl rfl (.inl rfl) rfl (fun hg => dWithin c.stores 1 4) <| rNeed rfl rfl rfl (fun h => h) <| oR 1 rfl <| gN rfl <| gN rfl ?_
    refine gS rfl id <| gCallS (args := [vI c.slots, vI 2, vI 6]) (x := vB (inB c.slots 2 6)) (g := cond2 (cond2 (cond2 (cond2 (inB c.mode 0 2) (inB c.width 1 2) false) (inB c.rob 2 8) false) (inB c.queue 1 4) false) (inB c.stores 1 4) false) rfl rfl rfl rfl (fun h => by first | (simp_all; done) | exact (Bool.and_eq_true_iff.1 h).1 | exact Bool.and_eq_true_iff.2 ⟨h, h⟩) rfl rfl rfl (.inl rfl) rfl (fun hg => dWithin c.slots 2 6) <| rNeed rfl rfl rfl (fun h => h) <| oR 1 rfl <| gN rfl <| gN rfl <| gS rfl id <| gCallS (args := [vI c.sets, vI 1, vI 4]) (x := vB (inB c.sets 1 4)) (g := cond2 (cond2 (cond2 (cond2 (cond2 (inB c.mode 0 2) (inB c.width 1 2) false) (inB c.rob 2 8) false) (inB c.queue 1 4) false) (inB c.stores 1 4) false) (inB c.slots 2 6) false) rfl rfl rfl rfl (fun h => by first | (simp_all; done) | exact (Bool.and_eq_true_iff.1 h).1 | exact Bool.and_eq_true_iff.2 ⟨h, h⟩) rfl rfl rfl (.inl rfl) rfl (fun hg => dWithin c.sets 1 4) <| rNeed rfl rfl rfl (fun h => h) <| oR 1 rfl <| gN rfl <| gS rfl id <| gBS (x := vB (c.sets != 3)) rfl id rfl <| rNeed rfl rfl rfl (fun h => h) <| oR 1 rfl <| gN rfl ?_
    refine gN rfl <| gS rfl id <| gCallS (args := [vI c.ways, vI 1, vI 2]) (x := vB (inB c.ways 1 2)) (g := cond2 (cond2 (cond2 (cond2 (cond2 (cond2 (cond2 (inB c.mode 0 2) (inB c.width 1 2) false) (inB c.rob 2 8) false) (inB c.queue 1 4) false) (inB c.stores 1 4) false) (inB c.slots 2 6) false) (inB c.sets 1 4) false) (c.sets != 3) false) rfl rfl rfl rfl (fun h => by first | (simp_all; done) | exact (Bool.and_eq_true_iff.1 h).1 | exact Bool.and_eq_true_iff.2 ⟨h, h⟩) rfl rfl rfl (.inl rfl) rfl (fun hg => dWithin c.ways 1 2) <| rNeed rfl rfl rfl (fun h => h) <| oR 1 rfl <| gN rfl <| gS rfl id <| gBS (x := vN c.lat.length) rfl id (lenMap rowI c.lat) <| gBS (x := vB (decide (c.lat.length ≤ 64))) rfl id (okB (leN _ _)) <| rNeed rfl rfl rfl (fun h => h) <| oR 1 rfl <| gN rfl <| gS rfl id <| gBS (x := vN c.tape.length) rfl id (lenMap rowU c.tape) <| gBS (x := vB (decide (c.tape.length ≤ 64))) rfl id (okB (leN _ _)) <| rNeed rfl rfl rfl (fun h => h) ?_
    refine oR 1 rfl <| rE 72 <| cRet ?_
    have hA : ∀ a ∈ c.lat, 1 ≤ a ∧ a ≤ 8 := by have q := hk.2; rwa [List.take_of_length_le (by have := of_decide_eq_false h1; omega)] at q
    exact finTA rfl trivial rfl (bool_eq (by rw [Bool.eq_iff_iff, decide_eq_true_eq]; unfold CfR; simp [cAnd, inB]; constructor; (rintro ⟨⟨⟨⟨⟨⟨⟨⟨⟨⟨q1, q2⟩, q3⟩, q4⟩, q5⟩, q6⟩, q7⟩, q8⟩, q9⟩, q10⟩, q11⟩; exact ⟨q1, q2, q3, q4, q5, q6, ⟨q7.1, q7.2, q8⟩, q9, ⟨q10, hA⟩, q11⟩); (rintro ⟨q1, q2, q3, q4, q5, q6, ⟨q7, q7b, q8⟩, q9, ⟨q10, _⟩, q11⟩; exact ⟨⟨⟨⟨⟨⟨⟨⟨⟨⟨q1, q2⟩, q3⟩, q4⟩, q5⟩, q6⟩, q7, q7b⟩, q8⟩, q9⟩, q10⟩, q11⟩)))
theorem copy_str (t : W) (n : Nat) (h : t.length ≤ n) : ((List.replicate n (0 : UInt8)).map row8).take 0 ++ (rowsOfBytes (sB t)).take (min (rowsOfBytes (sB t)).length n) ++ ((List.replicate n (0 : UInt8)).map row8).drop (0 + min (rowsOfBytes (sB t)).length n) = (t ++ List.replicate (n - t.length) 0).map row8 := by
  have e : rowsOfBytes (sB t) = t.map row8 := rfl
  have hl : min (t.map row8).length n = t.length := by rw [List.length_map]; omega
  rw [e, List.take_zero, List.nil_append, hl, List.take_of_length_le (by rw [List.length_map]; omega), Nat.zero_add, ← List.map_drop, List.drop_replicate, ← List.map_append]
theorem min256 {m : W} : m.take (min m.length 256) = m.take 256 := by
  rcases Nat.le_total m.length 256 with h | h
  · rw [Nat.min_eq_left h, List.take_of_length_le (Nat.le_refl _), List.take_of_length_le h]
  · rw [Nat.min_eq_right h]

theorem dClean (m : List UInt8) (hm : m.length ≤ 900000) : DCall C0 19 [vS m] (vS (cleanM m)) := by
  refine DCall.intro c0Ok Tryd.func19 rfl rfl (by kernel_rfl) rfl <| cSeq <| cReg rfl <| oR 1 rfl <| rE 1 <| cSeq <| cReg rfl <| oR 2 rfl <| rOk (x := vN m.length) rfl rfl rfl <| rOk (x := vN (min m.length 256)) rfl rfl (minN64 m.length 256) <| rNeed (x := vS (m.take 256)) rfl rfl (needSt ((ext_to m (min m.length 256)).trans (congrArg sB min256))) (⟨Int.le_refl _, Int.natCast_nonneg _, Int.ofNat_le.2 (by show min m.length 256 ≤ m.length; omega)⟩) <| oR 1 rfl <| rE 7 <| cSeq <| cReg rfl <| oR 1 rfl ?_
  refine rE 8 <| cSeq <| cBlock <| cLoop (κ := Nat) (fun k => ⟨slotsF [(0, vS (m.take 256)), (3, vN (16 * 2 ^ k))], heapF [], 8⟩) (fun k => k ≤ 4 ∧ (k ≠ 0 → 16 * 2 ^ (k - 1) < (m.take 256).length)) (fun k => 4 - k) 0 (fun s => s) (Weak.of_lists (fun s => s) wT trivial rfl) (⟨by omega, fun h => absurd rfl h⟩) ?_
  intro k hk
  have hk4 : k ≤ 4 := hk.1
  have hkB : 16 * 2 ^ k ≤ 256 := Nat.mul_le_mul_left 16 (Nat.pow_le_pow_right (by decide) hk4 : 2 ^ k ≤ 2 ^ 4)
  have hT : (m.take 256).length ≤ 256 := by first | exact hT0 | (rw [List.length_take]; omega)
  refine cSeq <| cSeq <| cReg rfl <| oR 2 rfl <| rOk (x := vN ((m.take 256).length)) rfl rfl rfl <| rOk (x := vB (decide ((16 * 2 ^ k) < ((m.take 256).length)))) rfl rfl (okB (ltN _ _)) <| rE 12 ?_
  refine cCond rfl (fun h1 => ?_) (fun h1 => ?_)
  · have h1p := of_decide_eq_true h1
    have hk5 : k < 4 := by rcases Nat.lt_or_ge k 4 with q | q; exact q; (have e : k = 4 := by omega); subst e; have := of_decide_eq_true h1; omega
    refine cSkip <| cBlock <| cReg rfl <| oR 1 rfl ?_
    have b1 : 16 * 2 ^ k * 2 ≤ 512 := by omega
    refine rOk (x := vN (16 * 2 ^ k * 2)) rfl rfl (okI (wrapI64 (show 16 * 2 ^ k * 2 ≤ 512 by omega) rfl)) <| oR 1 rfl <| rE 15 ?_
    refine ⟨k + 1, fun s => s, Weak.of_lists (fun s => s) ⟨⟨rfl, rfl⟩, ⟨(congrArg vN (show 16 * 2 ^ k * 2 = 16 * 2 ^ (k + 1) by rw [Nat.pow_succ]; omega)), rfl⟩, trivial⟩ trivial rfl, ⟨by have := trivial; have q := hk5; omega, fun _ => by have := of_decide_eq_true h1; show 16 * 2 ^ k < _; omega⟩, by show 4 - (k + 1) < 4 - k; have q := hk5; omega⟩
  · have h1p := of_decide_eq_false h1
    refine cExit <| cSeq <| cReg rfl <| oR 1 rfl <| rFx (x := .osl 13 0 (16 * 2 ^ k) false) (h' := upd _ 13 (some (.arr ((List.replicate (16 * 2 ^ k) 0).map row8) 1))) rfl rfl (mk_eq (List.map_replicate (f := row8) (a := 0)).symm) (⟨Int.natCast_nonneg _, Int.ofNat_le.2 omT, by show (((16 * 2 ^ k) : Nat) : Int) ≤ 1000000; omega⟩) <| oR 1 rfl <| rE 15 <| cSeq <| cReg rfl <| oR 2 rfl <| rFx (x := vI ((min (rowsOfBytes (sB (m.take 256))).length (16 * 2 ^ k) : Nat) : Int)) (h' := upd _ 13 (some (.arr ((m.take 256 ++ List.replicate (16 * 2 ^ k - (m.take 256).length) 0).map row8) 1))) rfl rfl (cp_eq (copy_str (m.take 256) (16 * 2 ^ k) (by have := of_decide_eq_false h1; omega))) (⟨by show 0 + 16 * 2 ^ k ≤ ((List.replicate (16 * 2 ^ k) (0 : UInt8)).map row8).length; rw [List.length_map, List.length_replicate]; omega, trivial⟩) <| rE 18 <| cSeq <| cReg rfl <| oR 1 rfl <| rStr (m.take 256 ++ List.replicate (16 * 2 ^ k - (m.take 256).length) 0) (d := 22) rfl rfl rfl ((by show 0 + 16 * 2 ^ k ≤ ((m.take 256 ++ List.replicate (16 * 2 ^ k - (m.take 256).length) 0).map row8).length; rw [List.length_map, List.length_append, List.length_replicate]; omega)) (own8 (by rw [List.length_append, List.length_replicate]; have := of_decide_eq_false h1; omega)) ?_
    refine oR 1 rfl <| rE 21 <| cRet ?_
    exact finTA rfl trivial rfl (congrArg vS (cleanM_at rfl hk4 (by have := of_decide_eq_false h1; omega) hk.2))
theorem dRight (p : ScPlan) (a b c : Bool) (hp : p.ok) : DCall C0 14 [.agg (planL p a b c)] (vB (rightP p)) := by
  refine dc1 (DCall.intro c1Ok Tryd.func14 rfl rfl (by kernel_rfl) rfl ?_)
  refine cSeq <| cReg rfl <| rAl 0 rfl rfl <| oR 1 rfl <| rE 2 <| cSeq <| cReg rfl <| oR 2 rfl <| rCl rfl (.inl rfl) (dRightCf (cfOf p) a b hp.cf) <| oR 1 rfl <| gN rfl <| gS rfl id <| gBS (x := vN p.prog.length) rfl id (lenMap rowU p.prog) <| gBS (x := vB (decide (p.prog.length ≤ 64))) rfl id (okB (leN _ _)) <| rNeed rfl rfl rfl (fun h => h) <| oR 1 rfl ?_
  refine gN rfl <| gS rfl id <| gN rfl <| gS rfl id <| gCallS (args := [vS p.mem]) (x := vS (cleanM p.mem)) (g := cond2 (decide (CfR (cfOf p))) (decide (p.prog.length ≤ 64)) false) rfl rfl rfl rfl (fun h => h) rfl rfl rfl (.inl rfl) rfl (fun hg => dClean p.mem hp.mem) <| gBS (x := vB (decide (p.mem = cleanM p.mem))) rfl (fun h => by first | (simp_all; done) | exact (Bool.and_eq_true_iff.1 h).1 | exact Bool.and_eq_true_iff.2 ⟨h, h⟩) (okBo (eq_tL p.mem (cleanM p.mem))) <| rNeed rfl rfl rfl (fun h => h) <| oR 1 rfl <| gN rfl <| gS rfl id <| gBS (x := vB (decide (p.cycles ≥ 0))) rfl id rfl <| rNeed rfl rfl rfl (fun h => h) <| oR 1 rfl <| gN rfl <| gS rfl id <| gBS (x := vB (decide (p.cycles ≤ 600))) rfl id rfl ?_
  refine rNeed rfl rfl rfl (fun h => h) <| oR 1 rfl <| rE 30 <| cRet ?_
  exact finTA rfl trivial rfl (bool_eq (by rw [Bool.eq_iff_iff]; unfold rightP; rw [decide_eq_true_eq]; unfold PlR okM; rw [show (cleanM p.mem = p.mem) = (p.mem = cleanM p.mem) from propext eq_comm]; simp [cAnd, and_assoc]))
end Go.Proofs.YtpefnjbmbfdmmaaDoor
