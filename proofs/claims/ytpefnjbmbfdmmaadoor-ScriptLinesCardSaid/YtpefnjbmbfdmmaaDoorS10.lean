/- Joined texts. -/
import Derived.Test.YtpefnjbmbfdmmaaDoorS7
import Derived.Test.YtpefnjbmbfdmmaaDoorS9
namespace Go.Proofs.YtpefnjbmbfdmmaaDoor
set_option maxRecDepth 100000
set_option maxHeartbeats 4000000
open Go.RowKit Go.Lib
def inB (n lo hi : Int) : Bool := decide (lo ≤ n ∧ n ≤ hi)
theorem dWithin (n lo hi : Int) : DCall C0 59 [vI n, vI lo, vI hi] (vB (inB n lo hi)) := by
  refine DCall.intro c0Ok Tryd.func59 rfl rfl (by kernel_rfl) rfl <| cSeq <| cReg rfl <| oR 1 rfl <| rE 1 <| cSeq <| cReg rfl <| oR 2 rfl <| rOk (x := vB (decide (n ≥ lo))) rfl rfl rfl <| oR 1 rfl <| gN rfl <| gN rfl <| gBS (x := vB (decide (n ≤ hi))) rfl (fun h => by first | (simp_all; done) | exact (Bool.and_eq_true_iff.1 h).1 | exact Bool.and_eq_true_iff.2 ⟨h, h⟩) rfl <| rNeed rfl rfl rfl (fun h => h) <| oR 1 rfl <| rE 10 ?_
  refine cRet ?_
  exact finTA rfl trivial rfl (bool_eq (by rw [Bool.eq_iff_iff]; simp [cAnd, inB]))
theorem dRightCf (c : Cf) (cl ct : Bool) (hc : c.ok) : DCall C0 36 [.agg (cfL c cl ct)] (vB (decide (CfR c))) := by
  refine DCall.intro c0Ok Tryd.func36 rfl rfl (by kernel_rfl) rfl <| cSeq <| cReg rfl <| rAl 0 rfl rfl <| oR 1 rfl <| rE 2 <| cSeq <| cReg rfl <| oR 1 rfl <| rE 3 <| cSeq <| cSeq <| cReg rfl <| oR 2 rfl <| rOk (x := vN c.lat.length) rfl rfl (lenMap rowI c.lat) <| oR 1 rfl ?_
  refine rE 7 <| cBlock <| cLoop (κ := Nat) (fun k => ⟨slotsF [(1, .ptr 0 0), (3, .clo 59 [] []), (7, .sl 1 (c.lat.map rowI) cl), (8, vN c.lat.length), (9, vN k)], heapF [(0, .box [vI c.mode, vI c.width, vI c.rob, vI c.queue, vI c.stores, vI c.slots, vI c.sets, vI c.ways, .sl 1 (c.lat.map rowI) cl, vB c.tables, .sl 1 (c.tape.map rowU) ct])], 7⟩) (fun k => k ≤ c.lat.length ∧ ∀ a ∈ c.lat.take k, 1 ≤ a ∧ a ≤ 8) (fun k => c.lat.length - k) 0 (fun s => s) (Weak.of_lists (fun s => s) wT wH rfl) (⟨Nat.zero_le _, (fun x h => absurd h List.not_mem_nil)⟩) ?_
  intro k hk
  have hkn : k ≤ c.lat.length := hk.1
  have hkB : k ≤ 9223372036854775807 := by have := hc.lat; omega
  have hqa := hc.lat
  refine cSeq <| cReg rfl <| rOk (x := vB (decide (k < c.lat.length))) rfl rfl (okB (ltN _ _)) <| rE 8 <| cSeq ?_
  refine cCond rfl (fun h1 => ?_) (fun h1 => ?_)
  · have h1p := of_decide_eq_true h1
    refine cSkip <| cSeq <| cBlock <| cSeq <| cReg rfl ?_
    obtain ⟨x, hx⟩ : ∃ y_, c.lat[k]? = some y_ := ⟨_, List.getElem?_eq_getElem omT⟩
    refine rIdx (rowI x) (x := .dp 1 0 (rowI x)) rfl rfl rfl (⟨Int.natCast_nonneg _, getM hx⟩) rfl <| oR 2 rfl <| rE 11 <| cSeq <| cReg rfl <| oR 2 rfl <| rCl rfl (.inl rfl) (dWithin x 1 8) <| oR 1 rfl <| rE 15 ?_
    refine cCond rfl (fun h2 => ?_) (fun h2 => ?_)
    · refine cSeq <| cReg rfl <| oR 1 rfl <| rE 16 <| cRet ?_
      exact finTA rfl trivial rfl (bool_eq (decide_eq_false (fun q => by have := q.2.2.2.2.2.2.2.2.1.2 x (List.mem_of_getElem? hx); simp [inB] at h2; omega) : decide (CfR c) = false).symm)
    · refine cSkip <| cReg rfl ?_
      have b1 : k + 1 ≤ 9223372036854775807 := by omega
      refine rOk (x := vN (k + 1)) rfl rfl (okI (wrapI64 (show k + 1 ≤ 9223372036854775807 by omega) rfl)) <| oR 1 rfl <| rE 17 ?_
      refine ⟨k + 1, fun s => s, Weak.of_lists (fun s => s) wT wH rfl, ⟨by omega, (fun a ha => by rw [List.take_add_one, hx] at ha; rcases List.mem_append.1 ha with ha | ha; exact hk.2 a ha; (rw [List.mem_singleton.1 ha]; simp [inB] at h2; omega))⟩, by show c.lat.length - (k + 1) < c.lat.length - k; omega⟩
  · have h1p := of_decide_eq_false h1
    refine cExit <| cSeq <| cReg rfl <| oR 3 rfl <| rCl rfl (.inl rfl) (dWithin c.mode 0 2) <| oR 1 rfl <| gN rfl <| gN rfl <| gS rfl id <| gCallS (args := [vI c.width, vI 1, vI 2]) (x := vB (inB c.width 1 2)) (g := inB c.mode 0 2) rfl rfl rfl rfl (fun h => by first | (simp_all; done) | exact (Bool.and_eq_true_iff.1 h).1 | exact Bool.and_eq_true_iff.2 ⟨h, h⟩) rfl rfl rfl (.inl rfl) rfl (fun hg => dWithin c.width 1 2) <| rNeed rfl rfl rfl (fun h => h) <| oR 1 rfl <| gN rfl <| gN rfl <| gS rfl id <| gCallS (args := [vI c.rob, vI 2, vI 8]) (x := vB (inB c.rob 2 8)) (g := cond2 (inB c.mode 0 2) (inB c.width 1 2) false) rfl rfl rfl rfl (fun h => by first | (simp_all; done) | exact (Bool.and_eq_true_iff.1 h).1 | exact Bool.and_eq_true_iff.2 ⟨h, h⟩) rfl rfl rfl (.inl rfl) rfl (fun hg => dWithin c.rob 2 8) ?_
    refine rNeed rfl rfl rfl (fun h => h) <| oR 1 rfl <| gN rfl <| gN rfl <| gS rfl id <| gCallS (args := [vI c.queue, vI 1, vI 4]) (x := vB (inB c.queue 1 4)) (g := cond2 (cond2 (inB c.mode 0 2) (inB c.width 1 2) false) (inB c.rob 2 8) false) rfl rfl rfl rfl (fun h => by first | (simp_all; done) | exact (Bool.and_eq_true_iff.1 h).1 | exact Bool.and_eq_true_iff.2 ⟨h, h⟩) rfl rfl rfl (.inl rfl) rfl (fun hg => dWithin c.queue 1 4) <| rNeed rfl rfl rfl (fun h => h) <| oR 1 rfl <| gN rfl <| gN rfl <| gS rfl id <| gCallS (args := [vI c.stores, vI 1, vI 4]) (x := vB (inB c.stores 1 4)) (g := cond2 (cond2 (cond2 (inB c.mode 0 2) (inB c.width 1 2) false) (inB c.rob 2 8) false) (inB c.queue 1 4) false) rfl rfl rfl rfl (fun h => by first | (simp_all; done) | exact (Bool.and_eq_true_iff.1 h).1 | exact Bool.and_eq_true_iff.2 ⟨h, h⟩) rfl rfl rfl (.inl rfl) rfl (fun hg => dWithin c.stores 1 4) <| rNeed rfl rfl rfl (fun h => h) <| oR 1 rfl <| gN rfl <| gN rfl ?_
    refine gS rfl id <| gCallS (args := [vI c.slots, vI 2, vI 6]) (x := vB (inB c.slots 2 6)) (g := cond2 (cond2 (cond2 (cond2 (inB c.mode 0 2) (inB c.width 1 2) false) (inB c.rob 2 8) false) (inB c.queue 1 4) false) (inB c.stores 1 4) false) rfl rfl rfl rfl (fun h => by first | (simp_all; done) | exact (Bool.and_eq_true_iff.1 h).1 | exact Bool.and_eq_true_iff.2 ⟨h, h⟩) rfl rfl rfl (.inl rfl) rfl (fun hg => dWithin c.slots 2 6) <| rNeed rfl rfl rfl (fun h => h) <| oR 1 rfl <| gN rfl <| gN rfl <| gS rfl id <| gCallS (args := [vI c.sets, vI 1, vI 4]) (x := vB (inB c.sets 1 4)) (g := cond2 (cond2 (cond2 (cond2 (cond2 (inB c.mode 0 2) (inB c.width 1 2) false) (inB c.rob 2 8) false) (inB c.queue 1 4) false) (inB c.stores 1 4) false) (inB c.slots 2 6) false) rfl rfl rfl rfl (fun h => by first | (simp_all; done) | exact (Bool.and_eq_true_iff.1 h).1 | exact Bool.and_eq_true_iff.2 ⟨h, h⟩) rfl rfl rfl (.inl rfl) rfl (fun hg => dWithin c.sets 1 4) <| rNeed rfl rfl rfl (fun h => h) <| oR 1 rfl <| gN rfl <| gS rfl id <| gBS (x := vB (c.sets != 3)) rfl id rfl <| rNeed rfl rfl rfl (fun h => h) <| oR 1 rfl <| gN rfl ?_
    refine gN rfl <| gS rfl id <| gCallS (args := [vI c.ways, vI 1, vI 2]) (x := vB (inB c.ways 1 2)) (g := cond2 (cond2 (cond2 (cond2 (cond2 (cond2 (cond2 (inB c.mode 0 2) (inB c.width 1 2) false) (inB c.rob 2 8) false) (inB c.queue 1 4) false) (inB c.stores 1 4) false) (inB c.slots 2 6) false) (inB c.sets 1 4) false) (c.sets != 3) false) rfl rfl rfl rfl (fun h => by first | (simp_all; done) | exact (Bool.and_eq_true_iff.1 h).1 | exact Bool.and_eq_true_iff.2 ⟨h, h⟩) rfl rfl rfl (.inl rfl) rfl (fun hg => dWithin c.ways 1 2) <| rNeed rfl rfl rfl (fun h => h) <| oR 1 rfl <| gN rfl <| gS rfl id <| gBS (x := vN c.lat.length) rfl id (lenMap rowI c.lat) <| gBS (x := vB (decide (c.lat.length ≤ 64))) rfl id (okB (leN _ _)) <| rNeed rfl rfl rfl (fun h => h) <| oR 1 rfl <| gN rfl <| gS rfl id <| gBS (x := vN c.tape.length) rfl id (lenMap rowU c.tape) <| gBS (x := vB (decide (c.tape.length ≤ 64))) rfl id (okB (leN _ _)) <| rNeed rfl rfl rfl (fun h => h) ?_
    refine oR 1 rfl <| rE 72 <| cRet ?_
    have hA : ∀ a ∈ c.lat, 1 ≤ a ∧ a ≤ 8 := by have q := hk.2; rwa [List.take_of_length_le (by have := of_decide_eq_false h1; omega)] at q
    exact finTA rfl trivial rfl (bool_eq (by rw [Bool.eq_iff_iff, decide_eq_true_eq]; unfold CfR; simp [cAnd, inB]; constructor; (rintro ⟨⟨⟨⟨⟨⟨⟨⟨⟨⟨q1, q2⟩, q3⟩, q4⟩, q5⟩, q6⟩, q7⟩, q8⟩, q9⟩, q10⟩, q11⟩; exact ⟨q1, q2, q3, q4, q5, q6, ⟨q7.1, q7.2, q8⟩, q9, ⟨q10, hA⟩, q11⟩); (rintro ⟨q1, q2, q3, q4, q5, q6, ⟨q7, q7b, q8⟩, q9, ⟨q10, _⟩, q11⟩; exact ⟨⟨⟨⟨⟨⟨⟨⟨⟨⟨q1, q2⟩, q3⟩, q4⟩, q5⟩, q6⟩, q7, q7b⟩, q8⟩, q9⟩, q10⟩, q11⟩)))
theorem copy_str (t : W) (n : Nat) (h : t.length ≤ n) : ((List.replicate n (0 : UInt8)).map row8).take 0 ++ (rowsOfBytes (sB t)).take (min (rowsOfBytes (sB t)).length n) ++ ((List.replicate n (0 : UInt8)).map row8).drop (0 + min (rowsOfBytes (sB t)).length n) = (t ++ List.replicate (n - t.length) 0).map row8 := by
  have e : rowsOfBytes (sB t) = t.map row8 := rfl
  have hl : min (t.map row8).length n = t.length := by rw [List.length_map]; omega
  rw [e, List.take_zero, List.nil_append, hl, List.take_of_length_le (by rw [List.length_map]; omega), Nat.zero_add, ← List.map_drop, List.drop_replicate, ← List.map_append]
theorem min256 {m : W} : m.take (min m.length 256) = m.take 256 := by
  rcases Nat.le_total m.length 256 with h | h
  · rw [Nat.min_eq_left h, List.take_of_length_le (Nat.le_refl _), List.take_of_length_le h]
  · rw [Nat.min_eq_right h]
theorem dClean (m : List UInt8) (hm : m.length ≤ 900000) : DCall C0 19 [vS m] (vS (cleanM m)) := by
  refine DCall.intro c0Ok Tryd.func19 rfl rfl (by kernel_rfl) rfl <| cSeq <| cReg rfl <| oR 1 rfl <| rE 1 <| cSeq <| cReg rfl <| oR 2 rfl <| rOk (x := vN m.length) rfl rfl rfl <| rOk (x := vN (min m.length 256)) rfl rfl (minN64 m.length 256) <| rNeed (x := vS (m.take 256)) rfl rfl (needSt ((ext_to m (min m.length 256)).trans (congrArg sB min256))) (⟨Int.le_refl _, Int.natCast_nonneg _, Int.ofNat_le.2 (by show min m.length 256 ≤ m.length; omega)⟩) <| oR 1 rfl <| rE 7 <| cSeq <| cReg rfl <| oR 1 rfl ?_
  refine rE 8 <| cSeq <| cBlock <| cLoop (κ := Nat) (fun k => ⟨slotsF [(0, vS (m.take 256)), (3, vN (16 * 2 ^ k))], heapF [], 8⟩) (fun k => k ≤ 4 ∧ (k ≠ 0 → 16 * 2 ^ (k - 1) < (m.take 256).length)) (fun k => 4 - k) 0 (fun s => s) (Weak.of_lists (fun s => s) wT trivial rfl) (⟨by omega, fun h => absurd rfl h⟩) ?_
  intro k hk
  have hk4 : k ≤ 4 := hk.1
  have hkB : 16 * 2 ^ k ≤ 256 := Nat.mul_le_mul_left 16 (Nat.pow_le_pow_right (by decide) hk4 : 2 ^ k ≤ 2 ^ 4)
  have hT : (m.take 256).length ≤ 256 := by first | exact hT0 | (rw [List.length_take]; omega)
  refine cSeq <| cSeq <| cReg rfl <| oR 2 rfl <| rOk (x := vN ((m.take 256).length)) rfl rfl rfl <| rOk (x := vB (decide ((16 * 2 ^ k) < ((m.take 256).length)))) rfl rfl (okB (ltN _ _)) <| rE 12 ?_
  refine cCond rfl (fun h1 => ?_) (fun h1 => ?_)
  · have h1p := of_decide_eq_true h1
    have hk5 : k < 4 := by rcases Nat.lt_or_ge k 4 with q | q; exact q; (have e : k = 4 := by omega); subst e; have := of_decide_eq_true h1; omega
    refine cSkip <| cBlock <| cReg rfl <| oR 1 rfl ?_
    have b1 : 16 * 2 ^ k * 2 ≤ 512 := by omega
    refine rOk (x := vN (16 * 2 ^ k * 2)) rfl rfl (okI (wrapI64 (show 16 * 2 ^ k * 2 ≤ 512 by omega) rfl)) <| oR 1 rfl <| rE 15 ?_
    refine ⟨k + 1, fun s => s, Weak.of_lists (fun s => s) ⟨⟨rfl, rfl⟩, ⟨(congrArg vN (show 16 * 2 ^ k * 2 = 16 * 2 ^ (k + 1) by rw [Nat.pow_succ]; omega)), rfl⟩, trivial⟩ trivial rfl, ⟨by have := trivial; have q := hk5; omega, fun _ => by have := of_decide_eq_true h1; show 16 * 2 ^ k < _; omega⟩, by show 4 - (k + 1) < 4 - k; have q := hk5; omega⟩
  · have h1p := of_decide_eq_false h1
    refine cExit <| cSeq <| cReg rfl <| oR 1 rfl <| rFx (x := .osl 13 0 (16 * 2 ^ k) false) (h' := upd _ 13 (some (.arr ((List.replicate (16 * 2 ^ k) 0).map row8) 1))) rfl rfl (mk_eq (List.map_replicate (f := row8) (a := 0)).symm) (⟨Int.natCast_nonneg _, Int.ofNat_le.2 omT, by show (((16 * 2 ^ k) : Nat) : Int) ≤ 1000000; omega⟩) <| oR 1 rfl <| rE 15 <| cSeq <| cReg rfl <| oR 2 rfl <| rFx (x := vI ((min (rowsOfBytes (sB (m.take 256))).length (16 * 2 ^ k) : Nat) : Int)) (h' := upd _ 13 (some (.arr ((m.take 256 ++ List.replicate (16 * 2 ^ k - (m.take 256).length) 0).map row8) 1))) rfl rfl (cp_eq (copy_str (m.take 256) (16 * 2 ^ k) (by have := of_decide_eq_false h1; omega))) (⟨by show 0 + 16 * 2 ^ k ≤ ((List.replicate (16 * 2 ^ k) (0 : UInt8)).map row8).length; rw [List.length_map, List.length_replicate]; omega, trivial⟩) <| rE 18 <| cSeq <| cReg rfl <| oR 1 rfl <| rStr (m.take 256 ++ List.replicate (16 * 2 ^ k - (m.take 256).length) 0) (d := 22) rfl rfl rfl ((by show 0 + 16 * 2 ^ k ≤ ((m.take 256 ++ List.replicate (16 * 2 ^ k - (m.take 256).length) 0).map row8).length; rw [List.length_map, List.length_append, List.length_replicate]; omega)) (own8 (by rw [List.length_append, List.length_replicate]; have := of_decide_eq_false h1; omega)) ?_
    refine oR 1 rfl <| rE 21 <| cRet ?_
    exact finTA rfl trivial rfl (congrArg vS (cleanM_at rfl hk4 (by have := of_decide_eq_false h1; omega) hk.2))
theorem dRight (p : ScPlan) (a b c : Bool) (hp : p.ok) : DCall C0 14 [.agg (planL p a b c)] (vB (rightP p)) := by
  refine dc1 (DCall.intro c1Ok Tryd.func14 rfl rfl (by kernel_rfl) rfl ?_)
  refine cSeq <| cReg rfl <| rAl 0 rfl rfl <| oR 1 rfl <| rE 2 <| cSeq <| cReg rfl <| oR 2 rfl <| rCl rfl (.inl rfl) (dRightCf (cfOf p) a b hp.cf) <| oR 1 rfl <| gN rfl <| gS rfl id <| gBS (x := vN p.prog.length) rfl id (lenMap rowU p.prog) <| gBS (x := vB (decide (p.prog.length ≤ 64))) rfl id (okB (leN _ _)) <| rNeed rfl rfl rfl (fun h => h) <| oR 1 rfl ?_
  refine gN rfl <| gS rfl id <| gN rfl <| gS rfl id <| gCallS (args := [vS p.mem]) (x := vS (cleanM p.mem)) (g := cond2 (decide (CfR (cfOf p))) (decide (p.prog.length ≤ 64)) false) rfl rfl rfl rfl (fun h => h) rfl rfl rfl (.inl rfl) rfl (fun hg => dClean p.mem hp.mem) <| gBS (x := vB (decide (p.mem = cleanM p.mem))) rfl (fun h => by first | (simp_all; done) | exact (Bool.and_eq_true_iff.1 h).1 | exact Bool.and_eq_true_iff.2 ⟨h, h⟩) (okBo (eq_tL p.mem (cleanM p.mem))) <| rNeed rfl rfl rfl (fun h => h) <| oR 1 rfl <| gN rfl <| gS rfl id <| gBS (x := vB (decide (p.cycles ≥ 0))) rfl id rfl <| rNeed rfl rfl rfl (fun h => h) <| oR 1 rfl <| gN rfl <| gS rfl id <| gBS (x := vB (decide (p.cycles ≤ 600))) rfl id rfl ?_
  refine rNeed rfl rfl rfl (fun h => h) <| oR 1 rfl <| rE 30 <| cRet ?_
  exact finTA rfl trivial rfl (bool_eq (by rw [Bool.eq_iff_iff]; unfold rightP; rw [decide_eq_true_eq]; unfold PlR okM; rw [show (cleanM p.mem = p.mem) = (p.mem = cleanM p.mem) from propext eq_comm]; simp [cAnd, and_assoc]))
theorem hNum_0 (p : ScPlan) (a b c : Bool) : HSem C0.P C0.G 45 [.ptr 0 0, vI 0] (heapF [(0, .box (planL p a b c))]) 1 (fun x h' => x = .v (.pointer none) ∧ h' = heapF [(0, .box (planL p a b c))]) := by
  refine HCall.intro (C := C0) (s := 1) c0Ok.at Tryd.func45 rfl rfl (by kernel_rfl) rfl rfl <| cSeq <| cReg rfl <| oR 1 rfl <| rE 2 <| cSeq <| cSeq <| cReg rfl <| oR 1 rfl <| rCl rfl (.inl rfl) (dName_0) <| rE 4 <| cBlock <| cSeq <| cReg rfl <| rOk (x := vB false) rfl rfl (okBo ((eq_tL [109, 111, 100, 101] [119, 105, 100, 116, 104]).trans (by decide))) <| oR 1 rfl ?_
  refine rE 6 ?_
  refine cCond rfl (fun h => by cases h) (fun _ => ?_)
  refine cSeq <| cReg rfl <| rOk (x := vB false) rfl rfl (okBo ((eq_tL [109, 111, 100, 101] [114, 111, 98]).trans (by decide))) <| oR 1 rfl <| rE 8 ?_
  refine cCond rfl (fun h => by cases h) (fun _ => ?_)
  refine cSeq <| cReg rfl <| rOk (x := vB false) rfl rfl (okBo ((eq_tL [109, 111, 100, 101] [113, 117, 101, 117, 101]).trans (by decide))) <| oR 1 rfl <| rE 10 ?_
  refine cCond rfl (fun h => by cases h) (fun _ => ?_)
  refine cSeq <| cReg rfl <| rOk (x := vB false) rfl rfl (okBo ((eq_tL [109, 111, 100, 101] [115, 116, 111, 114, 101, 115]).trans (by decide))) <| oR 1 rfl <| rE 12 ?_
  refine cCond rfl (fun h => by cases h) (fun _ => ?_)
  refine cSeq <| cReg rfl <| rOk (x := vB false) rfl rfl (okBo ((eq_tL [109, 111, 100, 101] [115, 108, 111, 116, 115]).trans (by decide))) <| oR 1 rfl <| rE 14 ?_
  refine cCond rfl (fun h => by cases h) (fun _ => ?_)
  refine cSeq <| cReg rfl <| rOk (x := vB false) rfl rfl (okBo ((eq_tL [109, 111, 100, 101] [115, 101, 116, 115]).trans (by decide))) <| oR 1 rfl <| rE 16 ?_
  refine cCond rfl (fun h => by cases h) (fun _ => ?_)
  refine cSeq <| cReg rfl <| rOk (x := vB false) rfl rfl (okBo ((eq_tL [109, 111, 100, 101] [119, 97, 121, 115]).trans (by decide))) <| oR 1 rfl <| rE 18 ?_
  refine cCond rfl (fun h => by cases h) (fun _ => ?_)
  refine cSeq <| cReg rfl <| rOk (x := vB false) rfl rfl (okBo ((eq_tL [109, 111, 100, 101] [99, 121, 99, 108, 101, 115]).trans (by decide))) <| oR 1 rfl <| rE 20 ?_
  refine cCond rfl (fun h => by cases h) (fun _ => ?_)
  refine cSkip <| cSeq <| cReg rfl <| oR 1 rfl <| rE 21 <| cRet ?_
  exact finH (rs := [.v (.pointer none)]) rfl (r := .v (.pointer none)) (σ := fun z => z) ⟨rfl, rfl⟩ rfl (weak_ret (fun z => z) rfl rfl wH rfl)
theorem numAt_0 {p : ScPlan} {a b c : Bool} {n : Nat} {K : AH} {s2 : Nat} (hb : Nat.blt n s2 = true) (hK : K n = some (.box (planL p a b c))) :
    HSem C0.P C0.G 45 [.ptr n 0, vI 0] K s2 (fun x h' => x = .v (.pointer none) ∧ h' = upd K n (some (.box (planL p a b c)))) :=
  (hNum_0 p a b c).frame1 n K s2 (Nat.le_of_ble_eq_true hb) rfl hK rfl
theorem hNum_1 (p : ScPlan) (a b c : Bool) : HSem C0.P C0.G 45 [.ptr 0 0, vI 1] (heapF [(0, .box (planL p a b c))]) 1 (fun x h' => x = .ptr 0 1 ∧ h' = heapF [(0, .box (planL p a b c))]) := by
  refine HCall.intro (C := C0) (s := 1) c0Ok.at Tryd.func45 rfl rfl (by kernel_rfl) rfl rfl <| cSeq <| cReg rfl <| oR 1 rfl <| rE 2 <| cSeq <| cSeq <| cReg rfl <| oR 1 rfl <| rCl rfl (.inl rfl) (dName_1) <| rE 4 <| cBlock <| cSeq <| cReg rfl <| rOk (x := vB true) rfl rfl (okBo ((eq_tL [119, 105, 100, 116, 104] [119, 105, 100, 116, 104]).trans (by decide))) <| oR 1 rfl ?_
  refine rE 6 ?_
  refine cCond rfl (fun _ => ?_) (fun h => by cases h)
  refine cSeq <| cReg rfl <| oR 5 rfl <| rE 11 <| cRet ?_
  exact finH (rs := [.ptr 0 1]) rfl (r := .ptr 0 1) (σ := fun z => z) ⟨rfl, rfl⟩ rfl (weak_ret (fun z => z) rfl rfl wH rfl)
theorem numAt_1 {p : ScPlan} {a b c : Bool} {n : Nat} {K : AH} {s2 : Nat} (hb : Nat.blt n s2 = true) (hK : K n = some (.box (planL p a b c))) :
    HSem C0.P C0.G 45 [.ptr n 0, vI 1] K s2 (fun x h' => x = .ptr n 1 ∧ h' = upd K n (some (.box (planL p a b c)))) :=
  (hNum_1 p a b c).frame1 n K s2 (Nat.le_of_ble_eq_true hb) rfl hK rfl
theorem hNum_2 (p : ScPlan) (a b c : Bool) : HSem C0.P C0.G 45 [.ptr 0 0, vI 2] (heapF [(0, .box (planL p a b c))]) 1 (fun x h' => x = .ptr 0 2 ∧ h' = heapF [(0, .box (planL p a b c))]) := by
  refine HCall.intro (C := C0) (s := 1) c0Ok.at Tryd.func45 rfl rfl (by kernel_rfl) rfl rfl <| cSeq <| cReg rfl <| oR 1 rfl <| rE 2 <| cSeq <| cSeq <| cReg rfl <| oR 1 rfl <| rCl rfl (.inl rfl) (dName_2) <| rE 4 <| cBlock <| cSeq <| cReg rfl <| rOk (x := vB false) rfl rfl (okBo ((eq_tL [114, 111, 98] [119, 105, 100, 116, 104]).trans (by decide))) <| oR 1 rfl ?_
  refine rE 6 ?_
  refine cCond rfl (fun h => by cases h) (fun _ => ?_)
  refine cSeq <| cReg rfl <| rOk (x := vB true) rfl rfl (okBo ((eq_tL [114, 111, 98] [114, 111, 98]).trans (by decide))) <| oR 1 rfl <| rE 8 ?_
  refine cCond rfl (fun _ => ?_) (fun h => by cases h)
  refine cSeq <| cReg rfl <| oR 5 rfl <| rE 13 <| cRet ?_
  exact finH (rs := [.ptr 0 2]) rfl (r := .ptr 0 2) (σ := fun z => z) ⟨rfl, rfl⟩ rfl (weak_ret (fun z => z) rfl rfl wH rfl)
theorem numAt_2 {p : ScPlan} {a b c : Bool} {n : Nat} {K : AH} {s2 : Nat} (hb : Nat.blt n s2 = true) (hK : K n = some (.box (planL p a b c))) :
    HSem C0.P C0.G 45 [.ptr n 0, vI 2] K s2 (fun x h' => x = .ptr n 2 ∧ h' = upd K n (some (.box (planL p a b c)))) :=
  (hNum_2 p a b c).frame1 n K s2 (Nat.le_of_ble_eq_true hb) rfl hK rfl
theorem hNum_3 (p : ScPlan) (a b c : Bool) : HSem C0.P C0.G 45 [.ptr 0 0, vI 3] (heapF [(0, .box (planL p a b c))]) 1 (fun x h' => x = .ptr 0 3 ∧ h' = heapF [(0, .box (planL p a b c))]) := by
  refine HCall.intro (C := C0) (s := 1) c0Ok.at Tryd.func45 rfl rfl (by kernel_rfl) rfl rfl <| cSeq <| cReg rfl <| oR 1 rfl <| rE 2 <| cSeq <| cSeq <| cReg rfl <| oR 1 rfl <| rCl rfl (.inl rfl) (dName_3) <| rE 4 <| cBlock <| cSeq <| cReg rfl <| rOk (x := vB false) rfl rfl (okBo ((eq_tL [113, 117, 101, 117, 101] [119, 105, 100, 116, 104]).trans (by decide))) <| oR 1 rfl ?_
  refine rE 6 ?_
  refine cCond rfl (fun h => by cases h) (fun _ => ?_)
  refine cSeq <| cReg rfl <| rOk (x := vB false) rfl rfl (okBo ((eq_tL [113, 117, 101, 117, 101] [114, 111, 98]).trans (by decide))) <| oR 1 rfl <| rE 8 ?_
  refine cCond rfl (fun h => by cases h) (fun _ => ?_)
  refine cSeq <| cReg rfl <| rOk (x := vB true) rfl rfl (okBo ((eq_tL [113, 117, 101, 117, 101] [113, 117, 101, 117, 101]).trans (by decide))) <| oR 1 rfl <| rE 10 ?_
  refine cCond rfl (fun _ => ?_) (fun h => by cases h)
  refine cSeq <| cReg rfl <| oR 5 rfl <| rE 15 <| cRet ?_
  exact finH (rs := [.ptr 0 3]) rfl (r := .ptr 0 3) (σ := fun z => z) ⟨rfl, rfl⟩ rfl (weak_ret (fun z => z) rfl rfl wH rfl)
theorem numAt_3 {p : ScPlan} {a b c : Bool} {n : Nat} {K : AH} {s2 : Nat} (hb : Nat.blt n s2 = true) (hK : K n = some (.box (planL p a b c))) :
    HSem C0.P C0.G 45 [.ptr n 0, vI 3] K s2 (fun x h' => x = .ptr n 3 ∧ h' = upd K n (some (.box (planL p a b c)))) :=
  (hNum_3 p a b c).frame1 n K s2 (Nat.le_of_ble_eq_true hb) rfl hK rfl
theorem hNum_4 (p : ScPlan) (a b c : Bool) : HSem C0.P C0.G 45 [.ptr 0 0, vI 4] (heapF [(0, .box (planL p a b c))]) 1 (fun x h' => x = .ptr 0 4 ∧ h' = heapF [(0, .box (planL p a b c))]) := by
  refine HCall.intro (C := C0) (s := 1) c0Ok.at Tryd.func45 rfl rfl (by kernel_rfl) rfl rfl <| cSeq <| cReg rfl <| oR 1 rfl <| rE 2 <| cSeq <| cSeq <| cReg rfl <| oR 1 rfl <| rCl rfl (.inl rfl) (dName_4) <| rE 4 <| cBlock <| cSeq <| cReg rfl <| rOk (x := vB false) rfl rfl (okBo ((eq_tL [115, 116, 111, 114, 101, 115] [119, 105, 100, 116, 104]).trans (by decide))) <| oR 1 rfl ?_
  refine rE 6 ?_
  refine cCond rfl (fun h => by cases h) (fun _ => ?_)
  refine cSeq <| cReg rfl <| rOk (x := vB false) rfl rfl (okBo ((eq_tL [115, 116, 111, 114, 101, 115] [114, 111, 98]).trans (by decide))) <| oR 1 rfl <| rE 8 ?_
  refine cCond rfl (fun h => by cases h) (fun _ => ?_)
  refine cSeq <| cReg rfl <| rOk (x := vB false) rfl rfl (okBo ((eq_tL [115, 116, 111, 114, 101, 115] [113, 117, 101, 117, 101]).trans (by decide))) <| oR 1 rfl <| rE 10 ?_
  refine cCond rfl (fun h => by cases h) (fun _ => ?_)
  refine cSeq <| cReg rfl <| rOk (x := vB true) rfl rfl (okBo ((eq_tL [115, 116, 111, 114, 101, 115] [115, 116, 111, 114, 101, 115]).trans (by decide))) <| oR 1 rfl <| rE 12 ?_
  refine cCond rfl (fun _ => ?_) (fun h => by cases h)
  refine cSeq <| cReg rfl <| oR 5 rfl <| rE 17 <| cRet ?_
  exact finH (rs := [.ptr 0 4]) rfl (r := .ptr 0 4) (σ := fun z => z) ⟨rfl, rfl⟩ rfl (weak_ret (fun z => z) rfl rfl wH rfl)
theorem numAt_4 {p : ScPlan} {a b c : Bool} {n : Nat} {K : AH} {s2 : Nat} (hb : Nat.blt n s2 = true) (hK : K n = some (.box (planL p a b c))) :
    HSem C0.P C0.G 45 [.ptr n 0, vI 4] K s2 (fun x h' => x = .ptr n 4 ∧ h' = upd K n (some (.box (planL p a b c)))) :=
  (hNum_4 p a b c).frame1 n K s2 (Nat.le_of_ble_eq_true hb) rfl hK rfl
theorem hNum_5 (p : ScPlan) (a b c : Bool) : HSem C0.P C0.G 45 [.ptr 0 0, vI 5] (heapF [(0, .box (planL p a b c))]) 1 (fun x h' => x = .ptr 0 5 ∧ h' = heapF [(0, .box (planL p a b c))]) := by
  refine HCall.intro (C := C0) (s := 1) c0Ok.at Tryd.func45 rfl rfl (by kernel_rfl) rfl rfl <| cSeq <| cReg rfl <| oR 1 rfl <| rE 2 <| cSeq <| cSeq <| cReg rfl <| oR 1 rfl <| rCl rfl (.inl rfl) (dName_5) <| rE 4 <| cBlock <| cSeq <| cReg rfl <| rOk (x := vB false) rfl rfl (okBo ((eq_tL [115, 108, 111, 116, 115] [119, 105, 100, 116, 104]).trans (by decide))) <| oR 1 rfl ?_
  refine rE 6 ?_
  refine cCond rfl (fun h => by cases h) (fun _ => ?_)
  refine cSeq <| cReg rfl <| rOk (x := vB false) rfl rfl (okBo ((eq_tL [115, 108, 111, 116, 115] [114, 111, 98]).trans (by decide))) <| oR 1 rfl <| rE 8 ?_
  refine cCond rfl (fun h => by cases h) (fun _ => ?_)
  refine cSeq <| cReg rfl <| rOk (x := vB false) rfl rfl (okBo ((eq_tL [115, 108, 111, 116, 115] [113, 117, 101, 117, 101]).trans (by decide))) <| oR 1 rfl <| rE 10 ?_
  refine cCond rfl (fun h => by cases h) (fun _ => ?_)
  refine cSeq <| cReg rfl <| rOk (x := vB false) rfl rfl (okBo ((eq_tL [115, 108, 111, 116, 115] [115, 116, 111, 114, 101, 115]).trans (by decide))) <| oR 1 rfl <| rE 12 ?_
  refine cCond rfl (fun h => by cases h) (fun _ => ?_)
  refine cSeq <| cReg rfl <| rOk (x := vB true) rfl rfl (okBo ((eq_tL [115, 108, 111, 116, 115] [115, 108, 111, 116, 115]).trans (by decide))) <| oR 1 rfl <| rE 14 ?_
  refine cCond rfl (fun _ => ?_) (fun h => by cases h)
  refine cSeq <| cReg rfl <| oR 5 rfl <| rE 19 <| cRet ?_
  exact finH (rs := [.ptr 0 5]) rfl (r := .ptr 0 5) (σ := fun z => z) ⟨rfl, rfl⟩ rfl (weak_ret (fun z => z) rfl rfl wH rfl)
theorem numAt_5 {p : ScPlan} {a b c : Bool} {n : Nat} {K : AH} {s2 : Nat} (hb : Nat.blt n s2 = true) (hK : K n = some (.box (planL p a b c))) :
    HSem C0.P C0.G 45 [.ptr n 0, vI 5] K s2 (fun x h' => x = .ptr n 5 ∧ h' = upd K n (some (.box (planL p a b c)))) :=
  (hNum_5 p a b c).frame1 n K s2 (Nat.le_of_ble_eq_true hb) rfl hK rfl
theorem hNum_6 (p : ScPlan) (a b c : Bool) : HSem C0.P C0.G 45 [.ptr 0 0, vI 6] (heapF [(0, .box (planL p a b c))]) 1 (fun x h' => x = .ptr 0 6 ∧ h' = heapF [(0, .box (planL p a b c))]) := by
  refine HCall.intro (C := C0) (s := 1) c0Ok.at Tryd.func45 rfl rfl (by kernel_rfl) rfl rfl <| cSeq <| cReg rfl <| oR 1 rfl <| rE 2 <| cSeq <| cSeq <| cReg rfl <| oR 1 rfl <| rCl rfl (.inl rfl) (dName_6) <| rE 4 <| cBlock <| cSeq <| cReg rfl <| rOk (x := vB false) rfl rfl (okBo ((eq_tL [115, 101, 116, 115] [119, 105, 100, 116, 104]).trans (by decide))) <| oR 1 rfl ?_
  refine rE 6 ?_
  refine cCond rfl (fun h => by cases h) (fun _ => ?_)
  refine cSeq <| cReg rfl <| rOk (x := vB false) rfl rfl (okBo ((eq_tL [115, 101, 116, 115] [114, 111, 98]).trans (by decide))) <| oR 1 rfl <| rE 8 ?_
  refine cCond rfl (fun h => by cases h) (fun _ => ?_)
  refine cSeq <| cReg rfl <| rOk (x := vB false) rfl rfl (okBo ((eq_tL [115, 101, 116, 115] [113, 117, 101, 117, 101]).trans (by decide))) <| oR 1 rfl <| rE 10 ?_
  refine cCond rfl (fun h => by cases h) (fun _ => ?_)
  refine cSeq <| cReg rfl <| rOk (x := vB false) rfl rfl (okBo ((eq_tL [115, 101, 116, 115] [115, 116, 111, 114, 101, 115]).trans (by decide))) <| oR 1 rfl <| rE 12 ?_
  refine cCond rfl (fun h => by cases h) (fun _ => ?_)
  refine cSeq <| cReg rfl <| rOk (x := vB false) rfl rfl (okBo ((eq_tL [115, 101, 116, 115] [115, 108, 111, 116, 115]).trans (by decide))) <| oR 1 rfl <| rE 14 ?_
  refine cCond rfl (fun h => by cases h) (fun _ => ?_)
  refine cSeq <| cReg rfl <| rOk (x := vB true) rfl rfl (okBo ((eq_tL [115, 101, 116, 115] [115, 101, 116, 115]).trans (by decide))) <| oR 1 rfl <| rE 16 ?_
  refine cCond rfl (fun _ => ?_) (fun h => by cases h)
  refine cSeq <| cReg rfl <| oR 5 rfl <| rE 21 <| cRet ?_
  exact finH (rs := [.ptr 0 6]) rfl (r := .ptr 0 6) (σ := fun z => z) ⟨rfl, rfl⟩ rfl (weak_ret (fun z => z) rfl rfl wH rfl)
theorem numAt_6 {p : ScPlan} {a b c : Bool} {n : Nat} {K : AH} {s2 : Nat} (hb : Nat.blt n s2 = true) (hK : K n = some (.box (planL p a b c))) :
    HSem C0.P C0.G 45 [.ptr n 0, vI 6] K s2 (fun x h' => x = .ptr n 6 ∧ h' = upd K n (some (.box (planL p a b c)))) :=
  (hNum_6 p a b c).frame1 n K s2 (Nat.le_of_ble_eq_true hb) rfl hK rfl
theorem hNum_7 (p : ScPlan) (a b c : Bool) : HSem C0.P C0.G 45 [.ptr 0 0, vI 7] (heapF [(0, .box (planL p a b c))]) 1 (fun x h' => x = .ptr 0 7 ∧ h' = heapF [(0, .box (planL p a b c))]) := by
  refine HCall.intro (C := C0) (s := 1) c0Ok.at Tryd.func45 rfl rfl (by kernel_rfl) rfl rfl <| cSeq <| cReg rfl <| oR 1 rfl <| rE 2 <| cSeq <| cSeq <| cReg rfl <| oR 1 rfl <| rCl rfl (.inl rfl) (dName_7) <| rE 4 <| cBlock <| cSeq <| cReg rfl <| rOk (x := vB false) rfl rfl (okBo ((eq_tL [119, 97, 121, 115] [119, 105, 100, 116, 104]).trans (by decide))) <| oR 1 rfl ?_
  refine rE 6 ?_
  refine cCond rfl (fun h => by cases h) (fun _ => ?_)
  refine cSeq <| cReg rfl <| rOk (x := vB false) rfl rfl (okBo ((eq_tL [119, 97, 121, 115] [114, 111, 98]).trans (by decide))) <| oR 1 rfl <| rE 8 ?_
  refine cCond rfl (fun h => by cases h) (fun _ => ?_)
  refine cSeq <| cReg rfl <| rOk (x := vB false) rfl rfl (okBo ((eq_tL [119, 97, 121, 115] [113, 117, 101, 117, 101]).trans (by decide))) <| oR 1 rfl <| rE 10 ?_
  refine cCond rfl (fun h => by cases h) (fun _ => ?_)
  refine cSeq <| cReg rfl <| rOk (x := vB false) rfl rfl (okBo ((eq_tL [119, 97, 121, 115] [115, 116, 111, 114, 101, 115]).trans (by decide))) <| oR 1 rfl <| rE 12 ?_
  refine cCond rfl (fun h => by cases h) (fun _ => ?_)
  refine cSeq <| cReg rfl <| rOk (x := vB false) rfl rfl (okBo ((eq_tL [119, 97, 121, 115] [115, 108, 111, 116, 115]).trans (by decide))) <| oR 1 rfl <| rE 14 ?_
  refine cCond rfl (fun h => by cases h) (fun _ => ?_)
  refine cSeq <| cReg rfl <| rOk (x := vB false) rfl rfl (okBo ((eq_tL [119, 97, 121, 115] [115, 101, 116, 115]).trans (by decide))) <| oR 1 rfl <| rE 16 ?_
  refine cCond rfl (fun h => by cases h) (fun _ => ?_)
  refine cSeq <| cReg rfl <| rOk (x := vB true) rfl rfl (okBo ((eq_tL [119, 97, 121, 115] [119, 97, 121, 115]).trans (by decide))) <| oR 1 rfl <| rE 18 ?_
  refine cCond rfl (fun _ => ?_) (fun h => by cases h)
  refine cSeq <| cReg rfl <| oR 5 rfl <| rE 23 <| cRet ?_
  exact finH (rs := [.ptr 0 7]) rfl (r := .ptr 0 7) (σ := fun z => z) ⟨rfl, rfl⟩ rfl (weak_ret (fun z => z) rfl rfl wH rfl)
theorem numAt_7 {p : ScPlan} {a b c : Bool} {n : Nat} {K : AH} {s2 : Nat} (hb : Nat.blt n s2 = true) (hK : K n = some (.box (planL p a b c))) :
    HSem C0.P C0.G 45 [.ptr n 0, vI 7] K s2 (fun x h' => x = .ptr n 7 ∧ h' = upd K n (some (.box (planL p a b c)))) :=
  (hNum_7 p a b c).frame1 n K s2 (Nat.le_of_ble_eq_true hb) rfl hK rfl
theorem hNum_8 (p : ScPlan) (a b c : Bool) : HSem C0.P C0.G 45 [.ptr 0 0, vI 8] (heapF [(0, .box (planL p a b c))]) 1 (fun x h' => x = .v (.pointer none) ∧ h' = heapF [(0, .box (planL p a b c))]) := by
  refine HCall.intro (C := C0) (s := 1) c0Ok.at Tryd.func45 rfl rfl (by kernel_rfl) rfl rfl <| cSeq <| cReg rfl <| oR 1 rfl <| rE 2 <| cSeq <| cSeq <| cReg rfl <| oR 1 rfl <| rCl rfl (.inl rfl) (dName_8) <| rE 4 <| cBlock <| cSeq <| cReg rfl <| rOk (x := vB false) rfl rfl (okBo ((eq_tL [103, 117, 101, 115, 115] [119, 105, 100, 116, 104]).trans (by decide))) <| oR 1 rfl ?_
  refine rE 6 ?_
  refine cCond rfl (fun h => by cases h) (fun _ => ?_)
  refine cSeq <| cReg rfl <| rOk (x := vB false) rfl rfl (okBo ((eq_tL [103, 117, 101, 115, 115] [114, 111, 98]).trans (by decide))) <| oR 1 rfl <| rE 8 ?_
  refine cCond rfl (fun h => by cases h) (fun _ => ?_)
  refine cSeq <| cReg rfl <| rOk (x := vB false) rfl rfl (okBo ((eq_tL [103, 117, 101, 115, 115] [113, 117, 101, 117, 101]).trans (by decide))) <| oR 1 rfl <| rE 10 ?_
  refine cCond rfl (fun h => by cases h) (fun _ => ?_)
  refine cSeq <| cReg rfl <| rOk (x := vB false) rfl rfl (okBo ((eq_tL [103, 117, 101, 115, 115] [115, 116, 111, 114, 101, 115]).trans (by decide))) <| oR 1 rfl <| rE 12 ?_
  refine cCond rfl (fun h => by cases h) (fun _ => ?_)
  refine cSeq <| cReg rfl <| rOk (x := vB false) rfl rfl (okBo ((eq_tL [103, 117, 101, 115, 115] [115, 108, 111, 116, 115]).trans (by decide))) <| oR 1 rfl <| rE 14 ?_
  refine cCond rfl (fun h => by cases h) (fun _ => ?_)
  refine cSeq <| cReg rfl <| rOk (x := vB false) rfl rfl (okBo ((eq_tL [103, 117, 101, 115, 115] [115, 101, 116, 115]).trans (by decide))) <| oR 1 rfl <| rE 16 ?_
  refine cCond rfl (fun h => by cases h) (fun _ => ?_)
  refine cSeq <| cReg rfl <| rOk (x := vB false) rfl rfl (okBo ((eq_tL [103, 117, 101, 115, 115] [119, 97, 121, 115]).trans (by decide))) <| oR 1 rfl <| rE 18 ?_
  refine cCond rfl (fun h => by cases h) (fun _ => ?_)
  refine cSeq <| cReg rfl <| rOk (x := vB false) rfl rfl (okBo ((eq_tL [103, 117, 101, 115, 115] [99, 121, 99, 108, 101, 115]).trans (by decide))) <| oR 1 rfl <| rE 20 ?_
  refine cCond rfl (fun h => by cases h) (fun _ => ?_)
  refine cSkip <| cSeq <| cReg rfl <| oR 1 rfl <| rE 21 <| cRet ?_
  exact finH (rs := [.v (.pointer none)]) rfl (r := .v (.pointer none)) (σ := fun z => z) ⟨rfl, rfl⟩ rfl (weak_ret (fun z => z) rfl rfl wH rfl)
theorem numAt_8 {p : ScPlan} {a b c : Bool} {n : Nat} {K : AH} {s2 : Nat} (hb : Nat.blt n s2 = true) (hK : K n = some (.box (planL p a b c))) :
    HSem C0.P C0.G 45 [.ptr n 0, vI 8] K s2 (fun x h' => x = .v (.pointer none) ∧ h' = upd K n (some (.box (planL p a b c)))) :=
  (hNum_8 p a b c).frame1 n K s2 (Nat.le_of_ble_eq_true hb) rfl hK rfl
theorem hNum_9 (p : ScPlan) (a b c : Bool) : HSem C0.P C0.G 45 [.ptr 0 0, vI 9] (heapF [(0, .box (planL p a b c))]) 1 (fun x h' => x = .v (.pointer none) ∧ h' = heapF [(0, .box (planL p a b c))]) := by
  refine HCall.intro (C := C0) (s := 1) c0Ok.at Tryd.func45 rfl rfl (by kernel_rfl) rfl rfl <| cSeq <| cReg rfl <| oR 1 rfl <| rE 2 <| cSeq <| cSeq <| cReg rfl <| oR 1 rfl <| rCl rfl (.inl rfl) (dName_9) <| rE 4 <| cBlock <| cSeq <| cReg rfl <| rOk (x := vB false) rfl rfl (okBo ((eq_tL [108, 97, 116] [119, 105, 100, 116, 104]).trans (by decide))) <| oR 1 rfl ?_
  refine rE 6 ?_
  refine cCond rfl (fun h => by cases h) (fun _ => ?_)
  refine cSeq <| cReg rfl <| rOk (x := vB false) rfl rfl (okBo ((eq_tL [108, 97, 116] [114, 111, 98]).trans (by decide))) <| oR 1 rfl <| rE 8 ?_
  refine cCond rfl (fun h => by cases h) (fun _ => ?_)
  refine cSeq <| cReg rfl <| rOk (x := vB false) rfl rfl (okBo ((eq_tL [108, 97, 116] [113, 117, 101, 117, 101]).trans (by decide))) <| oR 1 rfl <| rE 10 ?_
  refine cCond rfl (fun h => by cases h) (fun _ => ?_)
  refine cSeq <| cReg rfl <| rOk (x := vB false) rfl rfl (okBo ((eq_tL [108, 97, 116] [115, 116, 111, 114, 101, 115]).trans (by decide))) <| oR 1 rfl <| rE 12 ?_
  refine cCond rfl (fun h => by cases h) (fun _ => ?_)
  refine cSeq <| cReg rfl <| rOk (x := vB false) rfl rfl (okBo ((eq_tL [108, 97, 116] [115, 108, 111, 116, 115]).trans (by decide))) <| oR 1 rfl <| rE 14 ?_
  refine cCond rfl (fun h => by cases h) (fun _ => ?_)
  refine cSeq <| cReg rfl <| rOk (x := vB false) rfl rfl (okBo ((eq_tL [108, 97, 116] [115, 101, 116, 115]).trans (by decide))) <| oR 1 rfl <| rE 16 ?_
  refine cCond rfl (fun h => by cases h) (fun _ => ?_)
  refine cSeq <| cReg rfl <| rOk (x := vB false) rfl rfl (okBo ((eq_tL [108, 97, 116] [119, 97, 121, 115]).trans (by decide))) <| oR 1 rfl <| rE 18 ?_
  refine cCond rfl (fun h => by cases h) (fun _ => ?_)
  refine cSeq <| cReg rfl <| rOk (x := vB false) rfl rfl (okBo ((eq_tL [108, 97, 116] [99, 121, 99, 108, 101, 115]).trans (by decide))) <| oR 1 rfl <| rE 20 ?_
  refine cCond rfl (fun h => by cases h) (fun _ => ?_)
  refine cSkip <| cSeq <| cReg rfl <| oR 1 rfl <| rE 21 <| cRet ?_
  exact finH (rs := [.v (.pointer none)]) rfl (r := .v (.pointer none)) (σ := fun z => z) ⟨rfl, rfl⟩ rfl (weak_ret (fun z => z) rfl rfl wH rfl)
theorem numAt_9 {p : ScPlan} {a b c : Bool} {n : Nat} {K : AH} {s2 : Nat} (hb : Nat.blt n s2 = true) (hK : K n = some (.box (planL p a b c))) :
    HSem C0.P C0.G 45 [.ptr n 0, vI 9] K s2 (fun x h' => x = .v (.pointer none) ∧ h' = upd K n (some (.box (planL p a b c)))) :=
  (hNum_9 p a b c).frame1 n K s2 (Nat.le_of_ble_eq_true hb) rfl hK rfl
theorem hNum_10 (p : ScPlan) (a b c : Bool) : HSem C0.P C0.G 45 [.ptr 0 0, vI 10] (heapF [(0, .box (planL p a b c))]) 1 (fun x h' => x = .v (.pointer none) ∧ h' = heapF [(0, .box (planL p a b c))]) := by
  refine HCall.intro (C := C0) (s := 1) c0Ok.at Tryd.func45 rfl rfl (by kernel_rfl) rfl rfl <| cSeq <| cReg rfl <| oR 1 rfl <| rE 2 <| cSeq <| cSeq <| cReg rfl <| oR 1 rfl <| rCl rfl (.inl rfl) (dName_10) <| rE 4 <| cBlock <| cSeq <| cReg rfl <| rOk (x := vB false) rfl rfl (okBo ((eq_tL [116, 97, 112, 101] [119, 105, 100, 116, 104]).trans (by decide))) <| oR 1 rfl ?_
  refine rE 6 ?_
  refine cCond rfl (fun h => by cases h) (fun _ => ?_)
  refine cSeq <| cReg rfl <| rOk (x := vB false) rfl rfl (okBo ((eq_tL [116, 97, 112, 101] [114, 111, 98]).trans (by decide))) <| oR 1 rfl <| rE 8 ?_
  refine cCond rfl (fun h => by cases h) (fun _ => ?_)
  refine cSeq <| cReg rfl <| rOk (x := vB false) rfl rfl (okBo ((eq_tL [116, 97, 112, 101] [113, 117, 101, 117, 101]).trans (by decide))) <| oR 1 rfl <| rE 10 ?_
  refine cCond rfl (fun h => by cases h) (fun _ => ?_)
  refine cSeq <| cReg rfl <| rOk (x := vB false) rfl rfl (okBo ((eq_tL [116, 97, 112, 101] [115, 116, 111, 114, 101, 115]).trans (by decide))) <| oR 1 rfl <| rE 12 ?_
  refine cCond rfl (fun h => by cases h) (fun _ => ?_)
  refine cSeq <| cReg rfl <| rOk (x := vB false) rfl rfl (okBo ((eq_tL [116, 97, 112, 101] [115, 108, 111, 116, 115]).trans (by decide))) <| oR 1 rfl <| rE 14 ?_
  refine cCond rfl (fun h => by cases h) (fun _ => ?_)
  refine cSeq <| cReg rfl <| rOk (x := vB false) rfl rfl (okBo ((eq_tL [116, 97, 112, 101] [115, 101, 116, 115]).trans (by decide))) <| oR 1 rfl <| rE 16 ?_
  refine cCond rfl (fun h => by cases h) (fun _ => ?_)
  refine cSeq <| cReg rfl <| rOk (x := vB false) rfl rfl (okBo ((eq_tL [116, 97, 112, 101] [119, 97, 121, 115]).trans (by decide))) <| oR 1 rfl <| rE 18 ?_
  refine cCond rfl (fun h => by cases h) (fun _ => ?_)
  refine cSeq <| cReg rfl <| rOk (x := vB false) rfl rfl (okBo ((eq_tL [116, 97, 112, 101] [99, 121, 99, 108, 101, 115]).trans (by decide))) <| oR 1 rfl <| rE 20 ?_
  refine cCond rfl (fun h => by cases h) (fun _ => ?_)
  refine cSkip <| cSeq <| cReg rfl <| oR 1 rfl <| rE 21 <| cRet ?_
  exact finH (rs := [.v (.pointer none)]) rfl (r := .v (.pointer none)) (σ := fun z => z) ⟨rfl, rfl⟩ rfl (weak_ret (fun z => z) rfl rfl wH rfl)
theorem numAt_10 {p : ScPlan} {a b c : Bool} {n : Nat} {K : AH} {s2 : Nat} (hb : Nat.blt n s2 = true) (hK : K n = some (.box (planL p a b c))) :
    HSem C0.P C0.G 45 [.ptr n 0, vI 10] K s2 (fun x h' => x = .v (.pointer none) ∧ h' = upd K n (some (.box (planL p a b c)))) :=
  (hNum_10 p a b c).frame1 n K s2 (Nat.le_of_ble_eq_true hb) rfl hK rfl
theorem hNum_11 (p : ScPlan) (a b c : Bool) : HSem C0.P C0.G 45 [.ptr 0 0, vI 11] (heapF [(0, .box (planL p a b c))]) 1 (fun x h' => x = .v (.pointer none) ∧ h' = heapF [(0, .box (planL p a b c))]) := by
  refine HCall.intro (C := C0) (s := 1) c0Ok.at Tryd.func45 rfl rfl (by kernel_rfl) rfl rfl <| cSeq <| cReg rfl <| oR 1 rfl <| rE 2 <| cSeq <| cSeq <| cReg rfl <| oR 1 rfl <| rCl rfl (.inl rfl) (dName_11) <| rE 4 <| cBlock <| cSeq <| cReg rfl <| rOk (x := vB false) rfl rfl (okBo ((eq_tL [112, 114, 111, 103] [119, 105, 100, 116, 104]).trans (by decide))) <| oR 1 rfl ?_
  refine rE 6 ?_
  refine cCond rfl (fun h => by cases h) (fun _ => ?_)
  refine cSeq <| cReg rfl <| rOk (x := vB false) rfl rfl (okBo ((eq_tL [112, 114, 111, 103] [114, 111, 98]).trans (by decide))) <| oR 1 rfl <| rE 8 ?_
  refine cCond rfl (fun h => by cases h) (fun _ => ?_)
  refine cSeq <| cReg rfl <| rOk (x := vB false) rfl rfl (okBo ((eq_tL [112, 114, 111, 103] [113, 117, 101, 117, 101]).trans (by decide))) <| oR 1 rfl <| rE 10 ?_
  refine cCond rfl (fun h => by cases h) (fun _ => ?_)
  refine cSeq <| cReg rfl <| rOk (x := vB false) rfl rfl (okBo ((eq_tL [112, 114, 111, 103] [115, 116, 111, 114, 101, 115]).trans (by decide))) <| oR 1 rfl <| rE 12 ?_
  refine cCond rfl (fun h => by cases h) (fun _ => ?_)
  refine cSeq <| cReg rfl <| rOk (x := vB false) rfl rfl (okBo ((eq_tL [112, 114, 111, 103] [115, 108, 111, 116, 115]).trans (by decide))) <| oR 1 rfl <| rE 14 ?_
  refine cCond rfl (fun h => by cases h) (fun _ => ?_)
  refine cSeq <| cReg rfl <| rOk (x := vB false) rfl rfl (okBo ((eq_tL [112, 114, 111, 103] [115, 101, 116, 115]).trans (by decide))) <| oR 1 rfl <| rE 16 ?_
  refine cCond rfl (fun h => by cases h) (fun _ => ?_)
  refine cSeq <| cReg rfl <| rOk (x := vB false) rfl rfl (okBo ((eq_tL [112, 114, 111, 103] [119, 97, 121, 115]).trans (by decide))) <| oR 1 rfl <| rE 18 ?_
  refine cCond rfl (fun h => by cases h) (fun _ => ?_)
  refine cSeq <| cReg rfl <| rOk (x := vB false) rfl rfl (okBo ((eq_tL [112, 114, 111, 103] [99, 121, 99, 108, 101, 115]).trans (by decide))) <| oR 1 rfl <| rE 20 ?_
  refine cCond rfl (fun h => by cases h) (fun _ => ?_)
  refine cSkip <| cSeq <| cReg rfl <| oR 1 rfl <| rE 21 <| cRet ?_
  exact finH (rs := [.v (.pointer none)]) rfl (r := .v (.pointer none)) (σ := fun z => z) ⟨rfl, rfl⟩ rfl (weak_ret (fun z => z) rfl rfl wH rfl)
theorem numAt_11 {p : ScPlan} {a b c : Bool} {n : Nat} {K : AH} {s2 : Nat} (hb : Nat.blt n s2 = true) (hK : K n = some (.box (planL p a b c))) :
    HSem C0.P C0.G 45 [.ptr n 0, vI 11] K s2 (fun x h' => x = .v (.pointer none) ∧ h' = upd K n (some (.box (planL p a b c)))) :=
  (hNum_11 p a b c).frame1 n K s2 (Nat.le_of_ble_eq_true hb) rfl hK rfl
theorem hNum_12 (p : ScPlan) (a b c : Bool) : HSem C0.P C0.G 45 [.ptr 0 0, vI 12] (heapF [(0, .box (planL p a b c))]) 1 (fun x h' => x = .v (.pointer none) ∧ h' = heapF [(0, .box (planL p a b c))]) := by
  refine HCall.intro (C := C0) (s := 1) c0Ok.at Tryd.func45 rfl rfl (by kernel_rfl) rfl rfl <| cSeq <| cReg rfl <| oR 1 rfl <| rE 2 <| cSeq <| cSeq <| cReg rfl <| oR 1 rfl <| rCl rfl (.inl rfl) (dName_12) <| rE 4 <| cBlock <| cSeq <| cReg rfl <| rOk (x := vB false) rfl rfl (okBo ((eq_tL [109, 101, 109] [119, 105, 100, 116, 104]).trans (by decide))) <| oR 1 rfl ?_
  refine rE 6 ?_
  refine cCond rfl (fun h => by cases h) (fun _ => ?_)
  refine cSeq <| cReg rfl <| rOk (x := vB false) rfl rfl (okBo ((eq_tL [109, 101, 109] [114, 111, 98]).trans (by decide))) <| oR 1 rfl <| rE 8 ?_
  refine cCond rfl (fun h => by cases h) (fun _ => ?_)
  refine cSeq <| cReg rfl <| rOk (x := vB false) rfl rfl (okBo ((eq_tL [109, 101, 109] [113, 117, 101, 117, 101]).trans (by decide))) <| oR 1 rfl <| rE 10 ?_
  refine cCond rfl (fun h => by cases h) (fun _ => ?_)
  refine cSeq <| cReg rfl <| rOk (x := vB false) rfl rfl (okBo ((eq_tL [109, 101, 109] [115, 116, 111, 114, 101, 115]).trans (by decide))) <| oR 1 rfl <| rE 12 ?_
  refine cCond rfl (fun h => by cases h) (fun _ => ?_)
  refine cSeq <| cReg rfl <| rOk (x := vB false) rfl rfl (okBo ((eq_tL [109, 101, 109] [115, 108, 111, 116, 115]).trans (by decide))) <| oR 1 rfl <| rE 14 ?_
  refine cCond rfl (fun h => by cases h) (fun _ => ?_)
  refine cSeq <| cReg rfl <| rOk (x := vB false) rfl rfl (okBo ((eq_tL [109, 101, 109] [115, 101, 116, 115]).trans (by decide))) <| oR 1 rfl <| rE 16 ?_
  refine cCond rfl (fun h => by cases h) (fun _ => ?_)
  refine cSeq <| cReg rfl <| rOk (x := vB false) rfl rfl (okBo ((eq_tL [109, 101, 109] [119, 97, 121, 115]).trans (by decide))) <| oR 1 rfl <| rE 18 ?_
  refine cCond rfl (fun h => by cases h) (fun _ => ?_)
  refine cSeq <| cReg rfl <| rOk (x := vB false) rfl rfl (okBo ((eq_tL [109, 101, 109] [99, 121, 99, 108, 101, 115]).trans (by decide))) <| oR 1 rfl <| rE 20 ?_
  refine cCond rfl (fun h => by cases h) (fun _ => ?_)
  refine cSkip <| cSeq <| cReg rfl <| oR 1 rfl <| rE 21 <| cRet ?_
  exact finH (rs := [.v (.pointer none)]) rfl (r := .v (.pointer none)) (σ := fun z => z) ⟨rfl, rfl⟩ rfl (weak_ret (fun z => z) rfl rfl wH rfl)
theorem numAt_12 {p : ScPlan} {a b c : Bool} {n : Nat} {K : AH} {s2 : Nat} (hb : Nat.blt n s2 = true) (hK : K n = some (.box (planL p a b c))) :
    HSem C0.P C0.G 45 [.ptr n 0, vI 12] K s2 (fun x h' => x = .v (.pointer none) ∧ h' = upd K n (some (.box (planL p a b c)))) :=
  (hNum_12 p a b c).frame1 n K s2 (Nat.le_of_ble_eq_true hb) rfl hK rfl
theorem hNum_13 (p : ScPlan) (a b c : Bool) : HSem C0.P C0.G 45 [.ptr 0 0, vI 13] (heapF [(0, .box (planL p a b c))]) 1 (fun x h' => x = .ptr 0 13 ∧ h' = heapF [(0, .box (planL p a b c))]) := by
  refine HCall.intro (C := C0) (s := 1) c0Ok.at Tryd.func45 rfl rfl (by kernel_rfl) rfl rfl <| cSeq <| cReg rfl <| oR 1 rfl <| rE 2 <| cSeq <| cSeq <| cReg rfl <| oR 1 rfl <| rCl rfl (.inl rfl) (dName_13) <| rE 4 <| cBlock <| cSeq <| cReg rfl <| rOk (x := vB false) rfl rfl (okBo ((eq_tL [99, 121, 99, 108, 101, 115] [119, 105, 100, 116, 104]).trans (by decide))) <| oR 1 rfl ?_
  refine rE 6 ?_
  refine cCond rfl (fun h => by cases h) (fun _ => ?_)
  refine cSeq <| cReg rfl <| rOk (x := vB false) rfl rfl (okBo ((eq_tL [99, 121, 99, 108, 101, 115] [114, 111, 98]).trans (by decide))) <| oR 1 rfl <| rE 8 ?_
  refine cCond rfl (fun h => by cases h) (fun _ => ?_)
  refine cSeq <| cReg rfl <| rOk (x := vB false) rfl rfl (okBo ((eq_tL [99, 121, 99, 108, 101, 115] [113, 117, 101, 117, 101]).trans (by decide))) <| oR 1 rfl <| rE 10 ?_
  refine cCond rfl (fun h => by cases h) (fun _ => ?_)
  refine cSeq <| cReg rfl <| rOk (x := vB false) rfl rfl (okBo ((eq_tL [99, 121, 99, 108, 101, 115] [115, 116, 111, 114, 101, 115]).trans (by decide))) <| oR 1 rfl <| rE 12 ?_
  refine cCond rfl (fun h => by cases h) (fun _ => ?_)
  refine cSeq <| cReg rfl <| rOk (x := vB false) rfl rfl (okBo ((eq_tL [99, 121, 99, 108, 101, 115] [115, 108, 111, 116, 115]).trans (by decide))) <| oR 1 rfl <| rE 14 ?_
  refine cCond rfl (fun h => by cases h) (fun _ => ?_)
  refine cSeq <| cReg rfl <| rOk (x := vB false) rfl rfl (okBo ((eq_tL [99, 121, 99, 108, 101, 115] [115, 101, 116, 115]).trans (by decide))) <| oR 1 rfl <| rE 16 ?_
  refine cCond rfl (fun h => by cases h) (fun _ => ?_)
  refine cSeq <| cReg rfl <| rOk (x := vB false) rfl rfl (okBo ((eq_tL [99, 121, 99, 108, 101, 115] [119, 97, 121, 115]).trans (by decide))) <| oR 1 rfl <| rE 18 ?_
  refine cCond rfl (fun h => by cases h) (fun _ => ?_)
  refine cSeq <| cReg rfl <| rOk (x := vB true) rfl rfl (okBo ((eq_tL [99, 121, 99, 108, 101, 115] [99, 121, 99, 108, 101, 115]).trans (by decide))) <| oR 1 rfl <| rE 20 ?_
  refine cCond rfl (fun _ => ?_) (fun h => by cases h)
  refine cSeq <| cReg rfl <| oR 4 rfl <| rE 24 <| cRet ?_
  exact finH (rs := [.ptr 0 13]) rfl (r := .ptr 0 13) (σ := fun z => z) ⟨rfl, rfl⟩ rfl (weak_ret (fun z => z) rfl rfl wH rfl)
theorem numAt_13 {p : ScPlan} {a b c : Bool} {n : Nat} {K : AH} {s2 : Nat} (hb : Nat.blt n s2 = true) (hK : K n = some (.box (planL p a b c))) :
    HSem C0.P C0.G 45 [.ptr n 0, vI 13] K s2 (fun x h' => x = .ptr n 13 ∧ h' = upd K n (some (.box (planL p a b c)))) :=
  (hNum_13 p a b c).frame1 n K s2 (Nat.le_of_ble_eq_true hb) rfl hK rfl
theorem dPartsI2 (t : List W) (ck : Bool) (ht : t.length ≤ 900000) (hw : ∀ x ∈ t, x.length ≤ 900000) : DCall C0 41 [.sl 1 (t.map rowS) ck, .clo 42 [] []] (.tup [.sl 1 (((partsL readD t).getD []).map rowI) ((partsL readD t).getD []).isEmpty, vB (partsL readD t).isSome]) := by
  have h := dPartsI t ck ht hw
  cases hr : partsL readD t with
  | none => rw [hr] at h; exact h
  | some n => rw [hr] at h; exact h
theorem dPartsU2 (hB : HexIx) (t : List W) (ck : Bool) (ht : t.length ≤ 900000) (hw : ∀ x ∈ t, x.length ≤ 900000) : DCall C0 43 [.sl 1 (t.map rowS) ck, .clo 44 [] []] (.tup [.sl 1 (((partsL readC t).getD []).map rowU) ((partsL readC t).getD []).isEmpty, vB (partsL readC t).isSome]) := by
  have h := dPartsU hB t ck ht hw
  cases hr : partsL readC t with
  | none => rw [hr] at h; exact h
  | some n => rw [hr] at h; exact h
def ReadP (p : ScPlan) (t : List W) (k : Nat) (x : AV) (h' : AH) : Prop :=
  (∃ q, readM p t k = some q ∧ x = vB true ∧ h' = heapF [(0, .box (planF q (k + 1)))]) ∨ (readM p t k = none ∧ x = vB false ∧ ∃ q a b c, h' = heapF [(0, .box (planL q a b c))])
theorem one_no {α : Type} {rd : W → Option α} {t : List W} (h : ¬ t.length = 1) : oneL rd t = none := by
  match t, h with
  | [], _ => rfl
  | [_], h => exact absurd rfl h
  | _ :: _ :: _, _ => rfl
theorem one_len1 {t : List W} {x : W} (h : t.length = 1) (hx : t[0]? = some x) : t = [x] := by
  match t, h with
  | [y], _ => rw [show y = x from Option.some.inj hx]
theorem readO_none {x : W} (h : ∀ j : Nat, j < 3 → ¬ x = modeW j) : readO x = none := by
  unfold readO
  rw [if_neg (show ¬ x = offW from h 0 (by omega)), if_neg (show ¬ x = taintW from h 1 (by omega)), if_neg (show ¬ x = strictW from h 2 (by omega))]
theorem readO_some {x : W} {j : Nat} (hj : j < 3) (h : x = modeW j) : readO x = some (j : Int) := by
  subst h
  have : j = 0 ∨ j = 1 ∨ j = 2 := by omega
  rcases this with rfl | rfl | rfl <;> decide
theorem readT_ok (x : W) : cond2 (decide (x = tablesW)) true (decide (x = tapeW)) = (readT x).isSome ∧ ∀ v, readT x = some v → v = decide (x = tablesW) := by
  unfold readT
  by_cases h1 : x = tablesW
  · rw [if_pos h1, decide_eq_true h1]; exact ⟨rfl, fun v hv => (Option.some.inj hv).symm⟩
  · rw [if_neg h1, decide_eq_false h1]
    by_cases h2 : x = tapeW
    · rw [if_pos h2, decide_eq_true h2]; exact ⟨rfl, fun v hv => (Option.some.inj hv).symm⟩
    · rw [if_neg h2, decide_eq_false h2]; exact ⟨rfl, fun v hv => by cases hv⟩
theorem hRead_0 (hB : HexIx) (p : ScPlan) (t : List W) (ck : Bool) (ht : t.length ≤ 900000) (hw : ∀ x ∈ t, x.length ≤ 900000) : HSem C0.P C0.G 24 [.ptr 0 0, vI 0, .sl 1 (t.map rowS) ck] (heapF [(0, .box (planF p 0))]) 1 (ReadP p t 0) := by
  refine HCall.intro (C := C0) (s := 1) c0Ok.at Tryd.func24 rfl rfl (by kernel_rfl) rfl rfl <| cSeq <| cReg rfl <| oR 1 rfl <| rE 2 <| cSeq <| cReg rfl <| oR 1 rfl <| rE 3 <| cSeq <| cSeq <| cReg rfl <| oR 1 rfl <| rCl rfl (.inl rfl) (dName_0) <| rE 5 <| cBlock ?_
  refine cSeq <| cReg rfl <| rOk (x := vB false) rfl rfl (okBo ((eq_tL [109, 111, 100, 101] [108, 97, 116]).trans (by decide))) <| oR 1 rfl <| rE 7 ?_
  refine cCond rfl (fun h => by cases h) (fun _ => ?_)
  refine cSeq <| cReg rfl <| rOk (x := vB false) rfl rfl (okBo ((eq_tL [109, 111, 100, 101] [116, 97, 112, 101]).trans (by decide))) <| oR 1 rfl <| rE 9 ?_
  refine cCond rfl (fun h => by cases h) (fun _ => ?_)
  refine cSeq <| cReg rfl <| rOk (x := vB false) rfl rfl (okBo ((eq_tL [109, 111, 100, 101] [112, 114, 111, 103]).trans (by decide))) <| oR 1 rfl <| rE 11 ?_
  refine cCond rfl (fun h => by cases h) (fun _ => ?_)
  refine cSkip <| cSeq <| cSeq <| cReg rfl <| oR 1 rfl <| rOk (x := vN t.length) rfl rfl (lenMap rowS t) <| rOk (x := vB (t.length != 1)) rfl rfl (okB (neN _ _)) <| rE 14 ?_
  refine cCond rfl (fun h1 => ?_) (fun h1 => ?_)
  · have h1p := bne_t h1
    refine cSeq <| cReg rfl <| oR 1 rfl <| rE 15 <| cRet ?_
    exact finH (rs := [vB false]) rfl (r := vB false) (h' := heapF [(0, .box (planL p (fl 9 0 p.lat) (fl 10 0 p.tape) (fl 11 0 p.prog)))]) (σ := fun z => z) (.inr ⟨by show (oneL readO t).map _ = none; rw [one_no (by simpa using h1)]; rfl, rfl, _, _, _, _, rfl⟩) rfl (weak_ret (fun z => z) rfl rfl wH rfl)
  · have h1p := bne_f h1
    refine cSkip <| cSeq <| cReg rfl <| oR 1 rfl ?_
    obtain ⟨x1, hx1⟩ : ∃ y_, t[0]? = some y_ := ⟨_, List.getElem?_eq_getElem omT⟩
    have hx1o := hw x1 (List.mem_of_getElem? hx1)
    refine rIdx (rowS x1) (x := .dp 1 0 (rowS x1)) rfl rfl rfl (⟨by decide, getM hx1⟩) rfl <| oR 2 rfl <| rE 18 <| cSeq <| cSeq <| cReg rfl <| oR 2 rfl <| rHCall (args := [.ptr 0 0, vN 0]) (d := 56) _ rfl rfl rfl (numAt_0 (by decide) rfl) ?_
    rintro _ _ ⟨rfl, rfl⟩
    refine oR 1 rfl <| rE 22 <| cSeq <| cReg rfl <| oR 1 rfl <| rOk (x := vB false) rfl rfl rfl <| rE 24 ?_
    refine cCond rfl (fun h => by cases h) (fun _ => ?_)
    refine cSkip <| cSeq <| cSeq <| cReg rfl <| oR 1 rfl <| rCl rfl (.inl rfl) (dName_0) <| rE 26 <| cBlock <| cSeq <| cReg rfl <| rOk (x := vB true) rfl rfl (okBo ((eq_tL [109, 111, 100, 101] [109, 111, 100, 101]).trans (by decide))) <| oR 1 rfl <| rE 28 ?_
    refine cCond rfl (fun _ => ?_) (fun h => by cases h)
    refine cSeq <| cReg rfl <| oR 1 rfl <| rE 29 <| cBlock <| cLoopK (κ := Nat) (fun j => ⟨slotsF [(0, .ptr 0 0), (7, vB false), (13, vB false), (25, vB false), (37, vB false), (50, vB (t.length != 1)), (8, vS x1), (58, vB false), (68, .v (.string (⟨#[109, 111, 100, 101]⟩ : ByteArray))), (69, vB true), (10, vN j)], heapF [(0, .box [vI p.mode, vI p.width, vI p.rob, vI p.queue, vI p.stores, vI p.slots, vI p.sets, vI p.ways, .sl 1 (p.lat.map rowI) (fl 9 0 p.lat), vB p.tables, .sl 1 (p.tape.map rowU) (fl 10 0 p.tape), .sl 1 (p.prog.map rowU) (fl 11 0 p.prog), vS p.mem, vI p.cycles])], 29⟩) (fun j => j ≤ 3 ∧ ∀ i : Nat, i < j → ¬ x1 = modeW i) (fun j => 3 - j) 0 (fun s => s) (Weak.of_lists (fun s => s) wT wH rfl) rfl (⟨Nat.zero_le _, (fun i h => absurd h (Nat.not_lt_zero _))⟩) ?_
    intro j hj
    have hjn : j ≤ 3 := hj.1
    have hjB : j ≤ 3 := by omega
    refine cSeq <| cSeq <| cReg rfl <| oR 1 rfl <| rOk (x := vB (decide (j ≤ 2))) rfl rfl (okB (leN _ _)) <| rE 31 ?_
    refine cCond rfl (fun h2 => ?_) (fun h2 => ?_)
    · have h2p := of_decide_eq_true h2
      refine cSkip <| cSeq <| cBlock <| cSeq <| cReg rfl <| oR 2 rfl <| rCl rfl (.inl rfl) (dMode (j : Int) ⟨by omega, by omega⟩) <| rOk (x := vB (decide (x1 = modeW (j : Int)))) rfl rfl (okBo (eq_tL x1 (modeW (j : Int)))) <| rE 35 ?_
      refine cCond rfl (fun h3 => ?_) (fun h3 => ?_)
      · have h3p := of_decide_eq_true h3
        refine cSeq <| cReg rfl <| oR 5 rfl <| rSt rfl <| rE 41 <| cSeq <| cReg rfl <| oR 1 rfl <| rE 42 <| cRet ?_
        obtain rfl := one_len1 (by simpa using h1) hx1
        have hr := readO_some (j := j) (by omega) (by simpa using h3)
        exact finH (rs := [vB true]) rfl (r := vB true) (h' := heapF [(0, .box (planL ({ p with mode := (j : Int) }) (fl 9 1 p.lat) (fl 10 1 p.tape) (fl 11 1 p.prog)))]) (σ := fun z => z) (.inl ⟨{ p with mode := (j : Int) }, by show (readO x1).map _ = _; rw [hr]; rfl, rfl, rfl⟩) rfl (weak_ret (fun z => z) rfl rfl wH rfl)
      · have h3p := of_decide_eq_false h3
        refine cSkip <| cReg rfl <| oR 1 rfl ?_
        have b1 : j + 1 ≤ 4 := Nat.add_le_add hjB (Nat.le_refl 1)
        refine rOk (x := vN (j + 1)) rfl rfl (okI (wrapI64 b1 rfl)) <| oR 1 rfl <| rE 38 ?_
        refine .mk _ (.refl _) ⟨j + 1, fun s => s, Weak.of_lists (fun s => s) wT wH rfl, rfl, ⟨by omega, (fun i hi => by rcases Nat.lt_or_ge i j with q | q; exact hj.2 i q; obtain rfl : i = j := (by omega); simpa using h3)⟩, by show 3 - (j + 1) < 3 - j; omega⟩
    · have h2p := of_decide_eq_false h2
      refine cExit <| cSeq <| cReg rfl <| oR 2 rfl <| rE 33 <| cRet ?_
      obtain rfl := one_len1 (by simpa using h1) hx1
      have hr := readO_none (x := x1) (fun i hi => hj.2 i (by have := of_decide_eq_false h2; omega))
      exact finH (rs := [vB false]) rfl (r := vB false) (h' := heapF [(0, .box (planL p (fl 9 0 p.lat) (fl 10 0 p.tape) (fl 11 0 p.prog)))]) (σ := fun z => z) (.inr ⟨by show (readO x1).map _ = none; rw [hr]; rfl, rfl, _, _, _, _, rfl⟩) rfl (weak_ret (fun z => z) rfl rfl wH rfl)
theorem hRead_1 (hB : HexIx) (p : ScPlan) (t : List W) (ck : Bool) (ht : t.length ≤ 900000) (hw : ∀ x ∈ t, x.length ≤ 900000) : HSem C0.P C0.G 24 [.ptr 0 0, vI 1, .sl 1 (t.map rowS) ck] (heapF [(0, .box (planF p 1))]) 1 (ReadP p t 1) := by
  refine HCall.intro (C := C0) (s := 1) c0Ok.at Tryd.func24 rfl rfl (by kernel_rfl) rfl rfl <| cSeq <| cReg rfl <| oR 1 rfl <| rE 2 <| cSeq <| cReg rfl <| oR 1 rfl <| rE 3 <| cSeq <| cSeq <| cReg rfl <| oR 1 rfl <| rCl rfl (.inl rfl) (dName_1) <| rE 5 <| cBlock ?_
  refine cSeq <| cReg rfl <| rOk (x := vB false) rfl rfl (okBo ((eq_tL [119, 105, 100, 116, 104] [108, 97, 116]).trans (by decide))) <| oR 1 rfl <| rE 7 ?_
  refine cCond rfl (fun h => by cases h) (fun _ => ?_)
  refine cSeq <| cReg rfl <| rOk (x := vB false) rfl rfl (okBo ((eq_tL [119, 105, 100, 116, 104] [116, 97, 112, 101]).trans (by decide))) <| oR 1 rfl <| rE 9 ?_
  refine cCond rfl (fun h => by cases h) (fun _ => ?_)
  refine cSeq <| cReg rfl <| rOk (x := vB false) rfl rfl (okBo ((eq_tL [119, 105, 100, 116, 104] [112, 114, 111, 103]).trans (by decide))) <| oR 1 rfl <| rE 11 ?_
  refine cCond rfl (fun h => by cases h) (fun _ => ?_)
  refine cSkip <| cSeq <| cSeq <| cReg rfl <| oR 1 rfl <| rOk (x := vN t.length) rfl rfl (lenMap rowS t) <| rOk (x := vB (t.length != 1)) rfl rfl (okB (neN _ _)) <| rE 14 ?_
  refine cCond rfl (fun h1 => ?_) (fun h1 => ?_)
  · have h1p := bne_t h1
    refine cSeq <| cReg rfl <| oR 1 rfl <| rE 15 <| cRet ?_
    exact finH (rs := [vB false]) rfl (r := vB false) (h' := heapF [(0, .box (planL p (fl 9 1 p.lat) (fl 10 1 p.tape) (fl 11 1 p.prog)))]) (σ := fun z => z) (.inr ⟨by show (oneL readD t).map _ = none; rw [one_no (by simpa using h1)]; rfl, rfl, _, _, _, _, rfl⟩) rfl (weak_ret (fun z => z) rfl rfl wH rfl)
  · have h1p := bne_f h1
    refine cSkip <| cSeq <| cReg rfl <| oR 1 rfl ?_
    obtain ⟨x1, hx1⟩ : ∃ y_, t[0]? = some y_ := ⟨_, List.getElem?_eq_getElem omT⟩
    have hx1o := hw x1 (List.mem_of_getElem? hx1)
    refine rIdx (rowS x1) (x := .dp 1 0 (rowS x1)) rfl rfl rfl (⟨by decide, getM hx1⟩) rfl <| oR 2 rfl <| rE 18 <| cSeq <| cSeq <| cReg rfl <| oR 2 rfl <| rHCall (args := [.ptr 0 0, vN 1]) (d := 56) _ rfl rfl rfl (numAt_1 (by decide) rfl) ?_
    rintro _ _ ⟨rfl, rfl⟩
    refine oR 1 rfl <| rE 22 <| cSeq <| cReg rfl <| oR 1 rfl <| rOk (x := vB true) rfl rfl rfl <| rE 24 ?_
    refine cCond rfl (fun _ => ?_) (fun h => by cases h)
    refine cSeq <| cReg rfl <| oR 2 rfl <| rCl rfl (.inl rfl) (dDecimal2 x1 hx1o) <| oR 4 rfl <| rSt rfl <| oR 1 rfl <| rE 33 <| cSeq <| cReg rfl <| oR 2 rfl <| rE 35 <| cRet ?_
    obtain rfl := one_len1 (by simpa using h1) hx1
    rcases hr : readD x1 with _ | v
    · exact finH (rs := [vB false]) rfl (r := vB false) (h' := heapF [(0, .box (planL ({ p with width := 0 }) (fl 9 1 p.lat) (fl 10 1 p.tape) (fl 11 1 p.prog)))]) (σ := fun z => z) (.inr ⟨by show (readD x1).map _ = none; rw [hr]; rfl, rfl, _, _, _, _, rfl⟩) rfl (weak_ret (fun z => z) rfl rfl wH rfl)
    · exact finH (rs := [vB true]) rfl (r := vB true) (h' := heapF [(0, .box (planL ({ p with width := v }) (fl 9 2 p.lat) (fl 10 2 p.tape) (fl 11 2 p.prog)))]) (σ := fun z => z) (.inl ⟨{ p with width := v }, by show (readD x1).map _ = _; rw [hr]; rfl, rfl, rfl⟩) rfl (weak_ret (fun z => z) rfl rfl wH rfl)
theorem hRead_2 (hB : HexIx) (p : ScPlan) (t : List W) (ck : Bool) (ht : t.length ≤ 900000) (hw : ∀ x ∈ t, x.length ≤ 900000) : HSem C0.P C0.G 24 [.ptr 0 0, vI 2, .sl 1 (t.map rowS) ck] (heapF [(0, .box (planF p 2))]) 1 (ReadP p t 2) := by
  refine HCall.intro (C := C0) (s := 1) c0Ok.at Tryd.func24 rfl rfl (by kernel_rfl) rfl rfl <| cSeq <| cReg rfl <| oR 1 rfl <| rE 2 <| cSeq <| cReg rfl <| oR 1 rfl <| rE 3 <| cSeq <| cSeq <| cReg rfl <| oR 1 rfl <| rCl rfl (.inl rfl) (dName_2) <| rE 5 <| cBlock ?_
  refine cSeq <| cReg rfl <| rOk (x := vB false) rfl rfl (okBo ((eq_tL [114, 111, 98] [108, 97, 116]).trans (by decide))) <| oR 1 rfl <| rE 7 ?_
  refine cCond rfl (fun h => by cases h) (fun _ => ?_)
  refine cSeq <| cReg rfl <| rOk (x := vB false) rfl rfl (okBo ((eq_tL [114, 111, 98] [116, 97, 112, 101]).trans (by decide))) <| oR 1 rfl <| rE 9 ?_
  refine cCond rfl (fun h => by cases h) (fun _ => ?_)
  refine cSeq <| cReg rfl <| rOk (x := vB false) rfl rfl (okBo ((eq_tL [114, 111, 98] [112, 114, 111, 103]).trans (by decide))) <| oR 1 rfl <| rE 11 ?_
  refine cCond rfl (fun h => by cases h) (fun _ => ?_)
  refine cSkip <| cSeq <| cSeq <| cReg rfl <| oR 1 rfl <| rOk (x := vN t.length) rfl rfl (lenMap rowS t) <| rOk (x := vB (t.length != 1)) rfl rfl (okB (neN _ _)) <| rE 14 ?_
  refine cCond rfl (fun h1 => ?_) (fun h1 => ?_)
  · have h1p := bne_t h1
    refine cSeq <| cReg rfl <| oR 1 rfl <| rE 15 <| cRet ?_
    exact finH (rs := [vB false]) rfl (r := vB false) (h' := heapF [(0, .box (planL p (fl 9 2 p.lat) (fl 10 2 p.tape) (fl 11 2 p.prog)))]) (σ := fun z => z) (.inr ⟨by show (oneL readD t).map _ = none; rw [one_no (by simpa using h1)]; rfl, rfl, _, _, _, _, rfl⟩) rfl (weak_ret (fun z => z) rfl rfl wH rfl)
  · have h1p := bne_f h1
    refine cSkip <| cSeq <| cReg rfl <| oR 1 rfl ?_
    obtain ⟨x1, hx1⟩ : ∃ y_, t[0]? = some y_ := ⟨_, List.getElem?_eq_getElem omT⟩
    have hx1o := hw x1 (List.mem_of_getElem? hx1)
    refine rIdx (rowS x1) (x := .dp 1 0 (rowS x1)) rfl rfl rfl (⟨by decide, getM hx1⟩) rfl <| oR 2 rfl <| rE 18 <| cSeq <| cSeq <| cReg rfl <| oR 2 rfl <| rHCall (args := [.ptr 0 0, vN 2]) (d := 56) _ rfl rfl rfl (numAt_2 (by decide) rfl) ?_
    rintro _ _ ⟨rfl, rfl⟩
    refine oR 1 rfl <| rE 22 <| cSeq <| cReg rfl <| oR 1 rfl <| rOk (x := vB true) rfl rfl rfl <| rE 24 ?_
    refine cCond rfl (fun _ => ?_) (fun h => by cases h)
    refine cSeq <| cReg rfl <| oR 2 rfl <| rCl rfl (.inl rfl) (dDecimal2 x1 hx1o) <| oR 4 rfl <| rSt rfl <| oR 1 rfl <| rE 33 <| cSeq <| cReg rfl <| oR 2 rfl <| rE 35 <| cRet ?_
    obtain rfl := one_len1 (by simpa using h1) hx1
    rcases hr : readD x1 with _ | v
    · exact finH (rs := [vB false]) rfl (r := vB false) (h' := heapF [(0, .box (planL ({ p with rob := 0 }) (fl 9 2 p.lat) (fl 10 2 p.tape) (fl 11 2 p.prog)))]) (σ := fun z => z) (.inr ⟨by show (readD x1).map _ = none; rw [hr]; rfl, rfl, _, _, _, _, rfl⟩) rfl (weak_ret (fun z => z) rfl rfl wH rfl)
    · exact finH (rs := [vB true]) rfl (r := vB true) (h' := heapF [(0, .box (planL ({ p with rob := v }) (fl 9 3 p.lat) (fl 10 3 p.tape) (fl 11 3 p.prog)))]) (σ := fun z => z) (.inl ⟨{ p with rob := v }, by show (readD x1).map _ = _; rw [hr]; rfl, rfl, rfl⟩) rfl (weak_ret (fun z => z) rfl rfl wH rfl)
theorem hRead_3 (hB : HexIx) (p : ScPlan) (t : List W) (ck : Bool) (ht : t.length ≤ 900000) (hw : ∀ x ∈ t, x.length ≤ 900000) : HSem C0.P C0.G 24 [.ptr 0 0, vI 3, .sl 1 (t.map rowS) ck] (heapF [(0, .box (planF p 3))]) 1 (ReadP p t 3) := by
  refine HCall.intro (C := C0) (s := 1) c0Ok.at Tryd.func24 rfl rfl (by kernel_rfl) rfl rfl <| cSeq <| cReg rfl <| oR 1 rfl <| rE 2 <| cSeq <| cReg rfl <| oR 1 rfl <| rE 3 <| cSeq <| cSeq <| cReg rfl <| oR 1 rfl <| rCl rfl (.inl rfl) (dName_3) <| rE 5 <| cBlock ?_
  refine cSeq <| cReg rfl <| rOk (x := vB false) rfl rfl (okBo ((eq_tL [113, 117, 101, 117, 101] [108, 97, 116]).trans (by decide))) <| oR 1 rfl <| rE 7 ?_
  refine cCond rfl (fun h => by cases h) (fun _ => ?_)
  refine cSeq <| cReg rfl <| rOk (x := vB false) rfl rfl (okBo ((eq_tL [113, 117, 101, 117, 101] [116, 97, 112, 101]).trans (by decide))) <| oR 1 rfl <| rE 9 ?_
  refine cCond rfl (fun h => by cases h) (fun _ => ?_)
  refine cSeq <| cReg rfl <| rOk (x := vB false) rfl rfl (okBo ((eq_tL [113, 117, 101, 117, 101] [112, 114, 111, 103]).trans (by decide))) <| oR 1 rfl <| rE 11 ?_
  refine cCond rfl (fun h => by cases h) (fun _ => ?_)
  refine cSkip <| cSeq <| cSeq <| cReg rfl <| oR 1 rfl <| rOk (x := vN t.length) rfl rfl (lenMap rowS t) <| rOk (x := vB (t.length != 1)) rfl rfl (okB (neN _ _)) <| rE 14 ?_
  refine cCond rfl (fun h1 => ?_) (fun h1 => ?_)
  · have h1p := bne_t h1
    refine cSeq <| cReg rfl <| oR 1 rfl <| rE 15 <| cRet ?_
    exact finH (rs := [vB false]) rfl (r := vB false) (h' := heapF [(0, .box (planL p (fl 9 3 p.lat) (fl 10 3 p.tape) (fl 11 3 p.prog)))]) (σ := fun z => z) (.inr ⟨by show (oneL readD t).map _ = none; rw [one_no (by simpa using h1)]; rfl, rfl, _, _, _, _, rfl⟩) rfl (weak_ret (fun z => z) rfl rfl wH rfl)
  · have h1p := bne_f h1
    refine cSkip <| cSeq <| cReg rfl <| oR 1 rfl ?_
    obtain ⟨x1, hx1⟩ : ∃ y_, t[0]? = some y_ := ⟨_, List.getElem?_eq_getElem omT⟩
    have hx1o := hw x1 (List.mem_of_getElem? hx1)
    refine rIdx (rowS x1) (x := .dp 1 0 (rowS x1)) rfl rfl rfl (⟨by decide, getM hx1⟩) rfl <| oR 2 rfl <| rE 18 <| cSeq <| cSeq <| cReg rfl <| oR 2 rfl <| rHCall (args := [.ptr 0 0, vN 3]) (d := 56) _ rfl rfl rfl (numAt_3 (by decide) rfl) ?_
    rintro _ _ ⟨rfl, rfl⟩
    refine oR 1 rfl <| rE 22 <| cSeq <| cReg rfl <| oR 1 rfl <| rOk (x := vB true) rfl rfl rfl <| rE 24 ?_
    refine cCond rfl (fun _ => ?_) (fun h => by cases h)
    refine cSeq <| cReg rfl <| oR 2 rfl <| rCl rfl (.inl rfl) (dDecimal2 x1 hx1o) <| oR 4 rfl <| rSt rfl <| oR 1 rfl <| rE 33 <| cSeq <| cReg rfl <| oR 2 rfl <| rE 35 <| cRet ?_
    obtain rfl := one_len1 (by simpa using h1) hx1
    rcases hr : readD x1 with _ | v
    · exact finH (rs := [vB false]) rfl (r := vB false) (h' := heapF [(0, .box (planL ({ p with queue := 0 }) (fl 9 3 p.lat) (fl 10 3 p.tape) (fl 11 3 p.prog)))]) (σ := fun z => z) (.inr ⟨by show (readD x1).map _ = none; rw [hr]; rfl, rfl, _, _, _, _, rfl⟩) rfl (weak_ret (fun z => z) rfl rfl wH rfl)
    · exact finH (rs := [vB true]) rfl (r := vB true) (h' := heapF [(0, .box (planL ({ p with queue := v }) (fl 9 4 p.lat) (fl 10 4 p.tape) (fl 11 4 p.prog)))]) (σ := fun z => z) (.inl ⟨{ p with queue := v }, by show (readD x1).map _ = _; rw [hr]; rfl, rfl, rfl⟩) rfl (weak_ret (fun z => z) rfl rfl wH rfl)
theorem hRead_4 (hB : HexIx) (p : ScPlan) (t : List W) (ck : Bool) (ht : t.length ≤ 900000) (hw : ∀ x ∈ t, x.length ≤ 900000) : HSem C0.P C0.G 24 [.ptr 0 0, vI 4, .sl 1 (t.map rowS) ck] (heapF [(0, .box (planF p 4))]) 1 (ReadP p t 4) := by
  refine HCall.intro (C := C0) (s := 1) c0Ok.at Tryd.func24 rfl rfl (by kernel_rfl) rfl rfl <| cSeq <| cReg rfl <| oR 1 rfl <| rE 2 <| cSeq <| cReg rfl <| oR 1 rfl <| rE 3 <| cSeq <| cSeq <| cReg rfl <| oR 1 rfl <| rCl rfl (.inl rfl) (dName_4) <| rE 5 <| cBlock ?_
  refine cSeq <| cReg rfl <| rOk (x := vB false) rfl rfl (okBo ((eq_tL [115, 116, 111, 114, 101, 115] [108, 97, 116]).trans (by decide))) <| oR 1 rfl <| rE 7 ?_
  refine cCond rfl (fun h => by cases h) (fun _ => ?_)
  refine cSeq <| cReg rfl <| rOk (x := vB false) rfl rfl (okBo ((eq_tL [115, 116, 111, 114, 101, 115] [116, 97, 112, 101]).trans (by decide))) <| oR 1 rfl <| rE 9 ?_
  refine cCond rfl (fun h => by cases h) (fun _ => ?_)
  refine cSeq <| cReg rfl <| rOk (x := vB false) rfl rfl (okBo ((eq_tL [115, 116, 111, 114, 101, 115] [112, 114, 111, 103]).trans (by decide))) <| oR 1 rfl <| rE 11 ?_
  refine cCond rfl (fun h => by cases h) (fun _ => ?_)
  refine cSkip <| cSeq <| cSeq <| cReg rfl <| oR 1 rfl <| rOk (x := vN t.length) rfl rfl (lenMap rowS t) <| rOk (x := vB (t.length != 1)) rfl rfl (okB (neN _ _)) <| rE 14 ?_
  refine cCond rfl (fun h1 => ?_) (fun h1 => ?_)
  · have h1p := bne_t h1
    refine cSeq <| cReg rfl <| oR 1 rfl <| rE 15 <| cRet ?_
    exact finH (rs := [vB false]) rfl (r := vB false) (h' := heapF [(0, .box (planL p (fl 9 4 p.lat) (fl 10 4 p.tape) (fl 11 4 p.prog)))]) (σ := fun z => z) (.inr ⟨by show (oneL readD t).map _ = none; rw [one_no (by simpa using h1)]; rfl, rfl, _, _, _, _, rfl⟩) rfl (weak_ret (fun z => z) rfl rfl wH rfl)
  · have h1p := bne_f h1
    refine cSkip <| cSeq <| cReg rfl <| oR 1 rfl ?_
    obtain ⟨x1, hx1⟩ : ∃ y_, t[0]? = some y_ := ⟨_, List.getElem?_eq_getElem omT⟩
    have hx1o := hw x1 (List.mem_of_getElem? hx1)
    refine rIdx (rowS x1) (x := .dp 1 0 (rowS x1)) rfl rfl rfl (⟨by decide, getM hx1⟩) rfl <| oR 2 rfl <| rE 18 <| cSeq <| cSeq <| cReg rfl <| oR 2 rfl <| rHCall (args := [.ptr 0 0, vN 4]) (d := 56) _ rfl rfl rfl (numAt_4 (by decide) rfl) ?_
    rintro _ _ ⟨rfl, rfl⟩
    refine oR 1 rfl <| rE 22 <| cSeq <| cReg rfl <| oR 1 rfl <| rOk (x := vB true) rfl rfl rfl <| rE 24 ?_
    refine cCond rfl (fun _ => ?_) (fun h => by cases h)
    refine cSeq <| cReg rfl <| oR 2 rfl <| rCl rfl (.inl rfl) (dDecimal2 x1 hx1o) <| oR 4 rfl <| rSt rfl <| oR 1 rfl <| rE 33 <| cSeq <| cReg rfl <| oR 2 rfl <| rE 35 <| cRet ?_
    obtain rfl := one_len1 (by simpa using h1) hx1
    rcases hr : readD x1 with _ | v
    · exact finH (rs := [vB false]) rfl (r := vB false) (h' := heapF [(0, .box (planL ({ p with stores := 0 }) (fl 9 4 p.lat) (fl 10 4 p.tape) (fl 11 4 p.prog)))]) (σ := fun z => z) (.inr ⟨by show (readD x1).map _ = none; rw [hr]; rfl, rfl, _, _, _, _, rfl⟩) rfl (weak_ret (fun z => z) rfl rfl wH rfl)
    · exact finH (rs := [vB true]) rfl (r := vB true) (h' := heapF [(0, .box (planL ({ p with stores := v }) (fl 9 5 p.lat) (fl 10 5 p.tape) (fl 11 5 p.prog)))]) (σ := fun z => z) (.inl ⟨{ p with stores := v }, by show (readD x1).map _ = _; rw [hr]; rfl, rfl, rfl⟩) rfl (weak_ret (fun z => z) rfl rfl wH rfl)
theorem hRead_5 (hB : HexIx) (p : ScPlan) (t : List W) (ck : Bool) (ht : t.length ≤ 900000) (hw : ∀ x ∈ t, x.length ≤ 900000) : HSem C0.P C0.G 24 [.ptr 0 0, vI 5, .sl 1 (t.map rowS) ck] (heapF [(0, .box (planF p 5))]) 1 (ReadP p t 5) := by
  refine HCall.intro (C := C0) (s := 1) c0Ok.at Tryd.func24 rfl rfl (by kernel_rfl) rfl rfl <| cSeq <| cReg rfl <| oR 1 rfl <| rE 2 <| cSeq <| cReg rfl <| oR 1 rfl <| rE 3 <| cSeq <| cSeq <| cReg rfl <| oR 1 rfl <| rCl rfl (.inl rfl) (dName_5) <| rE 5 <| cBlock ?_
  refine cSeq <| cReg rfl <| rOk (x := vB false) rfl rfl (okBo ((eq_tL [115, 108, 111, 116, 115] [108, 97, 116]).trans (by decide))) <| oR 1 rfl <| rE 7 ?_
  refine cCond rfl (fun h => by cases h) (fun _ => ?_)
  refine cSeq <| cReg rfl <| rOk (x := vB false) rfl rfl (okBo ((eq_tL [115, 108, 111, 116, 115] [116, 97, 112, 101]).trans (by decide))) <| oR 1 rfl <| rE 9 ?_
  refine cCond rfl (fun h => by cases h) (fun _ => ?_)
  refine cSeq <| cReg rfl <| rOk (x := vB false) rfl rfl (okBo ((eq_tL [115, 108, 111, 116, 115] [112, 114, 111, 103]).trans (by decide))) <| oR 1 rfl <| rE 11 ?_
  refine cCond rfl (fun h => by cases h) (fun _ => ?_)
  refine cSkip <| cSeq <| cSeq <| cReg rfl <| oR 1 rfl <| rOk (x := vN t.length) rfl rfl (lenMap rowS t) <| rOk (x := vB (t.length != 1)) rfl rfl (okB (neN _ _)) <| rE 14 ?_
  refine cCond rfl (fun h1 => ?_) (fun h1 => ?_)
  · have h1p := bne_t h1
    refine cSeq <| cReg rfl <| oR 1 rfl <| rE 15 <| cRet ?_
    exact finH (rs := [vB false]) rfl (r := vB false) (h' := heapF [(0, .box (planL p (fl 9 5 p.lat) (fl 10 5 p.tape) (fl 11 5 p.prog)))]) (σ := fun z => z) (.inr ⟨by show (oneL readD t).map _ = none; rw [one_no (by simpa using h1)]; rfl, rfl, _, _, _, _, rfl⟩) rfl (weak_ret (fun z => z) rfl rfl wH rfl)
  · have h1p := bne_f h1
    refine cSkip <| cSeq <| cReg rfl <| oR 1 rfl ?_
    obtain ⟨x1, hx1⟩ : ∃ y_, t[0]? = some y_ := ⟨_, List.getElem?_eq_getElem omT⟩
    have hx1o := hw x1 (List.mem_of_getElem? hx1)
    refine rIdx (rowS x1) (x := .dp 1 0 (rowS x1)) rfl rfl rfl (⟨by decide, getM hx1⟩) rfl <| oR 2 rfl <| rE 18 <| cSeq <| cSeq <| cReg rfl <| oR 2 rfl <| rHCall (args := [.ptr 0 0, vN 5]) (d := 56) _ rfl rfl rfl (numAt_5 (by decide) rfl) ?_
    rintro _ _ ⟨rfl, rfl⟩
    refine oR 1 rfl <| rE 22 <| cSeq <| cReg rfl <| oR 1 rfl <| rOk (x := vB true) rfl rfl rfl <| rE 24 ?_
    refine cCond rfl (fun _ => ?_) (fun h => by cases h)
    refine cSeq <| cReg rfl <| oR 2 rfl <| rCl rfl (.inl rfl) (dDecimal2 x1 hx1o) <| oR 4 rfl <| rSt rfl <| oR 1 rfl <| rE 33 <| cSeq <| cReg rfl <| oR 2 rfl <| rE 35 <| cRet ?_
    obtain rfl := one_len1 (by simpa using h1) hx1
    rcases hr : readD x1 with _ | v
    · exact finH (rs := [vB false]) rfl (r := vB false) (h' := heapF [(0, .box (planL ({ p with slots := 0 }) (fl 9 5 p.lat) (fl 10 5 p.tape) (fl 11 5 p.prog)))]) (σ := fun z => z) (.inr ⟨by show (readD x1).map _ = none; rw [hr]; rfl, rfl, _, _, _, _, rfl⟩) rfl (weak_ret (fun z => z) rfl rfl wH rfl)
    · exact finH (rs := [vB true]) rfl (r := vB true) (h' := heapF [(0, .box (planL ({ p with slots := v }) (fl 9 6 p.lat) (fl 10 6 p.tape) (fl 11 6 p.prog)))]) (σ := fun z => z) (.inl ⟨{ p with slots := v }, by show (readD x1).map _ = _; rw [hr]; rfl, rfl, rfl⟩) rfl (weak_ret (fun z => z) rfl rfl wH rfl)
theorem hRead_6 (hB : HexIx) (p : ScPlan) (t : List W) (ck : Bool) (ht : t.length ≤ 900000) (hw : ∀ x ∈ t, x.length ≤ 900000) : HSem C0.P C0.G 24 [.ptr 0 0, vI 6, .sl 1 (t.map rowS) ck] (heapF [(0, .box (planF p 6))]) 1 (ReadP p t 6) := by
  refine HCall.intro (C := C0) (s := 1) c0Ok.at Tryd.func24 rfl rfl (by kernel_rfl) rfl rfl <| cSeq <| cReg rfl <| oR 1 rfl <| rE 2 <| cSeq <| cReg rfl <| oR 1 rfl <| rE 3 <| cSeq <| cSeq <| cReg rfl <| oR 1 rfl <| rCl rfl (.inl rfl) (dName_6) <| rE 5 <| cBlock ?_
  refine cSeq <| cReg rfl <| rOk (x := vB false) rfl rfl (okBo ((eq_tL [115, 101, 116, 115] [108, 97, 116]).trans (by decide))) <| oR 1 rfl <| rE 7 ?_
  refine cCond rfl (fun h => by cases h) (fun _ => ?_)
  refine cSeq <| cReg rfl <| rOk (x := vB false) rfl rfl (okBo ((eq_tL [115, 101, 116, 115] [116, 97, 112, 101]).trans (by decide))) <| oR 1 rfl <| rE 9 ?_
  refine cCond rfl (fun h => by cases h) (fun _ => ?_)
  refine cSeq <| cReg rfl <| rOk (x := vB false) rfl rfl (okBo ((eq_tL [115, 101, 116, 115] [112, 114, 111, 103]).trans (by decide))) <| oR 1 rfl <| rE 11 ?_
  refine cCond rfl (fun h => by cases h) (fun _ => ?_)
  refine cSkip <| cSeq <| cSeq <| cReg rfl <| oR 1 rfl <| rOk (x := vN t.length) rfl rfl (lenMap rowS t) <| rOk (x := vB (t.length != 1)) rfl rfl (okB (neN _ _)) <| rE 14 ?_
  refine cCond rfl (fun h1 => ?_) (fun h1 => ?_)
  · have h1p := bne_t h1
    refine cSeq <| cReg rfl <| oR 1 rfl <| rE 15 <| cRet ?_
    exact finH (rs := [vB false]) rfl (r := vB false) (h' := heapF [(0, .box (planL p (fl 9 6 p.lat) (fl 10 6 p.tape) (fl 11 6 p.prog)))]) (σ := fun z => z) (.inr ⟨by show (oneL readD t).map _ = none; rw [one_no (by simpa using h1)]; rfl, rfl, _, _, _, _, rfl⟩) rfl (weak_ret (fun z => z) rfl rfl wH rfl)
  · have h1p := bne_f h1
    refine cSkip <| cSeq <| cReg rfl <| oR 1 rfl ?_
    obtain ⟨x1, hx1⟩ : ∃ y_, t[0]? = some y_ := ⟨_, List.getElem?_eq_getElem omT⟩
    have hx1o := hw x1 (List.mem_of_getElem? hx1)
    refine rIdx (rowS x1) (x := .dp 1 0 (rowS x1)) rfl rfl rfl (⟨by decide, getM hx1⟩) rfl <| oR 2 rfl <| rE 18 <| cSeq <| cSeq <| cReg rfl <| oR 2 rfl <| rHCall (args := [.ptr 0 0, vN 6]) (d := 56) _ rfl rfl rfl (numAt_6 (by decide) rfl) ?_
    rintro _ _ ⟨rfl, rfl⟩
    refine oR 1 rfl <| rE 22 <| cSeq <| cReg rfl <| oR 1 rfl <| rOk (x := vB true) rfl rfl rfl <| rE 24 ?_
    refine cCond rfl (fun _ => ?_) (fun h => by cases h)
    refine cSeq <| cReg rfl <| oR 2 rfl <| rCl rfl (.inl rfl) (dDecimal2 x1 hx1o) <| oR 4 rfl <| rSt rfl <| oR 1 rfl <| rE 33 <| cSeq <| cReg rfl <| oR 2 rfl <| rE 35 <| cRet ?_
    obtain rfl := one_len1 (by simpa using h1) hx1
    rcases hr : readD x1 with _ | v
    · exact finH (rs := [vB false]) rfl (r := vB false) (h' := heapF [(0, .box (planL ({ p with sets := 0 }) (fl 9 6 p.lat) (fl 10 6 p.tape) (fl 11 6 p.prog)))]) (σ := fun z => z) (.inr ⟨by show (readD x1).map _ = none; rw [hr]; rfl, rfl, _, _, _, _, rfl⟩) rfl (weak_ret (fun z => z) rfl rfl wH rfl)
    · exact finH (rs := [vB true]) rfl (r := vB true) (h' := heapF [(0, .box (planL ({ p with sets := v }) (fl 9 7 p.lat) (fl 10 7 p.tape) (fl 11 7 p.prog)))]) (σ := fun z => z) (.inl ⟨{ p with sets := v }, by show (readD x1).map _ = _; rw [hr]; rfl, rfl, rfl⟩) rfl (weak_ret (fun z => z) rfl rfl wH rfl)
theorem hRead_7 (hB : HexIx) (p : ScPlan) (t : List W) (ck : Bool) (ht : t.length ≤ 900000) (hw : ∀ x ∈ t, x.length ≤ 900000) : HSem C0.P C0.G 24 [.ptr 0 0, vI 7, .sl 1 (t.map rowS) ck] (heapF [(0, .box (planF p 7))]) 1 (ReadP p t 7) := by
  refine HCall.intro (C := C0) (s := 1) c0Ok.at Tryd.func24 rfl rfl (by kernel_rfl) rfl rfl <| cSeq <| cReg rfl <| oR 1 rfl <| rE 2 <| cSeq <| cReg rfl <| oR 1 rfl <| rE 3 <| cSeq <| cSeq <| cReg rfl <| oR 1 rfl <| rCl rfl (.inl rfl) (dName_7) <| rE 5 <| cBlock ?_
  refine cSeq <| cReg rfl <| rOk (x := vB false) rfl rfl (okBo ((eq_tL [119, 97, 121, 115] [108, 97, 116]).trans (by decide))) <| oR 1 rfl <| rE 7 ?_
  refine cCond rfl (fun h => by cases h) (fun _ => ?_)
  refine cSeq <| cReg rfl <| rOk (x := vB false) rfl rfl (okBo ((eq_tL [119, 97, 121, 115] [116, 97, 112, 101]).trans (by decide))) <| oR 1 rfl <| rE 9 ?_
  refine cCond rfl (fun h => by cases h) (fun _ => ?_)
  refine cSeq <| cReg rfl <| rOk (x := vB false) rfl rfl (okBo ((eq_tL [119, 97, 121, 115] [112, 114, 111, 103]).trans (by decide))) <| oR 1 rfl <| rE 11 ?_
  refine cCond rfl (fun h => by cases h) (fun _ => ?_)
  refine cSkip <| cSeq <| cSeq <| cReg rfl <| oR 1 rfl <| rOk (x := vN t.length) rfl rfl (lenMap rowS t) <| rOk (x := vB (t.length != 1)) rfl rfl (okB (neN _ _)) <| rE 14 ?_
  refine cCond rfl (fun h1 => ?_) (fun h1 => ?_)
  · have h1p := bne_t h1
    refine cSeq <| cReg rfl <| oR 1 rfl <| rE 15 <| cRet ?_
    exact finH (rs := [vB false]) rfl (r := vB false) (h' := heapF [(0, .box (planL p (fl 9 7 p.lat) (fl 10 7 p.tape) (fl 11 7 p.prog)))]) (σ := fun z => z) (.inr ⟨by show (oneL readD t).map _ = none; rw [one_no (by simpa using h1)]; rfl, rfl, _, _, _, _, rfl⟩) rfl (weak_ret (fun z => z) rfl rfl wH rfl)
  · have h1p := bne_f h1
    refine cSkip <| cSeq <| cReg rfl <| oR 1 rfl ?_
    obtain ⟨x1, hx1⟩ : ∃ y_, t[0]? = some y_ := ⟨_, List.getElem?_eq_getElem omT⟩
    have hx1o := hw x1 (List.mem_of_getElem? hx1)
    refine rIdx (rowS x1) (x := .dp 1 0 (rowS x1)) rfl rfl rfl (⟨by decide, getM hx1⟩) rfl <| oR 2 rfl <| rE 18 <| cSeq <| cSeq <| cReg rfl <| oR 2 rfl <| rHCall (args := [.ptr 0 0, vN 7]) (d := 56) _ rfl rfl rfl (numAt_7 (by decide) rfl) ?_
    rintro _ _ ⟨rfl, rfl⟩
    refine oR 1 rfl <| rE 22 <| cSeq <| cReg rfl <| oR 1 rfl <| rOk (x := vB true) rfl rfl rfl <| rE 24 ?_
    refine cCond rfl (fun _ => ?_) (fun h => by cases h)
    refine cSeq <| cReg rfl <| oR 2 rfl <| rCl rfl (.inl rfl) (dDecimal2 x1 hx1o) <| oR 4 rfl <| rSt rfl <| oR 1 rfl <| rE 33 <| cSeq <| cReg rfl <| oR 2 rfl <| rE 35 <| cRet ?_
    obtain rfl := one_len1 (by simpa using h1) hx1
    rcases hr : readD x1 with _ | v
    · exact finH (rs := [vB false]) rfl (r := vB false) (h' := heapF [(0, .box (planL ({ p with ways := 0 }) (fl 9 7 p.lat) (fl 10 7 p.tape) (fl 11 7 p.prog)))]) (σ := fun z => z) (.inr ⟨by show (readD x1).map _ = none; rw [hr]; rfl, rfl, _, _, _, _, rfl⟩) rfl (weak_ret (fun z => z) rfl rfl wH rfl)
    · exact finH (rs := [vB true]) rfl (r := vB true) (h' := heapF [(0, .box (planL ({ p with ways := v }) (fl 9 8 p.lat) (fl 10 8 p.tape) (fl 11 8 p.prog)))]) (σ := fun z => z) (.inl ⟨{ p with ways := v }, by show (readD x1).map _ = _; rw [hr]; rfl, rfl, rfl⟩) rfl (weak_ret (fun z => z) rfl rfl wH rfl)
theorem hRead_8 (hB : HexIx) (p : ScPlan) (t : List W) (ck : Bool) (ht : t.length ≤ 900000) (hw : ∀ x ∈ t, x.length ≤ 900000) : HSem C0.P C0.G 24 [.ptr 0 0, vI 8, .sl 1 (t.map rowS) ck] (heapF [(0, .box (planF p 8))]) 1 (ReadP p t 8) := by
  refine HCall.intro (C := C0) (s := 1) c0Ok.at Tryd.func24 rfl rfl (by kernel_rfl) rfl rfl <| cSeq <| cReg rfl <| oR 1 rfl <| rE 2 <| cSeq <| cReg rfl <| oR 1 rfl <| rE 3 <| cSeq <| cSeq <| cReg rfl <| oR 1 rfl <| rCl rfl (.inl rfl) (dName_8) <| rE 5 <| cBlock ?_
  refine cSeq <| cReg rfl <| rOk (x := vB false) rfl rfl (okBo ((eq_tL [103, 117, 101, 115, 115] [108, 97, 116]).trans (by decide))) <| oR 1 rfl <| rE 7 ?_
  refine cCond rfl (fun h => by cases h) (fun _ => ?_)
  refine cSeq <| cReg rfl <| rOk (x := vB false) rfl rfl (okBo ((eq_tL [103, 117, 101, 115, 115] [116, 97, 112, 101]).trans (by decide))) <| oR 1 rfl <| rE 9 ?_
  refine cCond rfl (fun h => by cases h) (fun _ => ?_)
  refine cSeq <| cReg rfl <| rOk (x := vB false) rfl rfl (okBo ((eq_tL [103, 117, 101, 115, 115] [112, 114, 111, 103]).trans (by decide))) <| oR 1 rfl <| rE 11 ?_
  refine cCond rfl (fun h => by cases h) (fun _ => ?_)
  refine cSkip <| cSeq <| cSeq <| cReg rfl <| oR 1 rfl <| rOk (x := vN t.length) rfl rfl (lenMap rowS t) <| rOk (x := vB (t.length != 1)) rfl rfl (okB (neN _ _)) <| rE 14 ?_
  refine cCond rfl (fun h1 => ?_) (fun h1 => ?_)
  · have h1p := bne_t h1
    refine cSeq <| cReg rfl <| oR 1 rfl <| rE 15 <| cRet ?_
    exact finH (rs := [vB false]) rfl (r := vB false) (h' := heapF [(0, .box (planL p (fl 9 8 p.lat) (fl 10 8 p.tape) (fl 11 8 p.prog)))]) (σ := fun z => z) (.inr ⟨by show (oneL readT t).map _ = none; rw [one_no (by simpa using h1)]; rfl, rfl, _, _, _, _, rfl⟩) rfl (weak_ret (fun z => z) rfl rfl wH rfl)
  · have h1p := bne_f h1
    refine cSkip <| cSeq <| cReg rfl <| oR 1 rfl ?_
    obtain ⟨x1, hx1⟩ : ∃ y_, t[0]? = some y_ := ⟨_, List.getElem?_eq_getElem omT⟩
    have hx1o := hw x1 (List.mem_of_getElem? hx1)
    refine rIdx (rowS x1) (x := .dp 1 0 (rowS x1)) rfl rfl rfl (⟨by decide, getM hx1⟩) rfl <| oR 2 rfl <| rE 18 <| cSeq <| cSeq <| cReg rfl <| oR 2 rfl <| rHCall (args := [.ptr 0 0, vN 8]) (d := 56) _ rfl rfl rfl (numAt_8 (by decide) rfl) ?_
    rintro _ _ ⟨rfl, rfl⟩
    refine oR 1 rfl <| rE 22 <| cSeq <| cReg rfl <| oR 1 rfl <| rOk (x := vB false) rfl rfl rfl <| rE 24 ?_
    refine cCond rfl (fun h => by cases h) (fun _ => ?_)
    refine cSkip <| cSeq <| cSeq <| cReg rfl <| oR 1 rfl <| rCl rfl (.inl rfl) (dName_8) <| rE 26 <| cBlock <| cSeq <| cReg rfl <| rOk (x := vB false) rfl rfl (okBo ((eq_tL [103, 117, 101, 115, 115] [109, 111, 100, 101]).trans (by decide))) <| oR 1 rfl <| rE 28 ?_
    refine cCond rfl (fun h => by cases h) (fun _ => ?_)
    refine cSeq <| cReg rfl <| rOk (x := vB true) rfl rfl (okBo ((eq_tL [103, 117, 101, 115, 115] [103, 117, 101, 115, 115]).trans (by decide))) <| oR 1 rfl <| rE 30 ?_
    refine cCond rfl (fun _ => ?_) (fun h => by cases h)
    refine cSeq <| cReg rfl <| oR 2 rfl <| rOk (x := vB (decide (x1 = [116, 97, 98, 108, 101, 115]))) rfl rfl (okBo (eq_tL x1 ([116, 97, 98, 108, 101, 115]))) <| oR 3 rfl <| rSt rfl <| rE 37 <| cSeq <| cReg rfl <| oR 1 rfl <| rOk (x := vB (decide (x1 = [116, 97, 98, 108, 101, 115]))) rfl rfl (okBo (eq_tL x1 ([116, 97, 98, 108, 101, 115]))) <| oR 1 rfl <| gN rfl <| gBS (x := vB (decide (x1 = [116, 97, 112, 101]))) rfl id (okBo (eq_tL x1 ([116, 97, 112, 101]))) <| rNeed rfl rfl rfl (by simp) <| oR 1 rfl ?_
    refine rE 44 <| cRet ?_
    obtain rfl := one_len1 (by simpa using h1) hx1
    have hT := readT_ok x1
    refine finH (rs := [vB (cond2 (decide (x1 = tablesW)) true (decide (x1 = tapeW)))]) rfl (r := vB (readT x1).isSome) (h' := heapF [(0, .box (planL { p with tables := decide (x1 = tablesW) } (fl 9 8 p.lat) (fl 10 8 p.tape) (fl 11 8 p.prog)))]) (σ := fun z => z) ?_ rfl (weak_ret (fun z => z) (congrArg vB hT.1) rfl wH rfl)
    rcases hr : readT x1 with _ | v
    · exact .inr ⟨by show (readT x1).map _ = none; rw [hr]; rfl, rfl, _, _, _, _, rfl⟩
    · exact .inl ⟨{ p with tables := decide (x1 = tablesW) }, by show (readT x1).map _ = _; rw [hr, hT.2 v hr]; rfl, rfl, rfl⟩
theorem hRead_9 (hB : HexIx) (p : ScPlan) (t : List W) (ck : Bool) (ht : t.length ≤ 900000) (hw : ∀ x ∈ t, x.length ≤ 900000) : HSem C0.P C0.G 24 [.ptr 0 0, vI 9, .sl 1 (t.map rowS) ck] (heapF [(0, .box (planF p 9))]) 1 (ReadP p t 9) := by
  refine HCall.intro (C := C0) (s := 1) c0Ok.at Tryd.func24 rfl rfl (by kernel_rfl) rfl rfl <| cSeq <| cReg rfl <| oR 1 rfl <| rE 2 <| cSeq <| cReg rfl <| oR 1 rfl <| rE 3 <| cSeq <| cSeq <| cReg rfl <| oR 1 rfl <| rCl rfl (.inl rfl) (dName_9) <| rE 5 <| cBlock ?_
  refine cSeq <| cReg rfl <| rOk (x := vB true) rfl rfl (okBo ((eq_tL [108, 97, 116] [108, 97, 116]).trans (by decide))) <| oR 1 rfl <| rE 7 ?_
  refine cCond rfl (fun _ => ?_) (fun h => by cases h)
  refine cSeq <| cReg rfl <| oR 2 rfl <| rCl rfl (.inl rfl) (dPartsI2 t ck ht hw) <| oR 6 rfl <| rSt rfl <| oR 1 rfl <| rE 18 <| cSeq <| cReg rfl <| oR 2 rfl <| rE 20 <| cRet ?_
  rcases hr : partsL readD t with _ | v
  · exact finH (rs := [vB false]) rfl (r := vB false) (h' := heapF [(0, .box (planL ({ p with lat := [] }) true (fl 10 9 p.tape) (fl 11 9 p.prog)))]) (σ := fun z => z) (.inr ⟨by show (partsL readD t).map _ = none; rw [hr]; rfl, rfl, _, _, _, _, rfl⟩) rfl (weak_ret (fun z => z) rfl rfl wH rfl)
  · exact finH (rs := [vB true]) rfl (r := vB true) (h' := heapF [(0, .box (planL ({ p with lat := v }) (fl 9 10 ({ p with lat := v }).lat) (fl 10 10 ({ p with lat := v }).tape) (fl 11 10 ({ p with lat := v }).prog)))]) (σ := fun z => z) (.inl ⟨{ p with lat := v }, by show (partsL readD t).map _ = _; rw [hr]; rfl, rfl, rfl⟩) rfl (weak_ret (fun z => z) rfl rfl wH rfl)
theorem hRead_10 (hB : HexIx) (p : ScPlan) (t : List W) (ck : Bool) (ht : t.length ≤ 900000) (hw : ∀ x ∈ t, x.length ≤ 900000) : HSem C0.P C0.G 24 [.ptr 0 0, vI 10, .sl 1 (t.map rowS) ck] (heapF [(0, .box (planF p 10))]) 1 (ReadP p t 10) := by
  refine HCall.intro (C := C0) (s := 1) c0Ok.at Tryd.func24 rfl rfl (by kernel_rfl) rfl rfl <| cSeq <| cReg rfl <| oR 1 rfl <| rE 2 <| cSeq <| cReg rfl <| oR 1 rfl <| rE 3 <| cSeq <| cSeq <| cReg rfl <| oR 1 rfl <| rCl rfl (.inl rfl) (dName_10) <| rE 5 <| cBlock ?_
  refine cSeq <| cReg rfl <| rOk (x := vB false) rfl rfl (okBo ((eq_tL [116, 97, 112, 101] [108, 97, 116]).trans (by decide))) <| oR 1 rfl <| rE 7 ?_
  refine cCond rfl (fun h => by cases h) (fun _ => ?_)
  refine cSeq <| cReg rfl <| rOk (x := vB true) rfl rfl (okBo ((eq_tL [116, 97, 112, 101] [116, 97, 112, 101]).trans (by decide))) <| oR 1 rfl <| rE 9 ?_
  refine cCond rfl (fun _ => ?_) (fun h => by cases h)
  refine cSeq <| cReg rfl <| oR 2 rfl <| rCl rfl (.inl rfl) (dPartsU2 hB t ck ht hw) <| oR 6 rfl <| rSt rfl <| oR 1 rfl <| rE 20 <| cSeq <| cReg rfl <| oR 2 rfl <| rE 22 <| cRet ?_
  rcases hr : partsL readC t with _ | v
  · exact finH (rs := [vB false]) rfl (r := vB false) (h' := heapF [(0, .box (planL ({ p with tape := [] }) (fl 9 10 p.lat) true (fl 11 10 p.prog)))]) (σ := fun z => z) (.inr ⟨by show (partsL readC t).map _ = none; rw [hr]; rfl, rfl, _, _, _, _, rfl⟩) rfl (weak_ret (fun z => z) rfl rfl wH rfl)
  · exact finH (rs := [vB true]) rfl (r := vB true) (h' := heapF [(0, .box (planL ({ p with tape := v }) (fl 9 11 ({ p with tape := v }).lat) (fl 10 11 ({ p with tape := v }).tape) (fl 11 11 ({ p with tape := v }).prog)))]) (σ := fun z => z) (.inl ⟨{ p with tape := v }, by show (partsL readC t).map _ = _; rw [hr]; rfl, rfl, rfl⟩) rfl (weak_ret (fun z => z) rfl rfl wH rfl)
theorem hRead_11 (hB : HexIx) (p : ScPlan) (t : List W) (ck : Bool) (ht : t.length ≤ 900000) (hw : ∀ x ∈ t, x.length ≤ 900000) : HSem C0.P C0.G 24 [.ptr 0 0, vI 11, .sl 1 (t.map rowS) ck] (heapF [(0, .box (planF p 11))]) 1 (ReadP p t 11) := by
  refine HCall.intro (C := C0) (s := 1) c0Ok.at Tryd.func24 rfl rfl (by kernel_rfl) rfl rfl <| cSeq <| cReg rfl <| oR 1 rfl <| rE 2 <| cSeq <| cReg rfl <| oR 1 rfl <| rE 3 <| cSeq <| cSeq <| cReg rfl <| oR 1 rfl <| rCl rfl (.inl rfl) (dName_11) <| rE 5 <| cBlock ?_
  refine cSeq <| cReg rfl <| rOk (x := vB false) rfl rfl (okBo ((eq_tL [112, 114, 111, 103] [108, 97, 116]).trans (by decide))) <| oR 1 rfl <| rE 7 ?_
  refine cCond rfl (fun h => by cases h) (fun _ => ?_)
  refine cSeq <| cReg rfl <| rOk (x := vB false) rfl rfl (okBo ((eq_tL [112, 114, 111, 103] [116, 97, 112, 101]).trans (by decide))) <| oR 1 rfl <| rE 9 ?_
  refine cCond rfl (fun h => by cases h) (fun _ => ?_)
  refine cSeq <| cReg rfl <| rOk (x := vB true) rfl rfl (okBo ((eq_tL [112, 114, 111, 103] [112, 114, 111, 103]).trans (by decide))) <| oR 1 rfl <| rE 11 ?_
  refine cCond rfl (fun _ => ?_) (fun h => by cases h)
  refine cSeq <| cReg rfl <| oR 2 rfl <| rCl rfl (.inl rfl) (dPartsU2 hB t ck ht hw) <| oR 5 rfl <| rSt rfl <| oR 1 rfl <| rE 21 <| cSeq <| cReg rfl <| oR 2 rfl <| rE 23 <| cRet ?_
  rcases hr : partsL readC t with _ | v
  · exact finH (rs := [vB false]) rfl (r := vB false) (h' := heapF [(0, .box (planL ({ p with prog := [] }) (fl 9 11 p.lat) (fl 10 11 p.tape) true))]) (σ := fun z => z) (.inr ⟨by show (partsL readC t).map _ = none; rw [hr]; rfl, rfl, _, _, _, _, rfl⟩) rfl (weak_ret (fun z => z) rfl rfl wH rfl)
  · exact finH (rs := [vB true]) rfl (r := vB true) (h' := heapF [(0, .box (planL ({ p with prog := v }) (fl 9 12 ({ p with prog := v }).lat) (fl 10 12 ({ p with prog := v }).tape) (fl 11 12 ({ p with prog := v }).prog)))]) (σ := fun z => z) (.inl ⟨{ p with prog := v }, by show (partsL readC t).map _ = _; rw [hr]; rfl, rfl, rfl⟩) rfl (weak_ret (fun z => z) rfl rfl wH rfl)
theorem hRead_12 (hB : HexIx) (p : ScPlan) (t : List W) (ck : Bool) (ht : t.length ≤ 900000) (hw : ∀ x ∈ t, x.length ≤ 900000) : HSem C0.P C0.G 24 [.ptr 0 0, vI 12, .sl 1 (t.map rowS) ck] (heapF [(0, .box (planF p 12))]) 1 (ReadP p t 12) := by
  refine HCall.intro (C := C0) (s := 1) c0Ok.at Tryd.func24 rfl rfl (by kernel_rfl) rfl rfl <| cSeq <| cReg rfl <| oR 1 rfl <| rE 2 <| cSeq <| cReg rfl <| oR 1 rfl <| rE 3 <| cSeq <| cSeq <| cReg rfl <| oR 1 rfl <| rCl rfl (.inl rfl) (dName_12) <| rE 5 <| cBlock ?_
  refine cSeq <| cReg rfl <| rOk (x := vB false) rfl rfl (okBo ((eq_tL [109, 101, 109] [108, 97, 116]).trans (by decide))) <| oR 1 rfl <| rE 7 ?_
  refine cCond rfl (fun h => by cases h) (fun _ => ?_)
  refine cSeq <| cReg rfl <| rOk (x := vB false) rfl rfl (okBo ((eq_tL [109, 101, 109] [116, 97, 112, 101]).trans (by decide))) <| oR 1 rfl <| rE 9 ?_
  refine cCond rfl (fun h => by cases h) (fun _ => ?_)
  refine cSeq <| cReg rfl <| rOk (x := vB false) rfl rfl (okBo ((eq_tL [109, 101, 109] [112, 114, 111, 103]).trans (by decide))) <| oR 1 rfl <| rE 11 ?_
  refine cCond rfl (fun h => by cases h) (fun _ => ?_)
  refine cSkip <| cSeq <| cSeq <| cReg rfl <| oR 1 rfl <| rOk (x := vN t.length) rfl rfl (lenMap rowS t) <| rOk (x := vB (t.length != 1)) rfl rfl (okB (neN _ _)) <| rE 14 ?_
  refine cCond rfl (fun h1 => ?_) (fun h1 => ?_)
  · have h1p := bne_t h1
    refine cSeq <| cReg rfl <| oR 1 rfl <| rE 15 <| cRet ?_
    exact finH (rs := [vB false]) rfl (r := vB false) (h' := heapF [(0, .box (planL p (fl 9 12 p.lat) (fl 10 12 p.tape) (fl 11 12 p.prog)))]) (σ := fun z => z) (.inr ⟨by show (oneL pairL t).map _ = none; rw [one_no (by simpa using h1)]; rfl, rfl, _, _, _, _, rfl⟩) rfl (weak_ret (fun z => z) rfl rfl wH rfl)
  · have h1p := bne_f h1
    refine cSkip <| cSeq <| cReg rfl <| oR 1 rfl ?_
    obtain ⟨x1, hx1⟩ : ∃ y_, t[0]? = some y_ := ⟨_, List.getElem?_eq_getElem omT⟩
    have hx1o := hw x1 (List.mem_of_getElem? hx1)
    refine rIdx (rowS x1) (x := .dp 1 0 (rowS x1)) rfl rfl rfl (⟨by decide, getM hx1⟩) rfl <| oR 2 rfl <| rE 18 <| cSeq <| cSeq <| cReg rfl <| oR 2 rfl <| rHCall (args := [.ptr 0 0, vN 12]) (d := 56) _ rfl rfl rfl (numAt_12 (by decide) rfl) ?_
    rintro _ _ ⟨rfl, rfl⟩
    refine oR 1 rfl <| rE 22 <| cSeq <| cReg rfl <| oR 1 rfl <| rOk (x := vB false) rfl rfl rfl <| rE 24 ?_
    refine cCond rfl (fun h => by cases h) (fun _ => ?_)
    refine cSkip <| cSeq <| cSeq <| cReg rfl <| oR 1 rfl <| rCl rfl (.inl rfl) (dName_12) <| rE 26 <| cBlock <| cSeq <| cReg rfl <| rOk (x := vB false) rfl rfl (okBo ((eq_tL [109, 101, 109] [109, 111, 100, 101]).trans (by decide))) <| oR 1 rfl <| rE 28 ?_
    refine cCond rfl (fun h => by cases h) (fun _ => ?_)
    refine cSeq <| cReg rfl <| rOk (x := vB false) rfl rfl (okBo ((eq_tL [109, 101, 109] [103, 117, 101, 115, 115]).trans (by decide))) <| oR 1 rfl <| rE 30 ?_
    refine cCond rfl (fun h => by cases h) (fun _ => ?_)
    refine cSeq <| cReg rfl <| rOk (x := vB true) rfl rfl (okBo ((eq_tL [109, 101, 109] [109, 101, 109]).trans (by decide))) <| oR 1 rfl <| rE 32 ?_
    refine cCond rfl (fun _ => ?_) (fun h => by cases h)
    refine cReg rfl <| oR 2 rfl <| rCl rfl (.inl rfl) (dBytes2 hB x1 hx1o) <| oR 5 rfl <| rSt rfl <| oR 1 rfl <| rE 42 <| cSeq <| cReg rfl <| oR 2 rfl <| rE 44 <| cRet ?_
    obtain rfl := one_len1 (by simpa using h1) hx1
    rcases hr : pairL x1 with _ | v
    · exact finH (rs := [vB false]) rfl (r := vB false) (h' := heapF [(0, .box (planL ({ p with mem := [] }) (fl 9 12 p.lat) (fl 10 12 p.tape) (fl 11 12 p.prog)))]) (σ := fun z => z) (.inr ⟨by show (pairL x1).map _ = none; rw [hr]; rfl, rfl, _, _, _, _, rfl⟩) rfl (weak_ret (fun z => z) rfl rfl wH rfl)
    · exact finH (rs := [vB true]) rfl (r := vB true) (h' := heapF [(0, .box (planL ({ p with mem := v }) (fl 9 13 p.lat) (fl 10 13 p.tape) (fl 11 13 p.prog)))]) (σ := fun z => z) (.inl ⟨{ p with mem := v }, by show (pairL x1).map _ = _; rw [hr]; rfl, rfl, rfl⟩) rfl (weak_ret (fun z => z) rfl rfl wH rfl)
theorem hRead_13 (hB : HexIx) (p : ScPlan) (t : List W) (ck : Bool) (ht : t.length ≤ 900000) (hw : ∀ x ∈ t, x.length ≤ 900000) : HSem C0.P C0.G 24 [.ptr 0 0, vI 13, .sl 1 (t.map rowS) ck] (heapF [(0, .box (planF p 13))]) 1 (ReadP p t 13) := by
  refine HCall.intro (C := C0) (s := 1) c0Ok.at Tryd.func24 rfl rfl (by kernel_rfl) rfl rfl <| cSeq <| cReg rfl <| oR 1 rfl <| rE 2 <| cSeq <| cReg rfl <| oR 1 rfl <| rE 3 <| cSeq <| cSeq <| cReg rfl <| oR 1 rfl <| rCl rfl (.inl rfl) (dName_13) <| rE 5 <| cBlock ?_
  refine cSeq <| cReg rfl <| rOk (x := vB false) rfl rfl (okBo ((eq_tL [99, 121, 99, 108, 101, 115] [108, 97, 116]).trans (by decide))) <| oR 1 rfl <| rE 7 ?_
  refine cCond rfl (fun h => by cases h) (fun _ => ?_)
  refine cSeq <| cReg rfl <| rOk (x := vB false) rfl rfl (okBo ((eq_tL [99, 121, 99, 108, 101, 115] [116, 97, 112, 101]).trans (by decide))) <| oR 1 rfl <| rE 9 ?_
  refine cCond rfl (fun h => by cases h) (fun _ => ?_)
  refine cSeq <| cReg rfl <| rOk (x := vB false) rfl rfl (okBo ((eq_tL [99, 121, 99, 108, 101, 115] [112, 114, 111, 103]).trans (by decide))) <| oR 1 rfl <| rE 11 ?_
  refine cCond rfl (fun h => by cases h) (fun _ => ?_)
  refine cSkip <| cSeq <| cSeq <| cReg rfl <| oR 1 rfl <| rOk (x := vN t.length) rfl rfl (lenMap rowS t) <| rOk (x := vB (t.length != 1)) rfl rfl (okB (neN _ _)) <| rE 14 ?_
  refine cCond rfl (fun h1 => ?_) (fun h1 => ?_)
  · have h1p := bne_t h1
    refine cSeq <| cReg rfl <| oR 1 rfl <| rE 15 <| cRet ?_
    exact finH (rs := [vB false]) rfl (r := vB false) (h' := heapF [(0, .box (planL p (fl 9 13 p.lat) (fl 10 13 p.tape) (fl 11 13 p.prog)))]) (σ := fun z => z) (.inr ⟨by show (oneL readD t).map _ = none; rw [one_no (by simpa using h1)]; rfl, rfl, _, _, _, _, rfl⟩) rfl (weak_ret (fun z => z) rfl rfl wH rfl)
  · have h1p := bne_f h1
    refine cSkip <| cSeq <| cReg rfl <| oR 1 rfl ?_
    obtain ⟨x1, hx1⟩ : ∃ y_, t[0]? = some y_ := ⟨_, List.getElem?_eq_getElem omT⟩
    have hx1o := hw x1 (List.mem_of_getElem? hx1)
    refine rIdx (rowS x1) (x := .dp 1 0 (rowS x1)) rfl rfl rfl (⟨by decide, getM hx1⟩) rfl <| oR 2 rfl <| rE 18 <| cSeq <| cSeq <| cReg rfl <| oR 2 rfl <| rHCall (args := [.ptr 0 0, vN 13]) (d := 56) _ rfl rfl rfl (numAt_13 (by decide) rfl) ?_
    rintro _ _ ⟨rfl, rfl⟩
    refine oR 1 rfl <| rE 22 <| cSeq <| cReg rfl <| oR 1 rfl <| rOk (x := vB true) rfl rfl rfl <| rE 24 ?_
    refine cCond rfl (fun _ => ?_) (fun h => by cases h)
    refine cSeq <| cReg rfl <| oR 2 rfl <| rCl rfl (.inl rfl) (dDecimal2 x1 hx1o) <| oR 4 rfl <| rSt rfl <| oR 1 rfl <| rE 33 <| cSeq <| cReg rfl <| oR 2 rfl <| rE 35 <| cRet ?_
    obtain rfl := one_len1 (by simpa using h1) hx1
    rcases hr : readD x1 with _ | v
    · exact finH (rs := [vB false]) rfl (r := vB false) (h' := heapF [(0, .box (planL ({ p with cycles := 0 }) (fl 9 13 p.lat) (fl 10 13 p.tape) (fl 11 13 p.prog)))]) (σ := fun z => z) (.inr ⟨by show (readD x1).map _ = none; rw [hr]; rfl, rfl, _, _, _, _, rfl⟩) rfl (weak_ret (fun z => z) rfl rfl wH rfl)
    · exact finH (rs := [vB true]) rfl (r := vB true) (h' := heapF [(0, .box (planL ({ p with cycles := v }) (fl 9 14 p.lat) (fl 10 14 p.tape) (fl 11 14 p.prog)))]) (σ := fun z => z) (.inl ⟨{ p with cycles := v }, by show (readD x1).map _ = _; rw [hr]; rfl, rfl, rfl⟩) rfl (weak_ret (fun z => z) rfl rfl wH rfl)
theorem hRead (hB : HexIx) (p : ScPlan) (t : List W) (ck : Bool) (k : Nat) (hk : k < 14) (ht : t.length ≤ 900000) (hw : ∀ x ∈ t, x.length ≤ 900000) :
    HSem C0.P C0.G 24 [.ptr 0 0, vN k, .sl 1 (t.map rowS) ck] (heapF [(0, .box (planF p k))]) 1 (ReadP p t k) := by
  rcases k with _ | _ | _ | _ | _ | _ | _ | _ | _ | _ | _ | _ | _ | _ | k
  · exact hRead_0 hB p t ck ht hw
  · exact hRead_1 hB p t ck ht hw
  · exact hRead_2 hB p t ck ht hw
  · exact hRead_3 hB p t ck ht hw
  · exact hRead_4 hB p t ck ht hw
  · exact hRead_5 hB p t ck ht hw
  · exact hRead_6 hB p t ck ht hw
  · exact hRead_7 hB p t ck ht hw
  · exact hRead_8 hB p t ck ht hw
  · exact hRead_9 hB p t ck ht hw
  · exact hRead_10 hB p t ck ht hw
  · exact hRead_11 hB p t ck ht hw
  · exact hRead_12 hB p t ck ht hw
  · exact hRead_13 hB p t ck ht hw
  exact absurd hk (by omega)
def ReadK (p : ScPlan) (t : List W) (k n : Nat) (K : AH) (x : AV) (h' : AH) : Prop :=
  (∃ q, readM p t k = some q ∧ x = vB true ∧ h' = upd K n (some (.box (planF q (k + 1))))) ∨ (readM p t k = none ∧ x = vB false ∧ ∃ q a b c, h' = upd K n (some (.box (planL q a b c))))
theorem readAt (hB : HexIx) {p : ScPlan} {t : List W} {ck : Bool} {k n : Nat} {K : AH} {s2 : Nat} (hk : k < 14) (ht : t.length ≤ 900000) (hw : ∀ x ∈ t, x.length ≤ 900000) (hb : Nat.blt n s2 = true) (hK : K n = some (.box (planF p k))) :
    HSem C0.P C0.G 24 [.ptr n 0, vN k, .sl 1 (t.map rowS) ck] K s2 (ReadK p t k n K) := by
  refine (hRead hB p t ck k hk ht hw).frame (fun _ => n) K s2 rfl (fun x hx => ?_) (fun x blk0 hx => ?_) (fun x y hx hy _ => by omega) rfl _ fun r' h' hP => ?_
  · cases x with
    | zero => omega
    | succ x => exact absurd rfl hx
  · cases x with
    | zero => injection hx with hx; subst hx; exact ⟨Nat.le_of_ble_eq_true hb, rfl, hK⟩
    | succ x => cases hx
  · have key : ∀ q a b c, h' = heapF [(0, .box (planL q a b c))] → ∀ y blk, upd K n (some (.box (planL q a b c))) y = some blk → (∃ x blk0, h' x = some blk0 ∧ y = newN (fun _ => n) 1 s2 x ∧ blk = mapB (newN (fun _ => n) 1 s2) blk0) ∨ (K y = some blk ∧ ∀ x, x < 1 → (fun _ => n) x ≠ y) := by
      intro q a b c hh y blk0 hy
      by_cases he : y = n
      · subst he
        rw [upd_same] at hy; injection hy with hy
        exact .inl ⟨0, .box (planL q a b c), by rw [hh]; rfl, rfl, by rw [← hy]; rfl⟩
      · rw [upd_other _ _ he] at hy
        exact .inr ⟨hy, fun x _ q => he q.symm⟩
    rcases hP with ⟨q, h1, rfl, h2⟩ | ⟨h1, rfl, q, a, b, c, h2⟩
    · exact ⟨_, .inl ⟨q, h1, rfl, rfl⟩, key _ _ _ _ h2⟩
    · exact ⟨_, .inr ⟨h1, rfl, q, a, b, c, rfl⟩, key _ _ _ _ h2⟩
theorem parts_len {α : Type} {rd : W → Option α} : ∀ {t : List W} {l : List α}, partsL rd t = some l → l.length = t.length
  | [], l, h => by injection h with h; subst h; rfl
  | w :: t, l, h => by
    unfold partsL at h
    split at h
    · cases h
    · obtain ⟨m, hm, rfl⟩ := Option.map_eq_some_iff.1 h
      rw [List.length_cons, List.length_cons, parts_len hm]
theorem parts_mem {α : Type} {rd : W → Option α} : ∀ {t : List W} {l : List α}, partsL rd t = some l → ∀ a ∈ l, ∃ w, rd w = some a
  | [], l, h, a, ha => by injection h with h; subst h; exact absurd ha List.not_mem_nil
  | w :: t, l, h, a, ha => by
    unfold partsL at h
    split at h
    · cases h
    · rename_i x hx
      obtain ⟨m, hm, rfl⟩ := Option.map_eq_some_iff.1 h
      rcases List.mem_cons.1 ha with e | e
      · exact ⟨w, e ▸ hx⟩
      · exact parts_mem hm a e
theorem readC_lt {w : W} {a : Nat} (h : readC w = some a) : a ≤ 4294967295 := by have := readC_le w; rw [h] at this; exact this
theorem pair_len {w b : W} (h : pairL w = some b) : b.length ≤ w.length := by
  have e := congrArg List.length (pair_of w b h)
  have : (hexL b).length = 2 * b.length := by
    unfold hexL
    clear e h
    induction b with
    | nil => rfl
    | cons x b ih => rw [List.flatMap_cons, List.length_append, ih]; show 2 + _ = 2 * (b.length + 1); omega
  omega
theorem oneL_some {α : Type} {rd : W → Option α} {t : List W} {a : α} (h : oneL rd t = some a) : ∃ w ∈ t, rd w = some a := by
  match t, h with
  | [w], h => exact ⟨w, List.mem_cons_self, h⟩
theorem readM_ok {p q : ScPlan} (hp : p.ok) {t : List W} (ht : t.length ≤ 900000) (hw : ∀ x ∈ t, x.length ≤ 900000) {k : Nat} (h : readM p t k = some q) : q.ok := by
  rcases k with _ | _ | _ | _ | _ | _ | _ | _ | _ | _ | _ | _ | _ | _ | k
  all_goals first
    | (obtain ⟨v, hv, rfl⟩ := Option.map_eq_some_iff.1 h; exact ⟨hp.lat, hp.tape, hp.tp, hp.prog, hp.pr, hp.mem⟩)
    | (obtain ⟨v, hv, rfl⟩ := Option.map_eq_some_iff.1 h; exact ⟨by show v.length ≤ _; rw [parts_len hv]; exact ht, hp.tape, hp.tp, hp.prog, hp.pr, hp.mem⟩)
    | (obtain ⟨v, hv, rfl⟩ := Option.map_eq_some_iff.1 h; exact ⟨hp.lat, by show v.length ≤ _; rw [parts_len hv]; exact ht, fun a ha => (parts_mem hv a ha).elim fun _ q => readC_lt q, hp.prog, hp.pr, hp.mem⟩)
    | (obtain ⟨v, hv, rfl⟩ := Option.map_eq_some_iff.1 h; exact ⟨hp.lat, hp.tape, hp.tp, by show v.length ≤ _; rw [parts_len hv]; exact ht, fun a ha => (parts_mem hv a ha).elim fun _ q => readC_lt q, hp.mem⟩)
    | (obtain ⟨v, hv, rfl⟩ := Option.map_eq_some_iff.1 h; obtain ⟨w, h1, h2⟩ := oneL_some hv; exact ⟨hp.lat, hp.tape, hp.tp, hp.prog, hp.pr, Nat.le_trans (pair_len h2) (hw w h1)⟩)
    | cases h
def LineP (p : ScPlan) (r : W) (k : Nat) (x : AV) (h' : AH) : Prop :=
  (∃ q, ((cutL 10 r).2.2 = true ∧ stepM okM p k (cutL 10 r).1 = some q ∧ q.ok) ∧ x = vB true ∧ h' = heapF [(0, .box (planF q (k + 1))), (1, .box [vS (cutL 10 r).2.1])]) ∨
  (((cutL 10 r).2.2 = false ∨ stepM okM p k (cutL 10 r).1 = none) ∧ x = vB false ∧ ∃ q a b c, h' = heapF [(0, .box (planL q a b c)), (1, .box [vS (cutL 10 r).2.1])])
theorem stepM_name {p : ScPlan} {k : Nat} {line : W} (h : ¬ (splitL 32 line).headD [] = nameL k) : stepM okM p k line = none := by unfold stepM; rw [if_neg h]
theorem stepM_read {p : ScPlan} {k : Nat} {line w0 : W} {t : List W} (hs : splitL 32 line = w0 :: t) (h : readM p t k = none) : stepM okM p k line = none := by
  unfold stepM; rw [hs]
  show (if w0 = nameL k then (readM p t k).bind _ else none) = none
  rw [h]; split <;> rfl
theorem stepM_right {p q : ScPlan} {k : Nat} {line w0 : W} {t : List W} (hs : splitL 32 line = w0 :: t) (hn : w0 = nameL k) (h : readM p t k = some q) (hq : q.ok) : stepM okM p k line = if rightP q = true then some q else none := by
  by_cases hr : rightP q = true
  · rw [if_pos hr]; exact stepM_iff.2 ⟨by rw [hs]; exact hn, by rw [hs]; exact h, (rightP_iff hq).1 hr⟩
  · rw [if_neg hr]
    cases hz : stepM okM p k line with
    | none => rfl
    | some z =>
      exfalso
      obtain ⟨_, b, c⟩ := stepM_iff.1 hz
      rw [hs] at b
      have e : readM p t k = some z := b
      rw [h] at e; injection e with e; subst e
      exact hr ((rightP_iff hq).2 c)
structure LibS : Prop where
  ix : HexIx
  cut : ∀ s : W, s.length ≤ 900000 → DCall C0 21 [vS s, .v (.string ⟨#[10]⟩)] (tupS (cutL 10 s))
  split : ∀ s : W, s.length ≤ 900000 → DCall C0 22 [vS s, .v (.string ⟨#[32]⟩)] (.sl 1 ((splitL 32 s).map rowS) false)
  itoa : ∀ n : Int, 0 ≤ n → n ≤ 600 → DCall C0 54 [vI n] (vS (itoa n))
set_option maxRecDepth 100000 in
set_option maxHeartbeats 4000000 in
theorem hLine_0 (L : LibS) (p : ScPlan) (r : W) (k : Nat) (hk : k < 14) (hp : p.ok) (hr : r.length ≤ 100000) (hE : (cutL 10 r).2.2 = false)  : HSem C0.P C0.G 20 [vN k, .ptr 1 0, .ptr 0 0] (heapF [(0, .box (planF p k)), (1, .box [vS r])]) 2 (LineP p r k) := by
  refine HCall.intro (C := C0) (s := 2) c0Ok.at Tryd.func20 rfl rfl (by kernel_rfl) rfl rfl ?_
  refine cSeq ?_
  refine cReg rfl ?_
  refine rOk (d := 4) (x := vB false) rfl rfl rfl ?_
  refine rEnd (n' := 3) rfl ?_
  refine cSeq ?_
  refine cReg rfl ?_
  refine rOk (d := 10) (x := vS r) rfl rfl rfl ?_
  refine rCall (args := [vS r, .v (.string (⟨#[10]⟩ : ByteArray))]) (d := 11) (x := .tup [vS ((cutL 10 r).1), vS ((cutL 10 r).2.1), vB false]) rfl rfl rfl rfl (.inl rfl) rfl ((show AV.tup [vS (cutL 10 r).1, vS (cutL 10 r).2.1, vB (cutL 10 r).2.2] = .tup [vS (cutL 10 r).1, vS (cutL 10 r).2.1, vB false] from by rw [hE]) ▸ L.cut r (by omega)) ?_
  refine rOk (d := 9) (x := .tup [vS ((cutL 10 r).1), vS ((cutL 10 r).2.1), vB false]) rfl rfl rfl ?_
  refine rOk (d := 12) (x := vS ((cutL 10 r).1)) rfl rfl rfl ?_
  refine rOk (d := 13) (x := vS ((cutL 10 r).2.1)) rfl rfl rfl ?_
  refine rOk (d := 14) (x := vB false) rfl rfl rfl ?_
  refine rOk (d := 5) (x := vS ((cutL 10 r).1)) rfl rfl rfl ?_
  refine rOk (d := 6) (x := vS ((cutL 10 r).2.1)) rfl rfl rfl ?_
  refine rOk (d := 7) (x := vB false) rfl rfl rfl ?_
  refine rEnd (n' := 12) rfl ?_
  refine cSeq ?_
  refine cReg rfl ?_
  refine rOk (d := 15) (x := vS ((cutL 10 r).2.1)) rfl rfl rfl ?_
  refine rFx0 (h' := upd _ 1 (some (.box [vS ((cutL 10 r).2.1)]))) rfl rfl (rfl) (trivial) ?_
  refine rEnd (n' := 14) rfl ?_
  refine cSeq ?_
  refine cReg rfl ?_
  refine rOk (d := 16) (x := vS ((cutL 10 r).1)) rfl rfl rfl ?_
  obtain ⟨w0, t, hwt⟩ := split_cons 32 (cutL 10 r).1
  have hcl := cut_le 10 r
  have hsl := split_len 32 (cutL 10 r).1
  have hws := hwt
  rw [hwt] at hsl
  have ht0 : (w0 :: t).length ≤ 900000 := by omega
  have hw0 : ∀ x ∈ w0 :: t, x.length ≤ 900000 := fun x hx => by have := hsl.2 x hx; omega
  have ht : t.length ≤ 900000 := Nat.le_trans (Nat.le_succ _) ht0
  have hw : ∀ x ∈ t, x.length ≤ 900000 := fun x hx => hw0 x (List.mem_cons_of_mem _ hx)
  refine rCall (args := [vS ((cutL 10 r).1), .v (.string (⟨#[32]⟩ : ByteArray))]) (d := 17) (x := .sl 1 ((w0 :: t).map rowS) false) rfl rfl rfl rfl (.inl rfl) rfl (hwt ▸ L.split (cutL 10 r).1 (by omega)) ?_
  refine rOk (d := 8) (x := .sl 1 ((w0 :: t).map rowS) false) rfl rfl rfl ?_
  refine rEnd (n' := 17) rfl ?_
  refine cSeq ?_
  refine cReg rfl ?_
  refine rOk (d := 18) (x := vB false) rfl rfl rfl ?_
  refine rOk (d := 19) (x := vB false) rfl rfl rfl ?_
  refine gOk (d := 20) (x := .sl 1 ((w0 :: t).map rowS) false) (g := false) rfl rfl rfl rfl rfl rfl ?_
  refine gIdxS (rowS w0) (d := 21) (x := .dp 1 0 (rowS w0)) (g := false) rfl rfl rfl rfl (fun h => h) rfl rfl (fun hg => ⟨by decide, getM (l := w0 :: t) (k := 0) rfl⟩) rfl ?_
  refine gOkS (d := 22) (x := vS w0) (g := false) rfl rfl rfl rfl (fun h => h) rfl rfl ?_
  refine gOk (d := 23) (x := vN k) (g := false) rfl rfl rfl rfl rfl rfl ?_
  refine gCallS (args := [vN k]) (d := 24) (x := vS (nameL k)) (g := false) rfl rfl rfl rfl (fun h => h) rfl rfl rfl (.inl rfl) rfl (fun hg => Bool.noConfusion hg) ?_
  refine gOkS (d := 25) (x := vB (decide (w0 = nameL k))) (g := false) rfl rfl rfl rfl (fun h => by first | (simp_all; done) | exact (Bool.and_eq_true_iff.1 h).1 | exact Bool.and_eq_true_iff.2 ⟨h, h⟩) rfl (okBo (eq_tL w0 (nameL k))) ?_
  refine rNeed (d := 26) (x := vB (cond2 false (decide (w0 = nameL k)) false)) rfl rfl rfl (fun h => h) ?_
  refine rOk (d := 27) (x := vB (cond2 false (decide (w0 = nameL k)) false)) rfl rfl rfl ?_
  refine gOk (d := 28) (x := vN k) (g := cond2 false (decide (w0 = nameL k)) false) rfl rfl rfl rfl rfl rfl ?_
  refine gOk (d := 29) (x := .sl 1 ((w0 :: t).map rowS) false) (g := cond2 false (decide (w0 = nameL k)) false) rfl rfl rfl rfl rfl rfl ?_
  refine gNeedS (d := 30) (x := .sl 1 (t.map rowS) (false && true)) (g := cond2 false (decide (w0 = nameL k)) false) rfl rfl rfl rfl (fun h => h) rfl (needS (sliceL rowS (w0 :: t) 1)) (fun hg => Bool.noConfusion hg) ?_
  refine gCallS (args := [.ptr 0 0, vN k, .sl 1 (t.map rowS) (false && true)]) (d := 31) (x := vB false) (g := cond2 false (decide (w0 = nameL k)) false) rfl rfl rfl rfl (fun h => by first | (simp_all; done) | exact (Bool.and_eq_true_iff.1 h).1 | exact Bool.and_eq_true_iff.2 ⟨h, h⟩) rfl rfl rfl (.inr ⟨rfl, (by repeat' (first | exact trivial | constructor))⟩) rfl (fun hg => Bool.noConfusion hg) ?_
  refine rNeed (d := 32) (x := vB (cond2 (cond2 false (decide (w0 = nameL k)) false) false false)) rfl rfl rfl (fun h => h) ?_
  refine rOk (d := 33) (x := vB (cond2 (cond2 false (decide (w0 = nameL k)) false) false false)) rfl rfl rfl ?_
  refine gOk (d := 34) (x := .agg [vI p.mode, vI p.width, vI p.rob, vI p.queue, vI p.stores, vI p.slots, vI p.sets, vI p.ways, .sl 1 (p.lat.map rowI) (fl 9 k p.lat), vB p.tables, .sl 1 (p.tape.map rowU) (fl 10 k p.tape), .sl 1 (p.prog.map rowU) (fl 11 k p.prog), vS p.mem, vI p.cycles]) (g := cond2 (cond2 false (decide (w0 = nameL k)) false) false false) rfl rfl rfl rfl rfl rfl ?_
  refine gCallS (args := [.agg [vI p.mode, vI p.width, vI p.rob, vI p.queue, vI p.stores, vI p.slots, vI p.sets, vI p.ways, .sl 1 (p.lat.map rowI) (fl 9 k p.lat), vB p.tables, .sl 1 (p.tape.map rowU) (fl 10 k p.tape), .sl 1 (p.prog.map rowU) (fl 11 k p.prog), vS p.mem, vI p.cycles]]) (d := 35) (x := vB false) (g := cond2 (cond2 false (decide (w0 = nameL k)) false) false false) rfl rfl rfl rfl (fun h => h) rfl rfl rfl (.inl rfl) rfl (fun hg => Bool.noConfusion hg) ?_
  refine rNeed (d := 36) (x := vB (cond2 (cond2 (cond2 false (decide (w0 = nameL k)) false) false false) false false)) rfl rfl rfl (fun h => h) ?_
  refine rOk (d := 4) (x := vB (cond2 (cond2 (cond2 false (decide (w0 = nameL k)) false) false false) false false)) rfl rfl rfl ?_
  refine rEnd (n' := 37) rfl ?_
  refine cRet ?_
  exact finH (rs := [vB false]) rfl (r := vB false) (h' := heapF [(0, .box (planL p (fl 9 k p.lat) (fl 10 k p.tape) (fl 11 k p.prog))), (1, .box [vS (cutL 10 r).2.1])]) (σ := fun z => z) (.inr ⟨.inl hE, rfl, _, _, _, _, rfl⟩) rfl (weak_ret (fun z => z) rfl rfl ⟨⟨rfl, rfl, rfl⟩, ⟨rfl, rfl, rfl⟩, trivial⟩ rfl)
set_option maxRecDepth 100000 in
set_option maxHeartbeats 4000000 in
theorem hLine_1 (L : LibS) (p : ScPlan) (r : W) (k : Nat) (hk : k < 14) (hp : p.ok) (hr : r.length ≤ 100000) (hE : (cutL 10 r).2.2 = true) (hN : ¬ (splitL 32 (cutL 10 r).1).headD [] = nameL k)  : HSem C0.P C0.G 20 [vN k, .ptr 1 0, .ptr 0 0] (heapF [(0, .box (planF p k)), (1, .box [vS r])]) 2 (LineP p r k) := by
  refine HCall.intro (C := C0) (s := 2) c0Ok.at Tryd.func20 rfl rfl (by kernel_rfl) rfl rfl ?_
  refine cSeq ?_
  refine cReg rfl ?_
  refine rOk (d := 4) (x := vB false) rfl rfl rfl ?_
  refine rEnd (n' := 3) rfl ?_
  refine cSeq ?_
  refine cReg rfl ?_
  refine rOk (d := 10) (x := vS r) rfl rfl rfl ?_
  refine rCall (args := [vS r, .v (.string (⟨#[10]⟩ : ByteArray))]) (d := 11) (x := .tup [vS ((cutL 10 r).1), vS ((cutL 10 r).2.1), vB true]) rfl rfl rfl rfl (.inl rfl) rfl ((show AV.tup [vS (cutL 10 r).1, vS (cutL 10 r).2.1, vB (cutL 10 r).2.2] = .tup [vS (cutL 10 r).1, vS (cutL 10 r).2.1, vB true] from by rw [hE]) ▸ L.cut r (by omega)) ?_
  refine rOk (d := 9) (x := .tup [vS ((cutL 10 r).1), vS ((cutL 10 r).2.1), vB true]) rfl rfl rfl ?_
  refine rOk (d := 12) (x := vS ((cutL 10 r).1)) rfl rfl rfl ?_
  refine rOk (d := 13) (x := vS ((cutL 10 r).2.1)) rfl rfl rfl ?_
  refine rOk (d := 14) (x := vB true) rfl rfl rfl ?_
  refine rOk (d := 5) (x := vS ((cutL 10 r).1)) rfl rfl rfl ?_
  refine rOk (d := 6) (x := vS ((cutL 10 r).2.1)) rfl rfl rfl ?_
  refine rOk (d := 7) (x := vB true) rfl rfl rfl ?_
  refine rEnd (n' := 12) rfl ?_
  refine cSeq ?_
  refine cReg rfl ?_
  refine rOk (d := 15) (x := vS ((cutL 10 r).2.1)) rfl rfl rfl ?_
  refine rFx0 (h' := upd _ 1 (some (.box [vS ((cutL 10 r).2.1)]))) rfl rfl (rfl) (trivial) ?_
  refine rEnd (n' := 14) rfl ?_
  refine cSeq ?_
  refine cReg rfl ?_
  refine rOk (d := 16) (x := vS ((cutL 10 r).1)) rfl rfl rfl ?_
  obtain ⟨w0, t, hwt⟩ := split_cons 32 (cutL 10 r).1
  have hcl := cut_le 10 r
  have hsl := split_len 32 (cutL 10 r).1
  have hws := hwt
  rw [hwt] at hsl
  have ht0 : (w0 :: t).length ≤ 900000 := by omega
  have hw0 : ∀ x ∈ w0 :: t, x.length ≤ 900000 := fun x hx => by have := hsl.2 x hx; omega
  have ht : t.length ≤ 900000 := Nat.le_trans (Nat.le_succ _) ht0
  have hw : ∀ x ∈ t, x.length ≤ 900000 := fun x hx => hw0 x (List.mem_cons_of_mem _ hx)
  have hN2 : ¬ w0 = nameL k := by rw [hwt] at hN; exact hN
  refine rCall (args := [vS ((cutL 10 r).1), .v (.string (⟨#[32]⟩ : ByteArray))]) (d := 17) (x := .sl 1 ((w0 :: t).map rowS) false) rfl rfl rfl rfl (.inl rfl) rfl (hwt ▸ L.split (cutL 10 r).1 (by omega)) ?_
  refine rOk (d := 8) (x := .sl 1 ((w0 :: t).map rowS) false) rfl rfl rfl ?_
  refine rEnd (n' := 17) rfl ?_
  refine cSeq ?_
  refine cReg rfl ?_
  refine rOk (d := 18) (x := vB true) rfl rfl rfl ?_
  refine rOk (d := 19) (x := vB true) rfl rfl rfl ?_
  refine gOk (d := 20) (x := .sl 1 ((w0 :: t).map rowS) false) (g := true) rfl rfl rfl rfl rfl rfl ?_
  refine gIdxS (rowS w0) (d := 21) (x := .dp 1 0 (rowS w0)) (g := true) rfl rfl rfl rfl (fun h => h) rfl rfl (fun hg => ⟨by decide, getM (l := w0 :: t) (k := 0) rfl⟩) rfl ?_
  refine gOkS (d := 22) (x := vS w0) (g := true) rfl rfl rfl rfl (fun h => h) rfl rfl ?_
  refine gOk (d := 23) (x := vN k) (g := true) rfl rfl rfl rfl rfl rfl ?_
  refine gCallS (args := [vN k]) (d := 24) (x := vS (nameL k)) (g := true) rfl rfl rfl rfl (fun h => h) rfl rfl rfl (.inl rfl) rfl (fun hg => dName k hk) ?_
  refine gOkS (d := 25) (x := vB false) (g := true) rfl rfl rfl rfl (fun h => by first | (simp_all; done) | exact (Bool.and_eq_true_iff.1 h).1 | exact Bool.and_eq_true_iff.2 ⟨h, h⟩) rfl (okBo ((eq_tL w0 (nameL k)).trans (decide_eq_false hN2))) ?_
  refine rNeed (d := 26) (x := vB (cond2 true false false)) rfl rfl rfl (fun h => h) ?_
  refine rOk (d := 27) (x := vB (cond2 true false false)) rfl rfl rfl ?_
  refine gOk (d := 28) (x := vN k) (g := cond2 true false false) rfl rfl rfl rfl rfl rfl ?_
  refine gOk (d := 29) (x := .sl 1 ((w0 :: t).map rowS) false) (g := cond2 true false false) rfl rfl rfl rfl rfl rfl ?_
  refine gNeedS (d := 30) (x := .sl 1 (t.map rowS) (false && true)) (g := cond2 true false false) rfl rfl rfl rfl (fun h => h) rfl (needS (sliceL rowS (w0 :: t) 1)) (fun hg => Bool.noConfusion hg) ?_
  refine gCallS (args := [.ptr 0 0, vN k, .sl 1 (t.map rowS) (false && true)]) (d := 31) (x := vB false) (g := cond2 true false false) rfl rfl rfl rfl (fun h => by first | (simp_all; done) | exact (Bool.and_eq_true_iff.1 h).1 | exact Bool.and_eq_true_iff.2 ⟨h, h⟩) rfl rfl rfl (.inr ⟨rfl, (by repeat' (first | exact trivial | constructor))⟩) rfl (fun hg => Bool.noConfusion hg) ?_
  refine rNeed (d := 32) (x := vB (cond2 (cond2 true false false) false false)) rfl rfl rfl (fun h => h) ?_
  refine rOk (d := 33) (x := vB (cond2 (cond2 true false false) false false)) rfl rfl rfl ?_
  refine gOk (d := 34) (x := .agg [vI p.mode, vI p.width, vI p.rob, vI p.queue, vI p.stores, vI p.slots, vI p.sets, vI p.ways, .sl 1 (p.lat.map rowI) (fl 9 k p.lat), vB p.tables, .sl 1 (p.tape.map rowU) (fl 10 k p.tape), .sl 1 (p.prog.map rowU) (fl 11 k p.prog), vS p.mem, vI p.cycles]) (g := cond2 (cond2 true false false) false false) rfl rfl rfl rfl rfl rfl ?_
  refine gCallS (args := [.agg [vI p.mode, vI p.width, vI p.rob, vI p.queue, vI p.stores, vI p.slots, vI p.sets, vI p.ways, .sl 1 (p.lat.map rowI) (fl 9 k p.lat), vB p.tables, .sl 1 (p.tape.map rowU) (fl 10 k p.tape), .sl 1 (p.prog.map rowU) (fl 11 k p.prog), vS p.mem, vI p.cycles]]) (d := 35) (x := vB false) (g := cond2 (cond2 true false false) false false) rfl rfl rfl rfl (fun h => h) rfl rfl rfl (.inl rfl) rfl (fun hg => Bool.noConfusion hg) ?_
  refine rNeed (d := 36) (x := vB (cond2 (cond2 (cond2 true false false) false false) false false)) rfl rfl rfl (fun h => h) ?_
  refine rOk (d := 4) (x := vB (cond2 (cond2 (cond2 true false false) false false) false false)) rfl rfl rfl ?_
  refine rEnd (n' := 37) rfl ?_
  refine cRet ?_
  exact finH (rs := [vB false]) rfl (r := vB false) (h' := heapF [(0, .box (planL p (fl 9 k p.lat) (fl 10 k p.tape) (fl 11 k p.prog))), (1, .box [vS (cutL 10 r).2.1])]) (σ := fun z => z) (.inr ⟨.inr (stepM_name hN), rfl, _, _, _, _, rfl⟩) rfl (weak_ret (fun z => z) rfl rfl ⟨⟨rfl, rfl, rfl⟩, ⟨rfl, rfl, rfl⟩, trivial⟩ rfl)
end Go.Proofs.YtpefnjbmbfdmmaaDoor
