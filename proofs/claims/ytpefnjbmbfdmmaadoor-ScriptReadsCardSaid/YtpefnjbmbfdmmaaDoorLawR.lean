/- The law ScriptReads: walks on the second machine. -/
import Derived.Test.YtpefnjbmbfdmmaaDoorAbsT
import Derived.Test.YtpefnjbmbfdmmaaDoorLibW
namespace Go.Proofs.YtpefnjbmbfdmmaaDoor
set_option maxRecDepth 100000
set_option maxHeartbeats 4000000
open Go.RowKit Go.Lib

/-- A text, parsed. -/
noncomputable abbrev PZ (s : W) : ScPlan × Int × Int := parseG (stepR okM) plO plZ s
theorem plZ_ok : plZ.ok := ⟨by decide, by decide, fun x h => absurd h List.not_mem_nil, by decide, fun x h => absurd h List.not_mem_nil, by decide⟩
theorem go_ok {s : W} (hs : s.length ≤ 100000) : ∀ {k : Nat} {p : ScPlan} {r : W}, goG (stepR okM) plO s k = .ok (p, r) → p.ok ∧ r.length ≤ s.length
  | 0, p, r, h => by
    have e : (plO, s) = (p, r) := by injection h
    injection e with e1 e2; subst e1 e2; exact ⟨plO_ok, Nat.le_refl _⟩
  | k + 1, p, r, h => by
    unfold goG at h
    split at h
    · cases h
    · rename_i p1 r1 h1
      obtain ⟨h2, h3⟩ := go_ok hs h1
      split at h
      · split at h
        · rename_i q hq
          have e : (q, (cutL 10 r1).2.1) = (p, r) := by injection h
          injection e with e1 e2; subst e1 e2
          obtain ⟨e3, _, _⟩ := stepR_iff.1 hq
          have hc := cut_le 10 r1
          have hsl := split_len 32 (cutL 10 r1).1
          obtain ⟨w0, t, hwt⟩ := split_cons 32 (cutL 10 r1).1
          rw [hwt] at hsl e3
          refine ⟨?_, Nat.le_trans hc.2 h3⟩
          rw [e3]
          exact read_ok h2 (w0 := w0) (t := t) (by have := hsl.1; omega) (fun x hx => by have := hsl.2 x hx; omega) k
        · cases h
      · cases h
theorem pz_ok {s : W} (hs : s.length ≤ 100000) : (PZ s).1.ok := by
  show (parseG (stepR okM) plO plZ s).1.ok
  unfold parseG
  split
  · exact plZ_ok
  · rename_i p r h
    split
    · exact (go_ok hs h).1
    · exact plZ_ok
theorem dParseZ (s : W) (hs : s.length ≤ 100000) : DCall C0 7 [vS s] (.tup [.agg (planE (PZ s).1), vI (PZ s).2.1, vI (PZ s).2.2]) := dParse libS s hs
theorem rParseZ (s : W) (hs : s.length ≤ 100000) : DCall C0 8 [vS s] (.tup [.agg (planE (PZ s).1), vI (PZ s).2.1, vI (PZ s).2.2]) := rParse1 libS s hs
theorem line_small {p : ScPlan} (hR : RightL okM p) {k : Nat} (hk : k < 14) : (LineL p k).length ≤ 700 := by
  have h1 := name_len k hk
  have hi : (itoa (cntL p k)).length ≤ 9 := itoa_len (cnt_ok hR hk).1 (cnt_ok hR hk).2
  have two : ∀ a b : List UInt8, (joinL 32 [a, b]).length = a.length + 1 + b.length := fun a b => by show (a ++ 32 :: b).length = _; rw [List.length_append, List.length_cons]; omega
  have h9 : (joinL 32 (nameL 9 :: p.lat.map itoa)).length ≤ 700 := by
    rw [join_tail, List.length_append]
    have := tailT_len (f := itoa) (l := p.lat) (fun x hx => by have := (hR 9).2 x hx; exact itoa_len (by omega) (by omega)) p.lat.length
    have := name_len 9 (by decide); have := (hR 9).1; omega
  have hd : ∀ (l : List Nat) (w : List UInt8), l.length ≤ 64 → w.length ≤ 6 → (joinL 32 (w :: l.map fun a => digH a 8)).length ≤ 700 := fun l w hl hw => by
    rw [join_tail, List.length_append]
    have := tailT_len (f := fun a => digH a 8) (l := l) (fun x _ => by rw [digH_len]; omega) l.length
    omega
  have hm : (hexL p.mem).length ≤ 512 := by
    have := hexL_len p.mem p.mem.length
    rw [List.take_length] at this
    have := okM_len (hR 12); omega
  have ht : (tableW p.tables).length ≤ 6 := by cases p.tables <;> decide
  have ho := mode_len p.mode
  have q1 : (joinL 32 [nameL k, itoa (cntL p k)]).length ≤ 700 := by rw [two]; omega
  have q2 : (joinL 32 [nameL k, modeW p.mode]).length ≤ 700 := by rw [two]; omega
  have q3 : (joinL 32 [nameL k, tableW p.tables]).length ≤ 700 := by rw [two]; omega
  have q4 : (joinL 32 [nameL k, hexL p.mem]).length ≤ 700 := by rw [two]; omega
  rcases k with _ | _ | _ | _ | _ | _ | _ | _ | _ | _ | _ | _ | _ | _ | k
  · exact q2
  · exact q1
  · exact q1
  · exact q1
  · exact q1
  · exact q1
  · exact q1
  · exact q1
  · exact q3
  · exact h9
  · exact hd p.tape (nameL 10) (hR 10).1 h1
  · exact hd p.prog (nameL 11) (hR 11).1 h1
  · exact q4
  · exact q1
  · exfalso; omega
theorem text_small {p : ScPlan} (hR : RightL okM p) : ∀ {k : Nat}, k ≤ 14 → (textTo p k).length ≤ 701 * k
  | 0, _ => Nat.zero_le _
  | k + 1, h => by
    have ih := text_small hR (k := k) (by omega)
    have := line_small hR (k := k) (by omega)
    show (textTo p k ++ (LineL p k ++ [10])).length ≤ _
    rw [List.length_append, List.length_append, List.length_singleton]; omega

theorem dLeast0  : DCall C0 31 [] (.agg [vI 0, vI 1, vI 2, vI 1, vI 1, vI 2, vI 1, vI 1, .sl 0 [] true, vB false, .sl 0 [] true, .sl 0 [] true, vS (List.replicate 16 0), vI 0]) := by
  refine DCall.intro c0Ok Tryd.func31 rfl rfl (by kernel_rfl) rfl <| cSeq <| cReg rfl <| rAl 0 rfl rfl <| rE 1 <| cSeq <| cReg rfl <| rOk (x := .agg [vI 0, vI 1, vI 2, vI 1, vI 1, vI 2, vI 1, vI 1, .sl 0 ([]) true, vB false, .sl 0 ([]) true]) rfl rfl rfl <| rFx (x := .osl 2 0 16 false) (h' := upd _ 2 (some (.arr ((List.replicate 16 0).map row8) 1))) rfl rfl (mk_eq (List.map_replicate (f := row8) (a := 0)).symm) (⟨by decide, by decide, by show ((16 : Nat) : Int) ≤ 1000000; omega⟩) <| rStr ((List.replicate 16 0)) (d := 3) rfl rfl rfl ((by show 0 + 16 ≤ ((List.replicate 16 (0 : UInt8)).map row8).length; rw [List.length_map, List.length_replicate]; omega)) (own8 (by rw [List.length_replicate]; omega)) <| rOk (x := .agg [vI 0, vI 1, vI 2, vI 1, vI 1, vI 2, vI 1, vI 1, .sl 0 ([]) true, vB false, .sl 0 ([]) true, .sl 0 ([]) true, vS (List.replicate 16 0), vI 0]) rfl rfl rfl <| rSt rfl <| rE 6 <| cRet ?_
  exact finTA rfl (by repeat' (first | exact trivial | constructor)) rfl rfl
theorem dLeast : DCall C0 31 [] (.agg (planE plO)) :=
  dLeast0.rmono fun S w v h => rep_nil_agg (i := 11) (n := 1) (rep_nil_agg (i := 10) (n := 1) (rep_nil_agg (i := 8) (n := 1) h rfl) rfl) rfl
theorem pz_text : PZ (textTo plO 14) = (plO, 0, 0) := parse_text plO_right plO_right
theorem dParseO : DCall C0 7 [vS (textTo plO 14)] (.tup [.agg (planE plO), vI 0, vI 0]) := by
  have h := dParseZ (textTo plO 14) (by have := text_small plO_right (k := 14) (Nat.le_refl _); omega)
  rw [pz_text] at h; exact h
theorem plO_rightP : rightP plO = true := (rightP_iff plO_ok).2 plO_right

theorem dAlive  : DCall C0 9 [] (vB true) := by
  refine DCall.intro c0Ok Tryd.func9 rfl rfl (by kernel_rfl) rfl <| cSeq <| cReg rfl <| oR 1 rfl <| rE 1 <| cSeq <| cReg rfl <| rCl rfl (.inl rfl) (dLeast) <| rCl rfl (.inl rfl) (eText plO _ _ _ plO_ok plO_right dItoa) <| rCl rfl (.inl rfl) (dParseO) <| oR 4 rfl <| rAl 8 rfl rfl <| rSt rfl <| oR 2 rfl <| rE 12 <| cSeq ?_
  refine cReg rfl <| oR 1 rfl <| rOk (x := vB (0 == 0)) rfl rfl rfl <| oR 1 rfl <| gN rfl <| gCallS (args := [.agg [vI plO.mode, vI plO.width, vI plO.rob, vI plO.queue, vI plO.stores, vI plO.slots, vI plO.sets, vI plO.ways, .sl 1 (plO.lat.map rowI) plO.lat.isEmpty, vB plO.tables, .sl 1 (plO.tape.map rowU) plO.tape.isEmpty, .sl 1 (plO.prog.map rowU) plO.prog.isEmpty, vS plO.mem, vI plO.cycles]]) (x := vB true) (g := 0 == 0) rfl rfl rfl rfl (fun h => h) rfl rfl rfl (.inl rfl) rfl (fun hg => plO_rightP ▸ dRight plO _ _ _ plO_ok) <| rNeed rfl rfl rfl (fun h => h) <| oR 1 rfl <| rE 19 <| cRet ?_
  exact finTA rfl trivial rfl rfl
theorem takeM {α : Type} (s : List α) (n : Nat) : s.take (min s.length n) = s.take n := by
  rcases Nat.le_total s.length n with h | h
  · rw [Nat.min_eq_left h, List.take_of_length_le (Nat.le_refl _), List.take_of_length_le h]
  · rw [Nat.min_eq_right h]
theorem likeP_self (p : ScPlan) : decide (LikeP p p) = true := decide_eq_true (likeP_eq.2 rfl)

theorem dReads (s : List UInt8) (hs : s.length ≤ 9223372036854775807) : DCall C0 3 [vS s] (vB true) := by
  refine DCall.intro c0Ok Tryd.func3 rfl rfl (by kernel_rfl) rfl ?_
  have hl5 : (s.take 5000).length ≤ 100000 := by rw [List.length_take]; omega
  have hpz := pz_ok hl5
  refine cSeq <| cReg rfl <| oR 1 rfl <| rE 1 <| cSeq <| cReg rfl <| oR 2 rfl <| rOk (x := vN s.length) rfl rfl rfl <| rOk (x := vN (min s.length 5000)) rfl rfl (minN64 s.length 5000) <| rNeed (x := vS (s.take 5000)) rfl rfl (needSt ((ext_to s (min s.length 5000)).trans (congrArg sB (takeM s 5000)))) (⟨Int.le_refl _, Int.natCast_nonneg _, Int.ofNat_le.2 (by show min s.length 5000 ≤ s.length; omega)⟩) <| oR 1 rfl <| rE 7 <| cSeq <| cReg rfl <| oR 1 rfl <| rCl rfl (.inl rfl) (dParseZ _ hl5) ?_
  refine oR 4 rfl <| rAl 13 rfl rfl <| rSt rfl <| oR 2 rfl <| rE 17 <| cSeq <| cReg rfl <| oR 1 rfl <| rCl rfl (.inl rfl) (rParseZ _ hl5) <| oR 4 rfl <| rAl 23 rfl rfl <| rSt rfl <| oR 2 rfl <| rE 27 <| cSeq <| cReg rfl ?_
  refine rCl rfl (.inl rfl) (dAlive) <| oR 1 rfl <| gN rfl <| gN rfl <| gBS (x := vB (((PZ (s.take 5000)).2.1) == ((PZ (s.take 5000)).2.1))) rfl (fun h => by first | (simp_all; done) | exact (Bool.and_eq_true_iff.1 h).1 | exact Bool.and_eq_true_iff.2 ⟨h, h⟩) rfl <| rNeed rfl rfl rfl (fun h => h) <| oR 1 rfl <| gN rfl <| gN rfl <| gBS (x := vB (((PZ (s.take 5000)).2.2) == ((PZ (s.take 5000)).2.2))) rfl (fun h => by first | (simp_all; done) | exact (Bool.and_eq_true_iff.1 h).1 | exact Bool.and_eq_true_iff.2 ⟨h, h⟩) rfl <| rNeed rfl rfl rfl (fun h => h) <| oR 1 rfl <| gN rfl <| gN rfl <| gCallS (args := [.agg [vI ((PZ (s.take 5000)).1.mode), vI ((PZ (s.take 5000)).1.width), vI ((PZ (s.take 5000)).1.rob), vI ((PZ (s.take 5000)).1.queue), vI ((PZ (s.take 5000)).1.stores), vI ((PZ (s.take 5000)).1.slots), vI ((PZ (s.take 5000)).1.sets), vI ((PZ (s.take 5000)).1.ways), .sl 1 (((PZ (s.take 5000)).1.lat).map rowI) (PZ (s.take 5000)).1.lat.isEmpty, vB ((PZ (s.take 5000)).1.tables), .sl 1 (((PZ (s.take 5000)).1.tape).map rowU) (PZ (s.take 5000)).1.tape.isEmpty, .sl 1 (((PZ (s.take 5000)).1.prog).map rowU) (PZ (s.take 5000)).1.prog.isEmpty, vS ((PZ (s.take 5000)).1.mem), vI ((PZ (s.take 5000)).1.cycles)], .agg [vI ((PZ (s.take 5000)).1.mode), vI ((PZ (s.take 5000)).1.width), vI ((PZ (s.take 5000)).1.rob), vI ((PZ (s.take 5000)).1.queue), vI ((PZ (s.take 5000)).1.stores), vI ((PZ (s.take 5000)).1.slots), vI ((PZ (s.take 5000)).1.sets), vI ((PZ (s.take 5000)).1.ways), .sl 1 (((PZ (s.take 5000)).1.lat).map rowI) (PZ (s.take 5000)).1.lat.isEmpty, vB ((PZ (s.take 5000)).1.tables), .sl 1 (((PZ (s.take 5000)).1.tape).map rowU) (PZ (s.take 5000)).1.tape.isEmpty, .sl 1 (((PZ (s.take 5000)).1.prog).map rowU) (PZ (s.take 5000)).1.prog.isEmpty, vS ((PZ (s.take 5000)).1.mem), vI ((PZ (s.take 5000)).1.cycles)]]) (x := vB (decide (LikeP (PZ (s.take 5000)).1 (PZ (s.take 5000)).1))) (g := cond2 (cond2 true (((PZ (s.take 5000)).2.1) == ((PZ (s.take 5000)).2.1)) false) (((PZ (s.take 5000)).2.2) == ((PZ (s.take 5000)).2.2)) false) rfl rfl rfl rfl (fun h => by first | (simp_all; done) | exact (Bool.and_eq_true_iff.1 h).1 | exact Bool.and_eq_true_iff.2 ⟨h, h⟩) rfl rfl rfl (.inl rfl) rfl (fun hg => rLike _ _ _ _ _ _ _ _ hpz hpz) <| rNeed rfl rfl rfl (fun h => h) ?_
  refine oR 1 rfl <| rE 44 <| cRet ?_
  exact finTA rfl trivial rfl (bool_eq (by simp [cAnd, likeP_self]))
end Go.Proofs.YtpefnjbmbfdmmaaDoor
