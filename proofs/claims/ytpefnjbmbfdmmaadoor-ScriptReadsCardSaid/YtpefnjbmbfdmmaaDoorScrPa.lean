/- Package script: how a text is parsed: a walk on the second machine. -/
import Derived.Test.YtpefnjbmbfdmmaaDoorAbsT
import Derived.Test.YtpefnjbmbfdmmaaDoorScrL0
import Derived.Test.YtpefnjbmbfdmmaaDoorScrL1
import Derived.Test.YtpefnjbmbfdmmaaDoorScrL2
namespace Go.Proofs.YtpefnjbmbfdmmaaDoor
set_option maxRecDepth 100000
set_option maxHeartbeats 4000000
open Go.RowKit Go.Lib

theorem hLine (L : LibS) (p : ScPlan) (r : W) (k : Nat) (hk : k < 14) (hp : p.ok) (hr : r.length ≤ 100000) :
    HSem C0.P C0.G 20 [vN k, .ptr 1 0, .ptr 0 0] (heapF [(0, .box (planF p k)), (1, .box [vS r])]) 2 (LineP p r k) := by
  rcases hE : (cutL 10 r).2.2 with _ | _
  · exact hLine_0 L p r k hk hp hr hE
  · by_cases hN : (splitL 32 (cutL 10 r).1).headD [] = nameL k
    · exact hLine_2 L p r k hk hp hr hE hN
    · exact hLine_1 L p r k hk hp hr hE hN
/-- What one line makes of memory. -/
def LineK (p : ScPlan) (r : W) (k n m : Nat) (K : AH) (x : AV) (h' : AH) : Prop :=
  (∃ q, ((cutL 10 r).2.2 = true ∧ stepM okM p k (cutL 10 r).1 = some q ∧ q.ok) ∧ x = vB true ∧ h' = upd (upd K n (some (.box (planF q (k + 1))))) m (some (.box [vS (cutL 10 r).2.1]))) ∨
  (((cutL 10 r).2.2 = false ∨ stepM okM p k (cutL 10 r).1 = none) ∧ x = vB false ∧ ∃ q a b c, h' = upd (upd K n (some (.box (planL q a b c)))) m (some (.box [vS (cutL 10 r).2.1])))
theorem lineAt (L : LibS) {p : ScPlan} {r : W} {k n m : Nat} {K : AH} {s2 : Nat} (hk : k < 14) (hp : p.ok) (hr : r.length ≤ 100000) (hn : Nat.blt n s2 = true) (hm : Nat.blt m s2 = true) (hnm : n ≠ m) (hK : K n = some (.box (planF p k))) (hK2 : K m = some (.box [vS r])) :
    HSem C0.P C0.G 20 [vN k, .ptr m 0, .ptr n 0] K s2 (LineK p r k n m K) := by
  have two : ∀ x, x < 2 → x = 0 ∨ x = 1 := fun x hx => by omega
  refine (hLine L p r k hk hp hr).frame (fun x => match x with | 0 => n | _ => m) K s2 rfl (fun x hx => ?_) (fun x blk0 hx => ?_) (fun x y hx hy hxy => ?_) rfl _ fun r' h' hP => ?_
  · match x with
    | 0 => omega
    | 1 => omega
    | x + 2 => exact absurd rfl hx
  · match x, hx with
    | 0, hx => injection hx with hx; subst hx; exact ⟨Nat.le_of_ble_eq_true hn, rfl, hK⟩
    | 1, hx => injection hx with hx; subst hx; exact ⟨Nat.le_of_ble_eq_true hm, rfl, hK2⟩
    | x + 2, hx => cases hx
  · rcases two x hx with rfl | rfl <;> rcases two y hy with rfl | rfl
    · rfl
    · exact absurd hxy hnm
    · exact absurd hxy.symm hnm
    · rfl
  · have key : ∀ q a b c, h' = heapF [(0, .box (planL q a b c)), (1, .box [vS (cutL 10 r).2.1])] → ∀ y blk, upd (upd K n (some (.box (planL q a b c)))) m (some (.box [vS (cutL 10 r).2.1])) y = some blk → (∃ x blk0, h' x = some blk0 ∧ y = newN (fun x => match x with | 0 => n | _ => m) 2 s2 x ∧ blk = mapB (newN (fun x => match x with | 0 => n | _ => m) 2 s2) blk0) ∨ (K y = some blk ∧ ∀ x, x < 2 → (match x with | 0 => n | _ => m) ≠ y) := by
      intro q a b c hh y blk0 hy
      by_cases he : y = m
      · subst he
        rw [upd_same] at hy; injection hy with hy
        exact .inl ⟨1, .box [vS (cutL 10 r).2.1], by rw [hh]; rfl, rfl, by rw [← hy]; rfl⟩
      · rw [upd_other _ _ he] at hy
        by_cases he2 : y = n
        · subst he2
          rw [upd_same] at hy; injection hy with hy
          exact .inl ⟨0, .box (planL q a b c), by rw [hh]; rfl, rfl, by rw [← hy]; rfl⟩
        · rw [upd_other _ _ he2] at hy
          refine .inr ⟨hy, fun x hx => ?_⟩
          rcases two x hx with rfl | rfl
          · exact fun q => he2 q.symm
          · exact fun q => he q.symm
    rcases hP with ⟨q, h1, rfl, h2⟩ | ⟨h1, rfl, q, a, b, c, h2⟩
    · exact ⟨_, .inl ⟨q, h1, rfl, rfl⟩, key _ _ _ _ h2⟩
    · exact ⟨_, .inr ⟨h1, rfl, q, a, b, c, rfl⟩, key _ _ _ _ h2⟩
theorem go_badM {p0 p : ScPlan} {s r : W} {k : Nat} (h : goG (stepM okM) p0 s k = .ok (p, r)) (hc : (cutL 10 r).2.2 = false ∨ stepM okM p k (cutL 10 r).1 = none) : goG (stepM okM) p0 s (k + 1) = .error (k + 1) := go_bad h hc
theorem dCleanZ : DCall C0 18 [.agg [vI 0, vI 0, vI 0, vI 0, vI 0, vI 0, vI 0, vI 0, .sl 0 [] true, vB false, .sl 0 [] true]] (.agg [vI 0, vI 1, vI 2, vI 1, vI 1, vI 2, vI 1, vI 1, .sl 1 [] false, vB false, .sl 1 [] false]) :=
  (dCleanCf cfZ true true ⟨by decide, by decide, fun x h => absurd h List.not_mem_nil⟩).amono1 fun S w v h => rep_nil_agg (i := 10) (n := 1) (rep_nil_agg (i := 8) (n := 1) h rfl) rfl
theorem agg_closed (p : ScPlan) (a b c : Bool) : closedA (.agg (planL p a b c)) = true := rfl

theorem dParse0 (L : LibS) (s : List UInt8) (hs : s.length ≤ 100000) : DCall C0 7 [vS s] (resP0 (parseG (stepM okM) plO plZ s)) := by
  refine DCall.intro c0Ok Tryd.func7 rfl rfl (by kernel_rfl) rfl <| cSeq <| cReg rfl <| rAl 0 rfl rfl <| oR 2 rfl <| rE 3 <| cSeqG <| cReg rfl <| rOk (x := .agg [vI 0, vI 0, vI 0, vI 0, vI 0, vI 0, vI 0, vI 0, .sl 0 ([]) true, vB false, .sl 0 ([]) true]) rfl rfl rfl <| rCl rfl (.inl rfl) (dCleanZ) <| rCl rfl (.inl rfl) (cleanM_nil ▸ dClean [] (by decide)) <| rOk (x := .agg [vI 0, vI 1, vI 2, vI 1, vI 1, vI 2, vI 1, vI 1, .sl 1 (([] : List Int).map rowI) false, vB false, .sl 1 (([] : List Nat).map rowU) false, .sl 0 ([]) true, vS (List.replicate 16 0), vI 0]) rfl rfl rfl <| rAl 7 rfl rfl <| rSt rfl <| rE 9 <| .mk _ (.step none (Ghost.of_lists (l := [(0, vS s), (2, .ptr 0 0), (3, vI 0), (4, vI 0), (5, .ptr 7 0)]) (hp := [(0, .box [vI 0, vI 0, vI 0, vI 0, vI 0, vI 0, vI 0, vI 0, .sl 0 ([]) true, vB false, .sl 0 ([]) true, .sl 0 ([]) true, .v (.string (⟨#[]⟩ : ByteArray)), vI 0]), (7, .box [vI 0, vI 1, vI 2, vI 1, vI 1, vI 2, vI 1, vI 1, .sl 1 (([] : List Int).map rowI) false, vB false, .sl 1 (([] : List Nat).map rowU) false, .sl 1 (([] : List Nat).map rowU) false, vS (List.replicate 16 0), vI 0])]) trivial ⟨.refl _, .refl _, .refl _, .refl _, .refl _, trivial⟩ ⟨⟨trivial, _, rfl, .refl _⟩, ⟨trivial, _, rfl, LeB.boxL ⟨.refl _, .refl _, .refl _, .refl _, .refl _, .refl _, .refl _, .refl _, .refl _, .refl _, .refl _, .nil 1 false, .refl _, .refl _, trivial⟩⟩, trivial⟩) (.refl _)) ?_
  refine cSeq <| cReg rfl <| oR 1 rfl <| rAl 10 rfl rfl <| rSt rfl <| rE 12 <| cSeq <| cReg rfl <| rOk (x := .clo 20 [] [.ptr 10 0, .ptr 7 0]) rfl rfl rfl <| oR 1 rfl <| rE 14 <| cSeq <| cSeq <| cReg rfl <| oR 1 rfl <| rE 15 ?_
  refine cBlock <| cLoop (κ := Nat × ScPlan × W) (fun z => ⟨slotsF [(2, .ptr 0 0), (3, vI 0), (4, vI 0), (5, .ptr 7 0), (6, .ptr 10 0), (7, .clo 20 [] [.ptr 10 0, .ptr 7 0]), (15, vN z.1)], heapF [(0, .box [vI 0, vI 0, vI 0, vI 0, vI 0, vI 0, vI 0, vI 0, .sl 0 ([]) true, vB false, .sl 0 ([]) true, .sl 0 ([]) true, .v (.string (⟨#[]⟩ : ByteArray)), vI 0]), (7, .box [vI z.2.1.mode, vI z.2.1.width, vI z.2.1.rob, vI z.2.1.queue, vI z.2.1.stores, vI z.2.1.slots, vI z.2.1.sets, vI z.2.1.ways, .sl 1 (z.2.1.lat.map rowI) (fl 9 z.1 z.2.1.lat), vB z.2.1.tables, .sl 1 (z.2.1.tape.map rowU) (fl 10 z.1 z.2.1.tape), .sl 1 (z.2.1.prog.map rowU) (fl 11 z.1 z.2.1.prog), vS z.2.1.mem, vI z.2.1.cycles]), (10, .box [vS z.2.2])], 15⟩) (fun z => z.1 ≤ 14 ∧ goG (stepM okM) plO s z.1 = .ok (z.2.1, z.2.2) ∧ z.2.1.ok ∧ z.2.2.length ≤ s.length) (fun z => 14 - z.1) (0, plO, s) (fun s => s) (Weak.of_lists (fun s => s) wT wH rfl) (⟨by show 0 ≤ 14; omega, rfl, plO_ok, Nat.le_refl _⟩) ?_
  intro z hz
  have hkk : z.1 ≤ 14 := hz.1
  have hgo := hz.2.1
  have hp := hz.2.2.1
  have hrl := hz.2.2.2
  refine cSeq <| cReg rfl <| rOk (x := vB (decide (z.1 < 14))) rfl rfl (okB (ltN _ _)) <| rE 16 <| cSeq ?_
  refine cCond rfl (fun h1 => ?_) (fun h1 => ?_)
  · have h1p := of_decide_eq_true h1
    refine cSkip <| cSeq <| cBlock <| cSeq <| cReg rfl <| oR 2 rfl <| rE 18 <| cSeq <| cReg rfl <| oR 2 rfl <| rHCall (args := [vN z.1, .ptr 10 0, .ptr 7 0]) (d := 20) _ rfl rfl rfl (lineAt L (by omega) hp (by omega) (by decide) (by decide) (by decide) rfl rfl) ?_
    rintro _ _ (⟨q, ⟨hE, hst, hqo⟩, rfl, rfl⟩ | ⟨hbad, rfl, q, a2, b2, c2, rfl⟩)
    · refine oR 1 rfl <| rE 22 ?_
      refine cCond rfl (fun h => by cases h) (fun _ => ?_)
      refine cSkip <| cReg rfl ?_
      have b1 : z.1 + 1 ≤ 15 := Nat.add_le_add hkk (Nat.le_refl 1)
      refine rOk (x := vN (z.1 + 1)) rfl rfl (okI (wrapI64 b1 rfl)) <| oR 1 rfl <| rE 24 ?_
      refine ⟨(z.1 + 1, q, (cutL 10 z.2.2).2.1), fun s => s, Weak.of_lists (fun s => s) wT wH rfl, ⟨by show z.1 + 1 ≤ 14; omega, go_on hgo hE hst, hqo, by have := (cut_le 10 z.2.2).2; show (cutL 10 z.2.2).2.1.length ≤ s.length; omega⟩, by show 14 - (z.1 + 1) < 14 - z.1; omega⟩
    · refine oR 1 rfl <| rE 22 ?_
      refine cCond rfl (fun _ => ?_) (fun h => by cases h)
      refine cSeq <| cReg rfl <| rOk (x := .agg [vI 0, vI 0, vI 0, vI 0, vI 0, vI 0, vI 0, vI 0, .sl 0 ([]) true, vB false, .sl 0 ([]) true, .sl 0 ([]) true, .v (.string (⟨#[]⟩ : ByteArray)), vI 0]) rfl rfl rfl <| oR 1 rfl ?_
      have b2 : z.1 + 1 ≤ 15 := Nat.add_le_add hkk (Nat.le_refl 1)
      refine rOk (x := vN (z.1 + 1)) rfl rfl (okI (wrapI64 b2 rfl)) <| rSt rfl <| oR 2 rfl <| rE 28 <| cRet <| finTA rfl (by repeat' (first | exact trivial | constructor)) rfl ?_
      rw [parse_err (go_badM hgo hbad) (by omega), resP0_err]; rfl
  · have h1p := of_decide_eq_false h1
    refine cExit <| cSeq <| cSeq <| cReg rfl <| oR 1 rfl <| rOk (x := vB (!decide (z.2.2 = []))) rfl rfl (okBo (congrArg (!·) (eq_tL z.2.2 ([])))) <| rE 18 ?_
    refine cCond rfl (fun h2 => ?_) (fun h2 => ?_)
    · refine cSeq <| cReg rfl <| rOk (x := .agg [vI 0, vI 0, vI 0, vI 0, vI 0, vI 0, vI 0, vI 0, .sl 0 ([]) true, vB false, .sl 0 ([]) true, .sl 0 ([]) true, .v (.string (⟨#[]⟩ : ByteArray)), vI 0]) rfl rfl rfl <| rSt rfl <| oR 2 rfl <| rE 22 <| cRet ?_
      have hk14 : z.1 = 14 := by have := of_decide_eq_false h1; omega
      rw [hk14] at hgo
      refine finTA rfl (by repeat' (first | exact trivial | constructor)) rfl ?_
      rw [parse_rest hgo (by simpa using h2)]; rfl
    · refine cSkip <| cSeq <| cReg rfl <| oR 1 rfl <| rSt rfl <| oR 2 rfl <| rE 22 <| cRet ?_
      have hk14 : z.1 = 14 := by have := of_decide_eq_false h1; omega
      rw [hk14] at hgo
      have hr : z.2.2 = [] := by simpa using h2
      rw [hr] at hgo
      refine finTA rfl (by repeat' (first | exact trivial | constructor)) rfl ?_
      rw [parse_end hgo]; show AV.tup [.agg (planL z.2.1 (fl 9 z.1 _) (fl 10 z.1 _) (fl 11 z.1 _)), vI 0, vI 0] = _; rw [hk14]; rfl
theorem dParse (L : LibS) (s : W) (hs : s.length ≤ 100000) : DCall C0 7 [vS s] (resP (parseG (stepR okM) plO plZ s)) := by
  rw [← parse_eq]; exact resP_of (dParse0 L s hs)
theorem rParse1 (L : LibS) (s : W) (hs : s.length ≤ 100000) : DCall C0 8 [vS s] (resP (parseG (stepR okM) plO plZ s)) := resP_of (rParse s hs L.itoa)

end Go.Proofs.YtpefnjbmbfdmmaaDoor
