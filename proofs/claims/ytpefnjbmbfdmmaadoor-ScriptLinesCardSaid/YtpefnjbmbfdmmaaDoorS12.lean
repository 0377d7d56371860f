/- Joined texts. -/
import Derived.Lib.AppendIntMem
import Derived.Lib.SplitLaws
import Derived.Lib.IndexBytes
import Derived.WideShapes
import Derived.Test.YtpefnjbmbfdmmaaDoorRows
import Derived.Test.YtpefnjbmbfdmmaaDoorCards
import Derived.Test.YtpefnjbmbfdmmaaDoorTie
import Derived.ProofKit
import Derived.LaidMore
import Derived.Lay
import Derived.Lib.LaidTab
import Derived.Stop.Joined
import Derived.DataReads
import Derived.Deep.Strs
import Derived.Shelf.Strings.OnBuilder
import Derived.Shelf.Strings.BuilderK
import Derived.Test.YtpefnjbmbfdmmaaDoorProg
import Derived.Test.YtpefnjbmbfdmmaaDoorS7
import Derived.Test.YtpefnjbmbfdmmaaDoorS10
import Derived.Test.YtpefnjbmbfdmmaaDoorS11
namespace Go.Proofs.YtpefnjbmbfdmmaaDoor
set_option maxRecDepth 100000
set_option maxHeartbeats 4000000
open Go.RowKit Go.Lib
theorem hLine (L : LibS) (p : ScPlan) (r : W) (k : Nat) (hk : k < 14) (hp : p.ok) (hr : r.length ≤ 100000) :
    HSem C0.P C0.G 20 [vN k, .ptr 1 0, .ptr 0 0] (heapF [(0, .box (planF p k)), (1, .box [vS r])]) 2 (LineP p r k) := by
  rcases hE : (cutL 10 r).2.2 with _ | _
  · exact hLine_0 L p r k hk hp hr hE
  · by_cases hN : (splitL 32 (cutL 10 r).1).headD [] = nameL k
    · exact hLine_2 L p r k hk hp hr hE hN
    · exact hLine_1 L p r k hk hp hr hE hN
def LineK (p : ScPlan) (r : W) (k n m : Nat) (K : AH) (x : AV) (h' : AH) : Prop :=
  (∃ q, ((cutL 10 r).2.2 = true ∧ stepM okM p k (cutL 10 r).1 = some q ∧ q.ok) ∧ x = vB true ∧ h' = upd (upd K n (some (.box (planF q (k + 1))))) m (some (.box [vS (cutL 10 r).2.1]))) ∨
  (((cutL 10 r).2.2 = false ∨ stepM okM p k (cutL 10 r).1 = none) ∧ x = vB false ∧ ∃ q a b c, h' = upd (upd K n (some (.box (planL q a b c)))) m (some (.box [vS (cutL 10 r).2.1])))
theorem lineAt (L : LibS) {p : ScPlan} {r : W} {k n m : Nat} {K : AH} {s2 : Nat} (hk : k < 14) (hp : p.ok) (hr : r.length ≤ 100000) (hn : Nat.blt n s2 = true) (hm : Nat.blt m s2 = true) (hnm : n ≠ m) (hK : K n = some (.box (planF p k))) (hK2 : K m = some (.box [vS r])) :
    HSem C0.P C0.G 20 [vN k, .ptr m 0, .ptr n 0] K s2 (LineK p r k n m K) := by
  have two : ∀ x, x < 2 → x = 0 ∨ x = 1 := fun x hx => by omega
  refine (hLine L p r k hk hp hr).frame (fun x => match x with | 0 => n | _ => m) K s2 rfl (fun x hx => ?_) (fun x blk0 hx => ?_) (fun x y hx hy hxy => ?_) rfl _ fun r' h' hP => ?_
  · match x with
    | 0 => omega
    | 1 => omega
    | x + 2 => exact absurd rfl hx
  · match x, hx with
    | 0, hx => injection hx with hx; subst hx; exact ⟨Nat.le_of_ble_eq_true hn, rfl, hK⟩
    | 1, hx => injection hx with hx; subst hx; exact ⟨Nat.le_of_ble_eq_true hm, rfl, hK2⟩
    | x + 2, hx => cases hx
  · rcases two x hx with rfl | rfl <;> rcases two y hy with rfl | rfl
    · rfl
    · exact absurd hxy hnm
    · exact absurd hxy.symm hnm
    · rfl
  · have key : ∀ q a b c, h' = heapF [(0, .box (planL q a b c)), (1, .box [vS (cutL 10 r).2.1])] → ∀ y blk, upd (upd K n (some (.box (planL q a b c)))) m (some (.box [vS (cutL 10 r).2.1])) y = some blk → (∃ x blk0, h' x = some blk0 ∧ y = newN (fun x => match x with | 0 => n | _ => m) 2 s2 x ∧ blk = mapB (newN (fun x => match x with | 0 => n | _ => m) 2 s2) blk0) ∨ (K y = some blk ∧ ∀ x, x < 2 → (match x with | 0 => n | _ => m) ≠ y) := by
      intro q a b c hh y blk0 hy
      by_cases he : y = m
      · subst he
        rw [upd_same] at hy; injection hy with hy
        exact .inl ⟨1, .box [vS (cutL 10 r).2.1], by rw [hh]; rfl, rfl, by rw [← hy]; rfl⟩
      · rw [upd_other _ _ he] at hy
        by_cases he2 : y = n
        · subst he2
          rw [upd_same] at hy; injection hy with hy
          exact .inl ⟨0, .box (planL q a b c), by rw [hh]; rfl, rfl, by rw [← hy]; rfl⟩
        · rw [upd_other _ _ he2] at hy
          refine .inr ⟨hy, fun x hx => ?_⟩
          rcases two x hx with rfl | rfl
          · exact fun q => he2 q.symm
          · exact fun q => he q.symm
    rcases hP with ⟨q, h1, rfl, h2⟩ | ⟨h1, rfl, q, a, b, c, h2⟩
    · exact ⟨_, .inl ⟨q, h1, rfl, rfl⟩, key _ _ _ _ h2⟩
    · exact ⟨_, .inr ⟨h1, rfl, q, a, b, c, rfl⟩, key _ _ _ _ h2⟩
theorem go_badM {p0 p : ScPlan} {s r : W} {k : Nat} (h : goG (stepM okM) p0 s k = .ok (p, r)) (hc : (cutL 10 r).2.2 = false ∨ stepM okM p k (cutL 10 r).1 = none) : goG (stepM okM) p0 s (k + 1) = .error (k + 1) := go_bad h hc
theorem dCleanZ : DCall C0 18 [.agg [vI 0, vI 0, vI 0, vI 0, vI 0, vI 0, vI 0, vI 0, .sl 0 [] true, vB false, .sl 0 [] true]] (.agg [vI 0, vI 1, vI 2, vI 1, vI 1, vI 2, vI 1, vI 1, .sl 1 [] false, vB false, .sl 1 [] false]) :=
  (dCleanCf cfZ true true ⟨by decide, by decide, fun x h => absurd h List.not_mem_nil⟩).amono1 fun S w v h => rep_nil_agg (i := 10) (n := 1) (rep_nil_agg (i := 8) (n := 1) h rfl) rfl
theorem dParse0 (L : LibS) (s : List UInt8) (hs : s.length ≤ 100000) : DCall C0 7 [vS s] (resP0 (parseG (stepM okM) plO plZ s)) := by
  refine DCall.intro c0Ok Tryd.func7 rfl rfl (by kernel_rfl) rfl <| cSeq <| cReg rfl <| rAl 0 rfl rfl <| oR 2 rfl <| rE 3 <| cSeqG <| cReg rfl <| rOk (x := .agg [vI 0, vI 0, vI 0, vI 0, vI 0, vI 0, vI 0, vI 0, .sl 0 ([]) true, vB false, .sl 0 ([]) true]) rfl rfl rfl <| rCl rfl (.inl rfl) (dCleanZ) <| rCl rfl (.inl rfl) (cleanM_nil ▸ dClean [] (by decide)) <| rOk (x := .agg [vI 0, vI 1, vI 2, vI 1, vI 1, vI 2, vI 1, vI 1, .sl 1 (([] : List Int).map rowI) false, vB false, .sl 1 (([] : List Nat).map rowU) false, .sl 0 ([]) true, vS (List.replicate 16 0), vI 0]) rfl rfl rfl <| rAl 7 rfl rfl <| rSt rfl <| rE 9 <| .mk _ (.step none (Ghost.of_lists (l := [(0, vS s), (2, .ptr 0 0), (3, vI 0), (4, vI 0), (5, .ptr 7 0)]) (hp := [(0, .box [vI 0, vI 0, vI 0, vI 0, vI 0, vI 0, vI 0, vI 0, .sl 0 ([]) true, vB false, .sl 0 ([]) true, .sl 0 ([]) true, .v (.string (⟨#[]⟩ : ByteArray)), vI 0]), (7, .box [vI 0, vI 1, vI 2, vI 1, vI 1, vI 2, vI 1, vI 1, .sl 1 (([] : List Int).map rowI) false, vB false, .sl 1 (([] : List Nat).map rowU) false, .sl 1 (([] : List Nat).map rowU) false, vS (List.replicate 16 0), vI 0])]) trivial ⟨.refl _, .refl _, .refl _, .refl _, .refl _, trivial⟩ ⟨⟨trivial, _, rfl, .refl _⟩, ⟨trivial, _, rfl, LeB.boxL ⟨.refl _, .refl _, .refl _, .refl _, .refl _, .refl _, .refl _, .refl _, .refl _, .refl _, .refl _, .nil 1 false, .refl _, .refl _, trivial⟩⟩, trivial⟩) (.refl _)) ?_
  refine cSeq <| cReg rfl <| oR 1 rfl <| rAl 10 rfl rfl <| rSt rfl <| rE 12 <| cSeq <| cReg rfl <| rOk (x := .clo 20 [] [.ptr 10 0, .ptr 7 0]) rfl rfl rfl <| oR 1 rfl <| rE 14 <| cSeq <| cSeq <| cReg rfl <| oR 1 rfl <| rE 15 ?_
  refine cBlock <| cLoop (κ := Nat × ScPlan × W) (fun z => ⟨slotsF [(2, .ptr 0 0), (3, vI 0), (4, vI 0), (5, .ptr 7 0), (6, .ptr 10 0), (7, .clo 20 [] [.ptr 10 0, .ptr 7 0]), (15, vN z.1)], heapF [(0, .box [vI 0, vI 0, vI 0, vI 0, vI 0, vI 0, vI 0, vI 0, .sl 0 ([]) true, vB false, .sl 0 ([]) true, .sl 0 ([]) true, .v (.string (⟨#[]⟩ : ByteArray)), vI 0]), (7, .box [vI z.2.1.mode, vI z.2.1.width, vI z.2.1.rob, vI z.2.1.queue, vI z.2.1.stores, vI z.2.1.slots, vI z.2.1.sets, vI z.2.1.ways, .sl 1 (z.2.1.lat.map rowI) (fl 9 z.1 z.2.1.lat), vB z.2.1.tables, .sl 1 (z.2.1.tape.map rowU) (fl 10 z.1 z.2.1.tape), .sl 1 (z.2.1.prog.map rowU) (fl 11 z.1 z.2.1.prog), vS z.2.1.mem, vI z.2.1.cycles]), (10, .box [vS z.2.2])], 15⟩) (fun z => z.1 ≤ 14 ∧ goG (stepM okM) plO s z.1 = .ok (z.2.1, z.2.2) ∧ z.2.1.ok ∧ z.2.2.length ≤ s.length) (fun z => 14 - z.1) (0, plO, s) (fun s => s) (Weak.of_lists (fun s => s) wT wH rfl) (⟨by show 0 ≤ 14; omega, rfl, plO_ok, Nat.le_refl _⟩) ?_
  intro z hz
  have hkk : z.1 ≤ 14 := hz.1
  have hgo := hz.2.1
  have hp := hz.2.2.1
  have hrl := hz.2.2.2
  refine cSeq <| cReg rfl <| rOk (x := vB (decide (z.1 < 14))) rfl rfl (okB (ltN _ _)) <| rE 16 <| cSeq ?_
  refine cCond rfl (fun h1 => ?_) (fun h1 => ?_)
  · have h1p := of_decide_eq_true h1
    refine cSkip <| cSeq <| cBlock <| cSeq <| cReg rfl <| oR 2 rfl <| rE 18 <| cSeq <| cReg rfl <| oR 2 rfl <| rHCall (args := [vN z.1, .ptr 10 0, .ptr 7 0]) (d := 20) _ rfl rfl rfl (lineAt L (by omega) hp (by omega) (by decide) (by decide) (by decide) rfl rfl) ?_
    rintro _ _ (⟨q, ⟨hE, hst, hqo⟩, rfl, rfl⟩ | ⟨hbad, rfl, q, a2, b2, c2, rfl⟩)
    · refine oR 1 rfl <| rE 22 ?_
      refine cCond rfl (fun h => by cases h) (fun _ => ?_)
      refine cSkip <| cReg rfl ?_
      have b1 : z.1 + 1 ≤ 15 := Nat.add_le_add hkk (Nat.le_refl 1)
      refine rOk (x := vN (z.1 + 1)) rfl rfl (okI (wrapI64 b1 rfl)) <| oR 1 rfl <| rE 24 ?_
      refine ⟨(z.1 + 1, q, (cutL 10 z.2.2).2.1), fun s => s, Weak.of_lists (fun s => s) wT wH rfl, ⟨by show z.1 + 1 ≤ 14; omega, go_on hgo hE hst, hqo, by have := (cut_le 10 z.2.2).2; show (cutL 10 z.2.2).2.1.length ≤ s.length; omega⟩, by show 14 - (z.1 + 1) < 14 - z.1; omega⟩
    · refine oR 1 rfl <| rE 22 ?_
      refine cCond rfl (fun _ => ?_) (fun h => by cases h)
      refine cSeq <| cReg rfl <| rOk (x := .agg [vI 0, vI 0, vI 0, vI 0, vI 0, vI 0, vI 0, vI 0, .sl 0 ([]) true, vB false, .sl 0 ([]) true, .sl 0 ([]) true, .v (.string (⟨#[]⟩ : ByteArray)), vI 0]) rfl rfl rfl <| oR 1 rfl ?_
      have b2 : z.1 + 1 ≤ 15 := Nat.add_le_add hkk (Nat.le_refl 1)
      refine rOk (x := vN (z.1 + 1)) rfl rfl (okI (wrapI64 b2 rfl)) <| rSt rfl <| oR 2 rfl <| rE 28 <| cRet <| finTA rfl (by repeat' (first | exact trivial | constructor)) rfl ?_
      rw [parse_err (go_badM hgo hbad) (by omega), resP0_err]; rfl
  · have h1p := of_decide_eq_false h1
    refine cExit <| cSeq <| cSeq <| cReg rfl <| oR 1 rfl <| rOk (x := vB (!decide (z.2.2 = []))) rfl rfl (okBo (congrArg (!·) (eq_tL z.2.2 ([])))) <| rE 18 ?_
    refine cCond rfl (fun h2 => ?_) (fun h2 => ?_)
    · refine cSeq <| cReg rfl <| rOk (x := .agg [vI 0, vI 0, vI 0, vI 0, vI 0, vI 0, vI 0, vI 0, .sl 0 ([]) true, vB false, .sl 0 ([]) true, .sl 0 ([]) true, .v (.string (⟨#[]⟩ : ByteArray)), vI 0]) rfl rfl rfl <| rSt rfl <| oR 2 rfl <| rE 22 <| cRet ?_
      have hk14 : z.1 = 14 := by have := of_decide_eq_false h1; omega
      rw [hk14] at hgo
      refine finTA rfl (by repeat' (first | exact trivial | constructor)) rfl ?_
      rw [parse_rest hgo (by simpa using h2)]; rfl
    · refine cSkip <| cSeq <| cReg rfl <| oR 1 rfl <| rSt rfl <| oR 2 rfl <| rE 22 <| cRet ?_
      have hk14 : z.1 = 14 := by have := of_decide_eq_false h1; omega
      rw [hk14] at hgo
      have hr : z.2.2 = [] := by simpa using h2
      rw [hr] at hgo
      refine finTA rfl (by repeat' (first | exact trivial | constructor)) rfl ?_
      rw [parse_end hgo]; show AV.tup [.agg (planL z.2.1 (fl 9 z.1 _) (fl 10 z.1 _) (fl 11 z.1 _)), vI 0, vI 0] = _; rw [hk14]; rfl
theorem dParse (L : LibS) (s : W) (hs : s.length ≤ 100000) : DCall C0 7 [vS s] (resP (parseG (stepR okM) plO plZ s)) := by
  rw [← parse_eq]; exact resP_of (dParse0 L s hs)
open Go.RowKit Go.Lib Go.Shelf
theorem hexIx_eq (c : UInt8) : Lib.indexByte [48, 49, 50, 51, 52, 53, 54, 55, 56, 57, 97, 98, 99, 100, 101, 102] c = hexIx c := by
  have h : ∀ i : _root_.Fin 256, Lib.indexByte [48, 49, 50, 51, 52, 53, 54, 55, 56, 57, 97, 98, 99, 100, 101, 102] (UInt8.ofNat i.val) = hexIx (UInt8.ofNat i.val) := by decide +kernel
  have hc := UInt8.toNat_lt c
  have := h ⟨c.toNat, hc⟩
  rwa [UInt8.ofNat_toNat] at this
theorem hexIx_holds : HexIx := fun c => by
  refine DCall.of_flat (fn := Tryd.f65) (vs := [.string hexS, .int .u8 ((c.toNat : Nat) : Int)]) (v := .int .i64 (hexIx c)) Tryd.func65 rfl (by kernel_rfl) rfl rfl fun w => ?_
  refine (Any.strings_IndexByte lays137 hexS ((c.toNat : Nat) : Int) w).mono fun e w' h => ?_
  rw [Int.toNat_natCast, show c.toNat.toUInt8 = c from UInt8.ofNat_toNat, show Lib.indexByte hexS.data.toList c = hexIx c from hexIx_eq c] at h
  exact ⟨h.1, by rw [h.2]; exact Below.refl _ _⟩
theorem dIndexOne (s : W) (c : UInt8) : DCall C0 64 [vS s, .v (.string ⟨#[c]⟩)] (vI (Lib.indexByte s c)) := by
  refine DCall.of_flat (fn := Tryd.f64) (vs := [.string (sB s), .string ⟨#[c]⟩]) (v := .int .i64 (Lib.indexByte s c)) Tryd.func64 rfl (by kernel_rfl) rfl rfl fun w => ?_
  exact (Any.stringslite_Index_one lays219 (sB s) c w).mono fun e w' h => ⟨h.1, by rw [h.2]; exact Below.refl _ _⟩
theorem cut_none {s : W} {c : UInt8} (h : Lib.indexByte s c = -1) : cutL c s = (s, [], false) := by
  refine cut_miss fun q => ?_
  obtain ⟨i, hi, e⟩ := List.mem_iff_getElem.1 q
  exact indexByte_none h i (by rw [List.getElem?_eq_getElem hi, e])
theorem cut_some {s : W} {c : UInt8} {i : Nat} (h : Lib.indexByte s c = i) : i < s.length ∧ cutL c s = (s.take i, s.drop (i + 1), true) := by
  obtain ⟨h1, h2⟩ := indexByte_some h
  have hi := (List.getElem?_eq_some_iff.1 h1).1
  refine ⟨hi, cut_hit (x := c) (fun q => ?_) (by rw [List.getD_eq_getElem?_getD, h1]; rfl) hi⟩
  obtain ⟨k, hk, e⟩ := List.mem_iff_getElem.1 q
  rw [List.length_take] at hk
  refine h2 k (by omega) ?_
  rw [List.getElem_take] at e
  rw [List.getElem?_eq_getElem (by omega), e]
theorem DCall.of_strs {C : Ctx} {f : FuncId} {fn : Func} {args : List AV} {vs : List Value} {l : List ByteArray} {T : TypeId} (hf : C.P.funcs[f]? = some fn) (hb : fn.body.isSome = true) (hnm : (fn.name == "runtime.NumGoroutine") = false)
    (ha : valL args = some vs) (hm : l.length ≤ maxLen) (hc : ∀ w, Calls C.P f vs.toArray w fun e w' => e = .returned (.slice (some ⟨w.heap.size, 0, none⟩) l.length l.length) ∧ w' = w.alloc (.cells (l.map Value.string).toArray T)) : DCall C f args (.sl 1 (l.map fun x => [.v (.string x)]) false) :=
  ⟨⟨fn, hf, hb, hnm⟩, fun S w us hS hG hu => by
    rw [valL_eq ha hu]
    refine (hc w).mono fun e w' ⟨he, hw⟩ => ?_
    subst hw
    refine ⟨_, he, (Below.refl _ _).alloc (Nat.le_refl _) _, ?_⟩
    have hl : (l.map fun x => [AV.v (.string x)]).length = l.length := List.length_map ..
    have hr := Rep.sl (S := fun b => S b ∨ (w.heap.size ≤ b ∧ b < (w.alloc (.cells (l.map Value.string).toArray T)).heap.size)) (w := w.alloc (.cells (l.map Value.string).toArray T)) (β := noB) 1 (l.map fun x => [AV.v (.string x)]) false (some ⟨w.heap.size, 0, none⟩) l.length w.heap.size 0
      (fun i _ => .string (l.getD i ByteArray.empty)) (by rw [hl]; exact Nat.le_refl _) hm (fun h => by cases h) (fun row hrow => by obtain ⟨x, _, rfl⟩ := List.mem_map.1 hrow; rfl)
      (fun _ => ⟨rfl, .inr ⟨Nat.le_refl _, by show w.heap.size < (w.heap.push _).size; rw [Array.size_push]; exact Nat.lt_succ_self _⟩⟩)
      (fun i row j a h1 h2 => by
        rw [List.getElem?_map] at h1
        obtain ⟨x, hx, rfl⟩ := Option.map_eq_some_iff.1 h1
        have hj : j = 0 := by
          cases j with
          | zero => rfl
          | succ j => simp at h2
        subst hj
        rw [show l.getD i ByteArray.empty = x by rw [List.getD_eq_getElem?_getD, hx]; rfl]
        rw [cell_of_cells (heap_alloc_new w _)]
        simp [hx])
      (fun _ _ => rfl)
      (fun i row j a h1 h2 => by
        rw [List.getElem?_map] at h1
        obtain ⟨x, hx, rfl⟩ := Option.map_eq_some_iff.1 h1
        have hj : j = 0 := by
          cases j with
          | zero => rfl
          | succ j => simp at h2
        subst hj
        have ea : AV.v (.string x) = a := Option.some.inj h2
        rw [show l.getD i ByteArray.empty = x by rw [List.getD_eq_getElem?_getD, hx]; rfl, ← ea]
        exact .v _)
    rw [hl] at hr
    exact hr⟩
theorem strs_eq {l : List ByteArray} {m : List W} (h : l.map (·.data.toList) = m) : (l.map fun x => [AV.v (.string x)]) = m.map rowS := by
  rw [← h, List.map_map]; rfl
def pieceL (c : UInt8) (save : Nat) : Nat → W → List W
  | 0, s => [s]
  | k + 1, s => if (cutL c s).2.2 = true then s.take ((cutL c s).1.length + save) :: pieceL c save k (cutL c s).2.1 else [s]
theorem splitK_piece (c : UInt8) (save : Nat) : ∀ (k : Nat) (s : W), splitK [c] save k s = pieceL c save k s
  | 0, s => rfl
  | k + 1, s => by
    unfold splitK pieceL
    rw [index_one]
    have hge := indexByte_ge s c
    by_cases h : Lib.indexByte s c = -1
    · rw [if_pos (beq_iff_eq.2 h), cut_none h]; rfl
    · rw [if_neg (fun q => h (beq_iff_eq.1 q))]
      obtain ⟨i, hi⟩ : ∃ i : Nat, Lib.indexByte s c = i := ⟨(Lib.indexByte s c).toNat, by omega⟩
      obtain ⟨hl, e⟩ := cut_some hi
      rw [e, hi, Int.toNat_natCast]
      show _ = (if true = true then s.take ((s.take i).length + save) :: pieceL c save k (s.drop (i + 1)) else [s])
      rw [if_pos rfl, List.length_take, Nat.min_eq_left (Nat.le_of_lt hl), splitK_piece c save k]; rfl
theorem count_cut {c : UInt8} : ∀ {s : W}, (cutL c s).2.2 = true → s.count c = (cutL c s).2.1.count c + 1
  | [], h => by cases h
  | x :: s, h => by
    unfold cutL at h ⊢
    split
    · rename_i e; rw [e, List.count_cons_self]
    · rename_i e
      rw [if_neg e] at h
      rw [List.count_cons_of_ne e, count_cut h]
theorem count_miss {c : UInt8} : ∀ {s : W}, (cutL c s).2.2 = false → s.count c = 0
  | [], _ => rfl
  | x :: s, h => by
    unfold cutL at h
    split at h
    · cases h
    · rename_i e; rw [List.count_cons_of_ne e, count_miss h]
theorem cut_fst {c : UInt8} : ∀ {s : W}, (cutL c s).2.2 = false → (cutL c s).1 = s
  | [], _ => rfl
  | x :: s, h => by
    unfold cutL at h ⊢
    split
    · rename_i e; rw [if_pos e] at h; cases h
    · rename_i e; rw [if_neg e] at h; show x :: (cutL c s).1 = x :: s; rw [cut_fst h]
theorem piece_split (c : UInt8) : ∀ (k : Nat) (s : W), s.count c = k → pieceL c 0 k s = splitL c s
  | 0, s, h => by
    have h2 : (cutL c s).2.2 = false := by
      cases q : (cutL c s).2.2 with
      | false => rfl
      | true => have := count_cut q; omega
    rw [split_no h2, cut_fst h2]; rfl
  | k + 1, s, h => by
    have h2 : (cutL c s).2.2 = true := by
      cases q : (cutL c s).2.2 with
      | true => rfl
      | false => have := count_miss q; omega
    have hc := count_cut h2
    unfold pieceL
    rw [if_pos h2, split_yes h2, Nat.add_zero, piece_split c k _ (by omega)]
    congr 1
    have gen : ∀ (a b s : W), s = a ++ c :: b → s.take a.length = a := fun a b s h => by rw [h, List.take_left' rfl]
    exact gen _ _ _ (cut_of h2)
theorem countB_one (s : W) (c : UInt8) : Lib.countB (sB s) ⟨#[c]⟩ = s.count c := Lib.count_one c s
theorem dGenSplit (s : W) (c : UInt8) (sv : Nat) (hsv : sv ≤ 1) (hs : s.length ≤ 900000) : DCall C0 37 [vS s, .v (.string ⟨#[c]⟩), .v (.int .i64 ((sv : Nat) : Int)), .v (.int .i64 (-1))] (.sl 1 ((pieceL c sv (s.count c) s).map rowS) false) := by
  have hle : s.count c ≤ s.length := List.count_le_length
  have hlen : (Lib.splitB ⟨#[c]⟩ sv (s.count c) (sB s)).length = s.count c + 1 := Lib.splitB_all ⟨#[c]⟩ (Nat.le_refl 1) sv (s.count c) (sB s) (countB_one s c)
  have hd : (Lib.splitB ⟨#[c]⟩ sv (s.count c) (sB s)).map (·.data.toList) = pieceL c sv (s.count c) s := by
    rw [Lib.splitB_data]; exact splitK_piece c sv _ s
  rw [← strs_eq hd]
  refine DCall.of_strs (fn := Tryd.f37) (vs := [.string (sB s), .string ⟨#[c]⟩, .int .i64 ((sv : Nat) : Int), .int .i64 (-1)]) (T := 9) Tryd.func37 rfl (by kernel_rfl) rfl (by rw [hlen]; unfold maxLen; omega) fun w => ?_
  have h := Any.strings_genSplit_core lays221 (by kernel_rfl) (sB s) ⟨#[c]⟩ sv (-1) (s.count c + 1) w (show s.length < 4294967281 by omega) (Nat.le_refl 1) hsv
    (fun x cs hx => (Any.strings_Index_one { lays221 with } x c _).mono fun e w' hh => ⟨by rw [hh.1]; show _ = Ending.returned (Value.int .i64 (Lib.index x.data.toList [c])); rw [index_one], hh.2⟩)
    ((Any.strings_Count_one { lays221 with } (sB s) c w).mono fun e w' hh => ⟨by rw [hh.1, countB_one]; rfl, hh.2⟩)
    (by decide) (by decide) (by rw [if_pos (by decide), countB_one]; show ((s.count c + 1 : Nat) : Int) = min ((s.count c : Int) + 1) ((s.length : Int) + 1); omega)
  refine h.mono fun e w' hh => ?_
  rw [Nat.add_sub_cancel] at hh
  rw [hlen]
  refine ⟨by rw [hh.1, hlen], ?_⟩
  rw [hh.2]
  have e2 : Lib.cellsOf (Lib.splitB ⟨#[c]⟩ sv (s.count c) (sB s)) (s.count c + 1) = ((Lib.splitB ⟨#[c]⟩ sv (s.count c) (sB s)).map Value.string).toArray := by rw [← hlen]; exact Lib.cellsOf_full _
  rw [e2]; rfl
theorem tab_of_g {S : Nat → Prop} {w : World} (h : GOk C0 S w) : Lib.TabIs C0.P w "internal/strconv.uint64pow10" .u64 Lib.pow10Tab := by
  obtain ⟨h1, cs, e, fr, h2, h3⟩ := h 3 gPow rfl
  unfold Lib.TabIs World.var?
  rw [show C0.P.globalNamed "internal/strconv.uint64pow10" = some 3 by kernel_rfl]
  show (match w.heap[3]? with | some (.cells cs _ _) => some cs | _ => none) = _
  rw [h2]
  show some cs = _
  congr 1
  have h20 : gPow.length = 20 := rfl
  have hx : ∀ j, j < 20 → gPow[j]? = some (.v (.int .u64 (Lib.pow10Tab.getD j 0))) := by
    intro j hj
    rw [Lib.pow10Tab_at j hj]
    have : ∀ i : _root_.Fin 20, powL[i.val]? = some ((10 ^ i.val : Nat) : Int) := by decide
    show (powL.map _)[j]? = _
    rw [List.getElem?_map, this ⟨j, hj⟩]; rfl
  generalize hp : Value.pointer (some (⟨3, 0, none⟩ : Addr)) = p at h1
  cases h1 with
  | dp _ _ _ b o u hrs hb hw h1 hr =>
    simp only [Value.pointer.injEq, Option.some.injEq, Addr.mk.injEq] at hp
    obtain ⟨rfl, ho, -⟩ := hp
    obtain rfl : o = 0 := by omega
    apply Array.ext
    · rw [h3, h20]; simp [Lib.pow10Tab_length]
    · intro j hj hj2
      rw [h3, h20] at hj
      have e1 := hw j _ (hx j hj)
      rw [Nat.zero_add, cell_of_cells h2, Array.getElem?_eq_getElem (by rw [h3, h20]; exact hj)] at e1
      rw [Option.some.inj e1, rep_v (hr j _ (hx j hj))]
      have hj3 : j < Lib.pow10Tab.length := by rw [Lib.pow10Tab_length]; exact hj
      simp [List.getElem?_eq_getElem hj3]
theorem dItoa (n : Int) (h0 : 0 ≤ n) (h1 : n ≤ 600) : DCall C0 54 [vI n] (vS (itoa n)) :=
  ⟨⟨Tryd.f54, Tryd.func54, rfl, by kernel_rfl⟩, fun S w us hS hG hu => by
    rw [valL_eq (vs := [.int .i64 n]) rfl hu]
    refine (Any.strconv_Itoa laysM171 n (by omega) (by omega) w (tab_of_g hG)).mono fun e w' ⟨he, k, os, hw⟩ => ?_
    exact ⟨_, he, by rw [hw]; exact Lib.below_grow _ w (Nat.le_refl _) k os, .v _⟩⟩
theorem dCut_0 (s : List UInt8) (c : UInt8) (hs : s.length ≤ 900000) (h : Lib.indexByte s c = -1) : DCall C0 40 [vS s, .v (.string ⟨#[c]⟩)] (.tup [vS s, vS [], vB false]) := by
  refine DCall.intro c0Ok Tryd.func40 rfl rfl (by kernel_rfl) rfl <| cSeq <| cReg rfl <| oR 3 rfl <| rE 3 <| cSeq <| cSeq <| cReg rfl <| oR 2 rfl <| rCl (x := vI (-1)) rfl (.inl rfl) ((by have q := dIndexOne s c; rw [h] at q; exact q)) <| oR 1 rfl <| rE 7 <| cSeq <| cReg rfl <| oR 1 rfl <| rOk (x := vB (decide ((-1) ≥ 0))) rfl rfl rfl ?_
  refine rE 9 ?_
  refine cCond rfl (fun h1 => by exact absurd (of_decide_eq_true h1) (by decide)) (fun _ => ?_)
  refine cSkip <| cSeq <| cReg rfl <| oR 4 rfl <| rE 13 <| cRet ?_
  exact finTA rfl trivial rfl rfl
theorem dCut_1 (s : List UInt8) (c : UInt8) (hs : s.length ≤ 900000) (i : Nat) (hi : i < s.length) (h : Lib.indexByte s c = i) : DCall C0 40 [vS s, .v (.string ⟨#[c]⟩)] (.tup [vS (s.take i), vS (s.drop (i + 1)), vB true]) := by
  refine DCall.intro c0Ok Tryd.func40 rfl rfl (by kernel_rfl) rfl <| cSeq <| cReg rfl <| oR 3 rfl <| rE 3 <| cSeq <| cSeq <| cReg rfl <| oR 2 rfl <| rCl (x := vN i) rfl (.inl rfl) ((by have q := dIndexOne s c; rw [h] at q; exact q)) <| oR 1 rfl <| rE 7 <| cSeq <| cReg rfl <| oR 1 rfl <| rOk (x := vB (decide (i ≥ 0))) rfl rfl (okB (geN _ _)) ?_
  refine rE 9 ?_
  refine cCond rfl (fun _ => ?_) (fun h1 => by exact absurd (of_decide_eq_false h1) (by omega))
  refine cSeq <| cReg rfl <| oR 2 rfl <| rNeed (x := vS (s.take i)) rfl rfl (needSt (ext_to s i)) (⟨Int.le_refl _, Int.natCast_nonneg _, Int.ofNat_le.2 (by show i ≤ s.length; omega)⟩) <| oR 3 rfl <| rOk (x := vN 1) rfl rfl rfl ?_
  have b1 : i + 1 ≤ 900001 := Nat.add_le_add (by omega) (Nat.le_refl 1)
  refine rOk (x := vN (i + 1)) rfl rfl (okI (wrapI64 b1 rfl)) <| rNeed (x := vS (s.drop (i + 1))) rfl rfl (needSt (ext_from s (i + 1))) (⟨Int.natCast_nonneg _, Int.ofNat_le.2 (by show (i + 1) ≤ s.length; omega), Int.le_refl _⟩) <| oR 3 rfl <| rE 21 <| cRet ?_
  exact finTA rfl trivial rfl rfl
theorem dCutL (s : W) (c : UInt8) (hs : s.length ≤ 900000) : DCall C0 40 [vS s, .v (.string ⟨#[c]⟩)] (tupS (cutL c s)) := by
  by_cases h : Lib.indexByte s c = -1
  · rw [cut_none h]; exact dCut_0 s c hs h
  · have hge := Lib.indexByte_ge s c
    obtain ⟨i, hi⟩ : ∃ i : Nat, Lib.indexByte s c = i := ⟨(Lib.indexByte s c).toNat, by omega⟩
    obtain ⟨hl, e⟩ := cut_some hi
    rw [e]; exact dCut_1 s c hs i hl hi
theorem dCut (s : List UInt8) (c : UInt8) (hs : s.length ≤ 900000) : DCall C0 21 [vS s, .v (.string ⟨#[c]⟩)] (tupS (cutL c s)) := by
  refine DCall.intro c0Ok Tryd.func21 rfl rfl (by kernel_rfl) rfl <| cSeq <| cReg rfl <| oR 3 rfl <| rE 3 <| cSeq <| cReg rfl <| oR 2 rfl <| rCl rfl (.inl rfl) (dCutL s c hs) <| oR 6 rfl <| rE 12 <| cRet ?_
  exact finTA rfl trivial rfl rfl
theorem dSplit (s : List UInt8) (c : UInt8) (hs : s.length ≤ 900000) : DCall C0 22 [vS s, .v (.string ⟨#[c]⟩)] (.sl 1 ((pieceL c 0 (s.count c) s).map rowS) false) := by
  refine DCall.intro c0Ok Tryd.func22 rfl rfl (by kernel_rfl) rfl <| cSeq <| cReg rfl <| oR 1 rfl <| rE 1 <| cSeq <| cReg rfl <| oR 2 rfl <| rCl rfl (.inl rfl) (dGenSplit s c 0 (by decide) hs) <| oR 1 rfl <| rE 5 <| cRet ?_
  exact finTA rfl trivial rfl rfl
theorem dSplitAfter (s : List UInt8) (c : UInt8) (hs : s.length ≤ 900000) : DCall C0 16 [vS s, .v (.string ⟨#[c]⟩)] (.sl 1 ((pieceL c 1 (s.count c) s).map rowS) false) := by
  refine DCall.intro c0Ok Tryd.func16 rfl rfl (by kernel_rfl) rfl <| cSeq <| cReg rfl <| oR 1 rfl <| rE 1 <| cSeq <| cReg rfl <| oR 3 rfl <| rOk (x := vN 1) rfl rfl rfl <| rCl rfl (.inl rfl) (dGenSplit s c 1 (by decide) hs) <| oR 1 rfl <| rE 7 <| cRet ?_
  exact finTA rfl trivial rfl rfl
theorem libS : LibS := ⟨hexIx_holds, fun s hs => dCut s 10 hs, fun s hs => by rw [← piece_split 32 _ s rfl]; exact dSplit s 32 hs, dItoa⟩
noncomputable abbrev PZ (s : W) : ScPlan × Int × Int := parseG (stepR okM) plO plZ s
theorem dParseZ (s : W) (hs : s.length ≤ 100000) : DCall C0 7 [vS s] (.tup [.agg (planE (PZ s).1), vI (PZ s).2.1, vI (PZ s).2.2]) := dParse libS s hs
theorem line_small {p : ScPlan} (hR : RightL okM p) {k : Nat} (hk : k < 14) : (LineL p k).length ≤ 700 := by
  have h1 := name_len k hk
  have hi : (itoa (cntL p k)).length ≤ 9 := itoa_len (cnt_ok hR hk).1 (cnt_ok hR hk).2
  have two : ∀ a b : List UInt8, (joinL 32 [a, b]).length = a.length + 1 + b.length := fun a b => by show (a ++ 32 :: b).length = _; rw [List.length_append, List.length_cons]; omega
  have h9 : (joinL 32 (nameL 9 :: p.lat.map itoa)).length ≤ 700 := by
    rw [join_tail, List.length_append]
    have := tailT_len (f := itoa) (l := p.lat) (fun x hx => by have := (hR 9).2 x hx; exact itoa_len (by omega) (by omega)) p.lat.length
    have := name_len 9 (by decide); have := (hR 9).1; omega
  have hd : ∀ (l : List Nat) (w : List UInt8), l.length ≤ 64 → w.length ≤ 6 → (joinL 32 (w :: l.map fun a => digH a 8)).length ≤ 700 := fun l w hl hw => by
    rw [join_tail, List.length_append]
    have := tailT_len (f := fun a => digH a 8) (l := l) (fun x _ => by rw [digH_len]; omega) l.length
    omega
  have hm : (hexL p.mem).length ≤ 512 := by
    have := hexL_len p.mem p.mem.length
    rw [List.take_length] at this
    have := okM_len (hR 12); omega
  have ht : (tableW p.tables).length ≤ 6 := by cases p.tables <;> decide
  have ho := mode_len p.mode
  have q1 : (joinL 32 [nameL k, itoa (cntL p k)]).length ≤ 700 := by rw [two]; omega
  have q2 : (joinL 32 [nameL k, modeW p.mode]).length ≤ 700 := by rw [two]; omega
  have q3 : (joinL 32 [nameL k, tableW p.tables]).length ≤ 700 := by rw [two]; omega
  have q4 : (joinL 32 [nameL k, hexL p.mem]).length ≤ 700 := by rw [two]; omega
  rcases k with _ | _ | _ | _ | _ | _ | _ | _ | _ | _ | _ | _ | _ | _ | k
  · exact q2
  · exact q1
  · exact q1
  · exact q1
  · exact q1
  · exact q1
  · exact q1
  · exact q1
  · exact q3
  · exact h9
  · exact hd p.tape (nameL 10) (hR 10).1 h1
  · exact hd p.prog (nameL 11) (hR 11).1 h1
  · exact q4
  · exact q1
  · exfalso; omega
theorem text_small {p : ScPlan} (hR : RightL okM p) : ∀ {k : Nat}, k ≤ 14 → (textTo p k).length ≤ 701 * k
  | 0, _ => Nat.zero_le _
  | k + 1, h => by
    have ih := text_small hR (k := k) (by omega)
    have := line_small hR (k := k) (by omega)
    show (textTo p k ++ (LineL p k ++ [10])).length ≤ _
    rw [List.length_append, List.length_append, List.length_singleton]; omega
theorem dLeast0  : DCall C0 31 [] (.agg [vI 0, vI 1, vI 2, vI 1, vI 1, vI 2, vI 1, vI 1, .sl 0 [] true, vB false, .sl 0 [] true, .sl 0 [] true, vS (List.replicate 16 0), vI 0]) := by
  refine DCall.intro c0Ok Tryd.func31 rfl rfl (by kernel_rfl) rfl <| cSeq <| cReg rfl <| rAl 0 rfl rfl <| rE 1 <| cSeq <| cReg rfl <| rOk (x := .agg [vI 0, vI 1, vI 2, vI 1, vI 1, vI 2, vI 1, vI 1, .sl 0 ([]) true, vB false, .sl 0 ([]) true]) rfl rfl rfl <| rFx (x := .osl 2 0 16 false) (h' := upd _ 2 (some (.arr ((List.replicate 16 0).map row8) 1))) rfl rfl (mk_eq (List.map_replicate (f := row8) (a := 0)).symm) (⟨by decide, by decide, by show ((16 : Nat) : Int) ≤ 1000000; omega⟩) <| rStr ((List.replicate 16 0)) (d := 3) rfl rfl rfl ((by show 0 + 16 ≤ ((List.replicate 16 (0 : UInt8)).map row8).length; rw [List.length_map, List.length_replicate]; omega)) (own8 (by rw [List.length_replicate]; omega)) <| rOk (x := .agg [vI 0, vI 1, vI 2, vI 1, vI 1, vI 2, vI 1, vI 1, .sl 0 ([]) true, vB false, .sl 0 ([]) true, .sl 0 ([]) true, vS (List.replicate 16 0), vI 0]) rfl rfl rfl <| rSt rfl <| rE 6 <| cRet ?_
  exact finTA rfl (by repeat' (first | exact trivial | constructor)) rfl rfl
theorem dLeast : DCall C0 31 [] (.agg (planE plO)) :=
  dLeast0.rmono fun S w v h => rep_nil_agg (i := 11) (n := 1) (rep_nil_agg (i := 10) (n := 1) (rep_nil_agg (i := 8) (n := 1) h rfl) rfl) rfl
theorem pz_text : PZ (textTo plO 14) = (plO, 0, 0) := parse_text plO_right plO_right
theorem dParseO : DCall C0 7 [vS (textTo plO 14)] (.tup [.agg (planE plO), vI 0, vI 0]) := by
  have h := dParseZ (textTo plO 14) (by have := text_small plO_right (k := 14) (Nat.le_refl _); omega)
  rw [pz_text] at h; exact h
theorem plO_rightP : rightP plO = true := (rightP_iff plO_ok).2 plO_right
theorem dAlive  : DCall C0 9 [] (vB true) := by
  refine DCall.intro c0Ok Tryd.func9 rfl rfl (by kernel_rfl) rfl <| cSeq <| cReg rfl <| oR 1 rfl <| rE 1 <| cSeq <| cReg rfl <| rCl rfl (.inl rfl) (dLeast) <| rCl rfl (.inl rfl) (eText plO _ _ _ plO_ok plO_right dItoa) <| rCl rfl (.inl rfl) (dParseO) <| oR 4 rfl <| rAl 8 rfl rfl <| rSt rfl <| oR 2 rfl <| rE 12 <| cSeq ?_
  refine cReg rfl <| oR 1 rfl <| rOk (x := vB (0 == 0)) rfl rfl rfl <| oR 1 rfl <| gN rfl <| gCallS (args := [.agg [vI plO.mode, vI plO.width, vI plO.rob, vI plO.queue, vI plO.stores, vI plO.slots, vI plO.sets, vI plO.ways, .sl 1 (plO.lat.map rowI) plO.lat.isEmpty, vB plO.tables, .sl 1 (plO.tape.map rowU) plO.tape.isEmpty, .sl 1 (plO.prog.map rowU) plO.prog.isEmpty, vS plO.mem, vI plO.cycles]]) (x := vB true) (g := 0 == 0) rfl rfl rfl rfl (fun h => h) rfl rfl rfl (.inl rfl) rfl (fun hg => plO_rightP ▸ dRight plO _ _ _ plO_ok) <| rNeed rfl rfl rfl (fun h => h) <| oR 1 rfl <| rE 19 <| cRet ?_
  exact finTA rfl trivial rfl rfl
end Go.Proofs.YtpefnjbmbfdmmaaDoor
namespace Go.Proofs.YtpefnjbmbfdmmaaDoor
open Go.RowKit Go.ChangeShapes Go.WideShapes
end Go.Proofs.YtpefnjbmbfdmmaaDoor
namespace Go.Proofs.YtpefnjbmbfdmmaaDoor
open Go.RowKit Go.ChangeShapes Go.WideShapes Go.ChangeAt
theorem ownK : ownKnob Tryd.prog.godebug = none := by kernel_rfl
theorem laidOutK : laidOutB Tryd.prog = true := by kernel_rfl
def laid0 : List (String × DataW Unit) := [("math/bits.deBruijn32tab", Rows.laid_math_bits_deBruijn32tab), ("math/bits.deBruijn64tab", Rows.laid_math_bits_deBruijn64tab), ("internal/strconv.uint64pow10", Rows.laid_internal_strconv_uint64pow10), ("unicode/utf8.acceptRanges", Rows.laid_unicode_utf8_acceptRanges), ("unicode/utf8.first", Rows.laid_unicode_utf8_first)]
theorem door_met (os : Os) (args : Array Value) : laidMetH Tryd.prog laid0 ((World.laidAll Tryd.prog os laid0).forCall (fun _ _ => 0) ⟨#[], args, []⟩).memory := by
  rw [MakeChecks.laidMetH_plain _ _ _ (by kernel_rfl)]; exact laidMet_laidAll _ (by kernel_rfl) (by kernel_rfl)
theorem pow_of_laid {W : World} (h : laidMetH Tryd.prog laid0 W) : Lib.TabIs Tryd.prog W "internal/strconv.uint64pow10" .u64 Lib.pow10Tab := by
  rw [MakeChecks.laidMetH_plain _ _ _ (by kernel_rfl)] at h
  obtain ⟨ps, hv, _⟩ := h
  obtain ⟨_, _, _, _, _, _, _, _, _, _, hv, _⟩ := hv
  obtain ⟨_, _, _, _, _, _, _, _, _, _, hv, _⟩ := hv
  obtain ⟨g', t', cs, fuel, p, q, hg', ht', hvar, hd, _, _⟩ := hv
  have hg : Tryd.prog.globalNamed "internal/strconv.uint64pow10" = some 3 := by kernel_rfl
  have hty : (Tryd.prog.globals[3]?).map (·.type) = some 120 := by kernel_rfl
  obtain rfl := Option.some.inj (hg.symm.trans hg')
  obtain rfl := Option.some.inj (hty.symm.trans ht')
  unfold Lib.TabIs
  have hd' : DataW.trod (fun _ => ()) Tryd.prog W 0 (fun _ => true) false fuel 120 cs.toList = some (Lib.tabData .u64 Lib.pow10Tab, p) := hd
  rw [hvar, ← Lib.cells_of_tab Tryd.underlying120 Tryd.underlying110 (by kernel_rfl) (by kernel_rfl) hd']
theorem g0Ok {S : Nat → Prop} {w : World} (h : Lib.TabIs Tryd.prog w "internal/strconv.uint64pow10" .u64 Lib.pow10Tab) (hS : S 3) : GOk C0 S w := fun g cells hg => by
  match g, hg with
  | 3, hg =>
    injection hg with hg; subst hg
    unfold Lib.TabIs World.var? at h
    rw [show Tryd.prog.globalNamed "internal/strconv.uint64pow10" = some 3 by kernel_rfl] at h
    have h : (match (w.heap[3]? : Option Obj) with | some (Obj.cells cs _ _) => some cs | _ => none) = some (Lib.pow10Tab.map fun z => Value.int .u64 z).toArray := h
    split at h
    · rename_i cs e fr hc
      have hcs := Option.some.inj h
      have hget : ∀ (j : Nat) a, gPow[j]? = some a → a = .v (.int .u64 (Lib.pow10Tab.getD j 0)) ∧ j < 20 := by
        intro j a hj
        have hl : j < 20 := (List.getElem?_eq_some_iff.1 hj).1
        refine ⟨?_, hl⟩
        have : ∀ i : _root_.Fin 20, powL[i.val]? = some ((10 ^ i.val : Nat) : Int) := by decide
        have e : gPow[j]? = some (.v (.int .u64 (Lib.pow10Tab.getD j 0))) := by
          rw [Lib.pow10Tab_at j hl]
          show (powL.map _)[j]? = _
          rw [List.getElem?_map, this ⟨j, hl⟩]; rfl
        rw [e] at hj
        exact (Option.some.inj hj).symm
      refine ⟨.dp gPow.length 0 gPow 3 0 (fun k => .int .u64 (Lib.pow10Tab.getD k 0)) rfl hS (fun j a hj => ?_) (fun _ => rfl) (fun j a hj => ?_), cs, e, fr, hc, ?_⟩
      · have hl := (hget j a hj).2
        rw [Nat.zero_add, cell_of_cells hc, hcs]
        have hj3 : j < Lib.pow10Tab.length := by rw [Lib.pow10Tab_length]; exact hl
        simp [List.getElem?_eq_getElem hj3]
      · rw [(hget j a hj).1]; exact .v _
      · rw [hcs]; simp [Lib.pow10Tab_length]; rfl
    · cases h
theorem tab_pos {w : World} (h : Lib.TabIs Tryd.prog w "internal/strconv.uint64pow10" .u64 Lib.pow10Tab) : 3 < w.heap.size := by
  unfold Lib.TabIs World.var? at h
  rw [show Tryd.prog.globalNamed "internal/strconv.uint64pow10" = some 3 by kernel_rfl] at h
  have h : (match (w.heap[3]? : Option Obj) with | some (Obj.cells cs _ _) => some cs | _ => none) = some (Lib.pow10Tab.map fun z => Value.int .u64 z).toArray := h
  split at h
  · rename_i cs e fr hc; exact (Array.getElem?_eq_some_iff.1 hc).1
  · cases h
theorem DCall.law {f : FuncId} {args : List AV} {vs : List Value} {w : World} (h : DCall C0 f args (.v (.bool true))) (hC : Lib.TabIs Tryd.prog w "internal/strconv.uint64pow10" .u64 Lib.pow10Tab) (ha : RepL (· < w.heap.size) w noB args vs) :
    Calls Tryd.prog f vs.toArray w fun e w' => e = .returned (.bool true) ∧ Below w.heap.size w w' :=
  (h.2 (· < w.heap.size) w vs (fun _ h => h) (g0Ok hC (tab_pos hC)) ha).mono fun e w' ⟨v, h1, h2, h3⟩ => ⟨by rw [h1, rep_v h3], h2⟩
open Go.RowKit Go.ChangeShapes Go.WideShapes Go.ChangeAt Go.Deep
inductive TyV (P : Program) : TypeId → List AV → Prop
  | bool {t : TypeId} (h : P.underlying t = some .bool) (b : Bool) : TyV P t [.v (.bool b)]
  | int {t : TypeId} {k : IntKind} (h : P.underlying t = some (.int k)) (n : Int) (hn : (Lit.int k n).wf = true) : TyV P t [.v (.int k n)]
  | string {t : TypeId} (h : P.underlying t = some .string) (s : ByteArray) (hs : s.size ≤ maxLen) : TyV P t [.v (.string s)]
  | slice {t e : TypeId} (h : P.underlying t = some (.slice e)) (rows : List (List AV)) (hl : rows.length ≤ maxLen) (hr : ∀ row ∈ rows, TyV P e row) (hrs : ∀ row ∈ rows, row.length = P.cellsOf e) : TyV P t [.sl (P.cellsOf e) rows false]
  | struct {t : TypeId} {fs : Array Field} (h : P.underlying t = some (.struct fs)) (parts : Nat → List AV) (hp : ∀ (j : Nat) f, fs[j]? = some f → TyV P f.type (parts j)) : TyV P t ((List.range fs.size).flatMap parts)
  | array {t e : TypeId} {n : Nat} (h : P.underlying t = some (.array n e)) (parts : Nat → List AV) (hp : ∀ j, j < n → TyV P e (parts j)) : TyV P t ((List.range n).flatMap parts)
def runsF (P : Program) : Nat → List Field → Option Nat
  | o, [] => some o
  | o, f :: fs => match Nat.beq f.offset o with | true => runsF P (o + P.cellsOf f.type) fs | false => none
def plainT (P : Program) : Nat → TypeId → Bool
  | 0, _ => false
  | d + 1, t => match P.underlying t with
    | some .bool | some (.int _) | some .string => true
    | some (.slice e) => Nat.blt 0 (P.cellsOf e) && plainT P d e
    | some (.struct fs) => (match runsF P 0 fs.toList with | some n => Nat.beq n (P.cellsOf t) | none => false) && fs.toList.all (fun f => plainT P d f.type)
    | some (.array n e) => Nat.beq (n * P.cellsOf e) (P.cellsOf t) && plainT P d e
    | _ => false
section
variable {H : Type} {enc : TypeId × Value → H} {P : Program} {w : World} {base : Nat} {spare : Nat → Bool} {held : Bool}
structure Opened (P : Program) (w : World) (t : TypeId) (cs : List AV) (vals : List Value) : Prop where
  rep : RepL (· < w.heap.size) w noB cs vals
  one : ∀ u ∈ vals, u.oneCell' = true
  ty : TyV P t cs
theorem repL_flat {S : Nat → Prop} {β : Bt} : ∀ (n : Nat) (A : Nat → List AV) (V : Nat → List Value), (∀ i, i < n → RepL S w β (A i) (V i)) → RepL S w β ((List.range n).flatMap A) ((List.range n).flatMap V)
  | 0, _, _, _ => by simpa using RepL.nil S w β
  | n + 1, A, V, h => by
    rw [List.range_succ, List.flatMap_append, List.flatMap_append]
    have ih := repL_flat n A V fun i hi => h i (by omega)
    have h1 := h n (by omega)
    simp only [List.flatMap_cons, List.flatMap_nil, List.append_nil]
    refine ⟨by simp [ih.1, h1.1], fun i a u ha hu => ?_⟩
    rcases Nat.lt_or_ge i ((List.range n).flatMap A).length with k | k
    · rw [List.getElem?_append_left k] at ha
      rw [List.getElem?_append_left (by rw [← ih.1]; exact k)] at hu
      exact ih.2 i a u ha hu
    · rw [List.getElem?_append_right k] at ha
      rw [List.getElem?_append_right (by rw [← ih.1]; exact k), ← ih.1] at hu
      exact h1.2 _ a u ha hu
theorem runs_flat : ∀ (fs : List Field) (o n : Nat) (vals : List Value), runsF P o fs = some n → o ≤ vals.length → n ≤ vals.length → o ≤ n ∧
    (List.range fs.length).flatMap (fun j => match (fs[j]? : Option Field) with | some f => (vals.drop (Field.offset f)).take (P.cellsOf (Field.type f)) | none => []) = (vals.drop o).take (n - o)
  | [], o, n, vals, h, _, _ => by
    simp only [runsF, Option.some.injEq] at h; subst h; simp
  | f :: fs, o, n, vals, h, ho, hn => by
    simp only [runsF] at h
    split at h
    · rename_i hb
      have hb := Nat.eq_of_beq_eq_true hb
      have hle : o + P.cellsOf f.type ≤ n := by
        have : ∀ (fs : List Field) (o n : Nat), runsF P o fs = some n → o ≤ n := by
          intro fs
          induction fs with
          | nil => intro o n h; simp only [runsF, Option.some.injEq] at h; omega
          | cons f fs ih =>
            intro o n h
            simp only [runsF] at h
            split at h
            · have := ih _ _ h; omega
            · cases h
        exact this fs _ _ h
      obtain ⟨h1, h2⟩ := runs_flat fs (o + P.cellsOf f.type) n vals h (by omega) hn
      refine ⟨by omega, ?_⟩
      rw [List.length_cons, List.range_succ_eq_map, List.flatMap_cons, List.flatMap_map]
      simp only [List.getElem?_cons_zero, Function.comp_def, List.getElem?_cons_succ]
      rw [h2, hb]
      have : n - o = P.cellsOf f.type + (n - (o + P.cellsOf f.type)) := by omega
      rw [this, List.take_add, List.drop_drop]
    · cases h
theorem segs_flat (vals : List Value) (sz : Nat) : ∀ n, n * sz ≤ vals.length → (List.range n).flatMap (fun i => (vals.drop (i * sz)).take sz) = vals.take (n * sz)
  | 0, _ => by simp
  | n + 1, h => by
    rw [Nat.add_mul, Nat.one_mul] at h
    rw [List.range_succ, List.flatMap_append, segs_flat vals sz n (by omega), Nat.add_mul, Nat.one_mul, List.take_add]
    simp
theorem trod_opened : ∀ (D fuel : Nat) (t : TypeId) (vals : List Value) (x : DataW H × List MemPlace), DataW.trod enc P w base spare held fuel t vals = some x → plainT P D t = true → ∃ cs, Opened P w t cs vals
  | 0, _, _, _, _, _, h => by simp [plainT] at h
  | D + 1, fuel, t, vals, x, h, hp => by
    have single : ∀ (a : AV) (u : Value), Rep (· < w.heap.size) w noB a u → u.oneCell' = true → TyV P t [a] → Opened P w t [a] [u] := fun a u h1 h2 h3 => ⟨.cons h1 (.nil _ _ _), fun v hv => by simp at hv; subst hv; exact h2, h3⟩
    unfold plainT at hp
    cases hu : P.underlying t with
    | none => rw [hu] at hp; cases hp
    | some d =>
      rw [hu] at hp
      cases d <;> simp only [Bool.false_eq_true] at hp <;> try (cases hp; done)
      case bool =>
        obtain ⟨b, rfl, _⟩ := DataW.trod_bool hu h
        exact ⟨_, single _ _ (.v _) rfl (.bool hu b)⟩
      case int k =>
        obtain ⟨n, rfl, _, hw⟩ := DataW.trod_int hu h
        exact ⟨_, single _ _ (.v _) rfl (.int hu n hw)⟩
      case string =>
        obtain ⟨s, rfl, _, hs⟩ := DataW.trod_string hu h
        exact ⟨_, single _ _ (.v _) rfl (.string hu s hs)⟩
      case slice e =>
        simp only [Bool.and_eq_true] at hp
        obtain ⟨hc0, hp⟩ := hp
        have hc0 : 0 < P.cellsOf e := Nat.le_of_ble_eq_true hc0
        rcases DataW.trod_slice hu h with ⟨rfl, _⟩ | ⟨a, len, cap, elems, rest, n, rfl, rfl, _, hb, hl, hm, he, hel, _⟩
        · exact ⟨_, single (.sl (P.cellsOf e) [] false) _ (.sl _ [] false none 0 0 0 (fun _ _ => .bool false) (by simp) (by simp) (fun h => by cases h) (fun _ h => by simp at h) (fun h => by simp at h) (fun i row j a h => by simp at h) (fun _ _ => rfl) (fun i row j a h => by simp at h)) rfl (.slice hu [] (by simp) (fun _ h => by simp at h) (fun _ h => by simp at h))⟩
        · have row : ∀ i, ∃ cs us, i < len → Opened P w e cs us ∧ us.length = P.cellsOf e ∧ ∀ (j : Nat), j < P.cellsOf e → w.cell? ((a.add (i * P.cellsOf e)).add j) = us[j]? := by
            intro i
            by_cases hi : i < len
            · have h1 := hel i hi
              have h2 : elems[i]? = some (elems[i]'(by omega)) := List.getElem?_eq_getElem (by omega)
              rw [h2, Option.bind_eq_some_iff] at h1
              obtain ⟨us, g1, g2⟩ := h1
              obtain ⟨cs, hcs⟩ := trod_opened D n e us _ g2 hp
              unfold World.cells? at g1
              split at g1
              · have l1 : us.length = P.cellsOf e := by simpa using mapM_some_length g1
                exact ⟨cs, us, fun _ => ⟨hcs, l1, fun j hj => mapM_some_get g1 j j (by simp [hj])⟩⟩
              · cases g1
            · exact ⟨[], [], fun h => absurd h hi⟩
          obtain ⟨A, hA⟩ := Classical.axiomOfChoice row
          obtain ⟨V, hV⟩ := Classical.axiomOfChoice hA
          have lenA : ∀ i, i < len → (A i).length = P.cellsOf e := fun i hi => (hV i hi).1.rep.1.trans (hV i hi).2.1
          have spot : ∀ i, i < len → 0 < P.cellsOf e → a.spot = none ∨ i * P.cellsOf e ≠ 0 := by
            intro i hi h0
            by_cases hz : i * P.cellsOf e = 0
            · left
              have h1 := (hV i hi).2.2 0 h0
              have h2 : (V i)[0]? = some ((V i)[0]'(by rw [(hV i hi).2.1]; exact h0)) := List.getElem?_eq_getElem _
              rw [h2] at h1
              simp only [Addr.add, hz, if_true, World.cell?] at h1
              split at h1
              · cases hs : a.spot <;> simp [hs] at h1 ⊢
              · cases h1
            · exact .inr hz
          have hspot : 0 < len → 0 < P.cellsOf e → a.spot = none := fun h1 h2 => (spot 0 h1 h2).elim id fun h => absurd (Nat.zero_mul _) h
          have cell : ∀ i, i < len → ∀ (j : Nat), j < P.cellsOf e → w.cell? ⟨a.block, a.off + i * P.cellsOf e + j, none⟩ = (V i)[j]? := by
            intro i hi j hj
            rw [← (hV i hi).2.2 j hj]
            have hsp := hspot (by omega) (by omega)
            congr 1
            obtain ⟨b, o, sp⟩ := a
            simp only at hsp
            subst hsp
            unfold Addr.add
            by_cases h1 : i * P.cellsOf e = 0 <;> by_cases h2 : j = 0 <;> simp [h1, h2]
          have hmem : ∀ row ∈ (List.range len).map A, ∃ i, i < len ∧ A i = row := fun row hr => by simpa using hr
          have at' : ∀ (i : Nat) row, ((List.range len).map A)[i]? = some row → i < len ∧ row = A i := fun i row h => by
            rw [List.getElem?_map] at h
            rcases Nat.lt_or_ge i len with hi | hi
            · rw [List.getElem?_range hi] at h
              exact ⟨hi, by simpa using h.symm⟩
            · rw [List.getElem?_eq_none (by simpa using hi)] at h; cases h
          have hval : ∀ i, i < len → ∀ (j : Nat) x, (A i)[j]? = some x → ∃ u, (V i)[j]? = some u ∧ (if i < len ∧ j < P.cellsOf e then (V i).getD j (.bool false) else .bool false) = u ∧ j < P.cellsOf e := by
            intro i hi j x hx
            have hj : j < P.cellsOf e := by rw [← lenA i hi]; exact (List.getElem?_eq_some_iff.1 hx).1
            have hj' : j < (V i).length := by rw [(hV i hi).2.1]; exact hj
            exact ⟨(V i)[j], List.getElem?_eq_getElem hj', by simp [hi, hj, hj'], hj⟩
          refine ⟨_, single (.sl (P.cellsOf e) ((List.range len).map A) false) _ ?_ rfl (.slice hu _ (by simp; omega) (fun row hr => ?_) (fun row hr => ?_))⟩
          · have := Rep.sl (S := (· < w.heap.size)) (w := w) (β := noB) (P.cellsOf e) ((List.range len).map A) false (if 0 < len then some ⟨a.block, a.off, none⟩ else some a) cap a.block a.off
              (fun i j => if i < len ∧ j < P.cellsOf e then (V i).getD j (.bool false) else .bool false) (by simpa using hl) hm (fun h => by cases h)
              (fun row hr => by obtain ⟨i, hi, rfl⟩ := hmem row hr; exact lenA i hi) ?_ ?_ ?_ ?_
            · simp only [List.length_map, List.length_range] at this
              by_cases h0 : 0 < len
              · rw [if_pos h0] at this
                have hsp := hspot h0 hc0
                obtain ⟨b, o, sp⟩ := a
                simp only at hsp; subst hsp
                exact this
              · rw [if_neg h0] at this; exact this
            · intro h0
              simp only [List.length_map, List.length_range] at h0
              rw [if_pos h0]
              refine ⟨rfl, ?_⟩
              have h1 := cell 0 h0 0 hc0
              have h2 : (V 0)[0]? = some ((V 0)[0]'(by rw [(hV 0 h0).2.1]; exact hc0)) := List.getElem?_eq_getElem _
              rw [h2] at h1
              simp only [World.cell?] at h1
              split at h1
              · rename_i hb; exact lt_of_heap hb
              · cases h1
            · intro i row j x h1 h2
              obtain ⟨hi, rfl⟩ := at' i row h1
              obtain ⟨u, g1, g2, g3⟩ := hval i hi j x h2
              rw [cell i hi j g3, g2, g1]
            · intro i j
              split
              · rename_i hc
                have hj' : j < (V i).length := by rw [(hV i hc.1).2.1]; exact hc.2
                rw [List.getD_eq_getElem?_getD, List.getElem?_eq_getElem hj']
                exact (hV i hc.1).1.one _ (List.getElem_mem hj')
              · rfl
            · intro i row j x h1 h2
              obtain ⟨hi, rfl⟩ := at' i row h1
              obtain ⟨u, g1, g2, g3⟩ := hval i hi j x h2
              rw [g2]
              exact (hV i hi).1.rep.2 j x u h2 g1
          · obtain ⟨i, hi, rfl⟩ := hmem row hr; exact (hV i hi).1.ty
          · obtain ⟨i, hi, rfl⟩ := hmem row hr; exact lenA i hi
      case struct fs =>
        simp only [Bool.and_eq_true] at hp
        obtain ⟨hp1, hp2⟩ := hp
        split at hp1
        · rename_i n hn
          have hn' := Nat.eq_of_beq_eq_true hp1
          obtain ⟨xs, m, rfl, _, hlen, hxl, hfd⟩ := DataW.trod_struct hu h
          have part : ∀ j : Nat, ∃ cs, ∀ f : Field, fs[j]? = some f → Opened P w f.type cs ((vals.drop f.offset).take (P.cellsOf f.type)) := by
            intro j
            cases hf : fs[j]? with
            | none => exact ⟨[], fun f hf => by cases hf⟩
            | some f =>
              have h1 := hfd j f hf
              have hj : j < fs.size := (Array.getElem?_eq_some_iff.1 hf).1
              rw [List.getElem?_eq_getElem (by omega)] at h1
              obtain ⟨cs, hcs⟩ := trod_opened D m f.type _ _ h1 (List.all_eq_true.1 hp2 f (Array.mem_toList_iff.2 (Array.mem_of_getElem? hf)))
              exact ⟨cs, fun f' hf' => by injection hf' with hf'; subst hf'; exact hcs⟩
          obtain ⟨A, hA⟩ := Classical.axiomOfChoice part
          obtain ⟨_, hr⟩ := runs_flat fs.toList 0 n vals hn (Nat.zero_le _) (by omega)
          have hall : (List.range fs.size).flatMap (fun j => match (fs[j]? : Option Field) with | some f => (vals.drop (Field.offset f)).take (P.cellsOf (Field.type f)) | none => []) = vals := by
            have : (List.range fs.toList.length).flatMap (fun j => match (fs.toList[j]? : Option Field) with | some f => (vals.drop f.offset).take (P.cellsOf f.type) | none => []) = vals := by
              rw [hr]; simp [hn', ← hlen]
            simpa using this
          have hrep := repL_flat (S := (· < w.heap.size)) (w := w) (β := noB) fs.size A (fun j => match (fs[j]? : Option Field) with | some f => (vals.drop (Field.offset f)).take (P.cellsOf (Field.type f)) | none => []) (fun j hj => by
            have hf : fs[j]? = some fs[j] := Array.getElem?_eq_getElem hj
            simp only [hf]
            exact (hA j _ hf).rep)
          rw [hall] at hrep
          refine ⟨_, hrep, fun u hu' => ?_, .struct hu A fun j f hf => (hA j f hf).ty⟩
          rw [← hall] at hu'
          obtain ⟨j, hj, hju⟩ := List.mem_flatMap.1 hu'
          have hj' : j < fs.size := by simpa using hj
          have hf : fs[j]? = some fs[j] := Array.getElem?_eq_getElem hj'
          simp only [hf] at hju
          exact (hA j _ hf).one u hju
        · cases hp1
      case array n e =>
        simp only [Bool.and_eq_true] at hp
        obtain ⟨hp1, hp2⟩ := hp
        have hn := Nat.eq_of_beq_eq_true hp1
        obtain ⟨xs, m, rfl, _, hlen, hxl, hfd⟩ := DataW.trod_array hu h
        have part : ∀ i, ∃ cs, i < n → Opened P w e cs ((vals.drop (i * P.cellsOf e)).take (P.cellsOf e)) := by
          intro i
          by_cases hi : i < n
          · have h1 := hfd i hi
            rw [List.getElem?_eq_getElem (by omega)] at h1
            obtain ⟨cs, hcs⟩ := trod_opened D m e _ _ h1 hp2
            exact ⟨cs, fun _ => hcs⟩
          · exact ⟨[], fun h => absurd h hi⟩
        obtain ⟨A, hA⟩ := Classical.axiomOfChoice part
        have hall := segs_flat vals (P.cellsOf e) n (by omega)
        rw [hn, ← hlen, List.take_length] at hall
        have hrep := repL_flat (S := (· < w.heap.size)) (w := w) (β := noB) n A _ (fun j hj => (hA j hj).rep)
        rw [hall] at hrep
        refine ⟨_, hrep, fun u hu' => ?_, .array hu A fun j hj => (hA j hj).ty⟩
        rw [← hall] at hu'
        obtain ⟨j, hj, hju⟩ := List.mem_flatMap.1 hu'
        exact (hA j (by simpa using hj)).one u hju
end
open Go.Shelf
def lays156_ren : Go.Shelf.Ren := ⟨fun | 156 => 17 | 165 => 38 | 166 => 33 | 169 => 35 | 240 => 57 | 241 => 63 | 276 => 67 | 277 => 71 | n => n, fun | 31 => 40 | 9 => 9 | 3 => 3 | 4 => 4 | 0 => 0 | 20 => 20 | 72 => 62 | 76 => 65 | 70 => 59 | 37 => 60 | 75 => 64 | 127 => 91 | 164 => 99 | 5 => 5 | 80 => 68 | n => n, fun | n => n⟩
theorem lays156 : Go.Proofs.Lays.n156 Tryd.prog lays156_ren := {
  mixed := by kernel_rfl
  f156 := Tryd.func17.trans (congrArg some (by kernel_rfl))
  f165 := Tryd.func38.trans (congrArg some (by kernel_rfl))
  f166 := Tryd.func33.trans (congrArg some (by kernel_rfl))
  f169 := Tryd.func35.trans (congrArg some (by kernel_rfl))
  f240 := Tryd.func57.trans (congrArg some (by kernel_rfl))
  f241 := Tryd.func63.trans (congrArg some (by kernel_rfl))
  f276 := Tryd.func67.trans (congrArg some (by kernel_rfl))
  f277 := Tryd.func71.trans (congrArg some (by kernel_rfl))
  t0 := Tryd.underlying0
  a0 := Tryd.isAgg0
  z0 := Tryd.sizeOf0
  v0 := Tryd.zeroValue0
  t3 := Tryd.underlying3
  a3 := Tryd.isAgg3
  z3 := Tryd.sizeOf3
  v3 := Tryd.zeroValue3
  t4 := Tryd.underlying4
  a4 := Tryd.isAgg4
  z4 := Tryd.sizeOf4
  v4 := Tryd.zeroValue4
  t9 := Tryd.underlying9
  a9 := Tryd.isAgg9
  z9 := Tryd.sizeOf9
  v9 := Tryd.zeroValue9
  t20 := Tryd.underlying20
  a20 := Tryd.isAgg20
  z20 := Tryd.sizeOf20
  v20 := Tryd.zeroValue20
  t31 := Tryd.underlying40
  a31 := Tryd.isAgg40
  z31 := Tryd.sizeOf40
  v31 := Tryd.zeroValue40
  t37 := Tryd.underlying60
  a37 := Tryd.isAgg60
  z37 := Tryd.sizeOf60
  v37 := Tryd.zeroValue60
  t70 := Tryd.underlying59
  a70 := Tryd.isAgg59
  z70 := Tryd.sizeOf59
  v70 := Tryd.zeroValue59
  t72 := Tryd.underlying62
  a72 := Tryd.isAgg62
  z72 := Tryd.sizeOf62
  v72 := Tryd.zeroValue62
  t75 := Tryd.underlying64
  a75 := Tryd.isAgg64
  z75 := Tryd.sizeOf64
  v75 := Tryd.zeroValue64
  t76 := Tryd.underlying65
  a76 := Tryd.isAgg65
  z76 := Tryd.sizeOf65
  v76 := Tryd.zeroValue65
  t127 := Tryd.underlying91
  a127 := Tryd.isAgg91
  z127 := Tryd.sizeOf91
  v127 := Tryd.zeroValue91
  t164 := Tryd.underlying99
  a164 := Tryd.isAgg99
  z164 := Tryd.sizeOf99
  v164 := Tryd.zeroValue99 }
theorem Builder_Extra_156 : Builder.Extra Tryd.prog lays156_ren := {
  sizeBuilder := by kernel_rfl
  liesBuilder := by kernel_rfl
  t5 := Tryd.underlying5
  a5 := Tryd.isAgg5
  z5 := Tryd.sizeOf5
  v5 := Tryd.zeroValue5
  infoByte := by kernel_rfl
  cellsByte := by kernel_rfl
  sizeByte := by kernel_rfl
  neB5 := by decide }
open Go.RowKit Go.Lib Go.Shelf
structure Std (S : Nat → Prop) (w w' : World) : Prop where
  os : w'.os = w.os
  tape : w'.tape = w.tape
  output : w'.output = w.output
  size : w.heap.size ≤ w'.heap.size
  block : ∀ k, S k → w'.heap[k]? = w.heap[k]?
theorem Std.refl (S : Nat → Prop) (w : World) : Std S w w := ⟨rfl, rfl, rfl, Nat.le_refl _, fun _ _ => rfl⟩
theorem Std.trans {S S' : Nat → Prop} {a b c : World} (h : Std S a b) (k : Std S' b c) (hS : ∀ x, S x → S' x) : Std S a c :=
  ⟨k.os.trans h.os, k.tape.trans h.tape, k.output.trans h.output, Nat.le_trans h.size k.size, fun x hx => (k.block x (hS x hx)).trans (h.block x hx)⟩
theorem Std.of {S : Nat → Prop} {w w' : World} (h : Below w.heap.size w w') (hS : ∀ k, S k → k < w.heap.size) : Std S w w' := ⟨h.os, h.tape, h.output, h.size, fun k hk => h.block k (hS k hk)⟩
theorem Std.to {S : Nat → Prop} {B : Nat} {w w' : World} (h : Std S w w') (hS : ∀ k, k < B → S k) : Below B w w' := ⟨h.os, h.tape, h.output, h.size, fun k hk => h.block k (hS k hk)⟩
theorem Std.grown {S : Nat → Prop} {w w' : World} {row : Option Nat} (hg : w.grownBy w' row) (hlt : ∀ k, S k → k < w.heap.size) (hr : ∀ g, row = some g → ¬ S g) : Std S w w' :=
  ⟨hg.os, hg.tape, hg.output, hg.size, fun k hk => hg.block k (hlt k hk) fun e => hr k e.symm hk⟩
theorem Std.setCell {S : Nat → Prop} {w : World} {p : Addr} (v : Value) (hp : ¬ S p.block) : Std S w (w.setCell p v) :=
  ⟨rfl, rfl, rfl, by simp [World.setCell], fun k hk => Below.heap_setCell _ _ _ _ (fun e => hp (e ▸ hk))⟩
structure Bd (S : Nat → Prop) (b : Nat) (bs : W) (w : World) : Prop where
  lt : ∀ k, S k → k < w.heap.size
  nb : ¬ S b
  is : ∃ p v, (p = .pointer none ∨ p = .pointer (some ⟨b, 0, none⟩)) ∧ w.heap[b]? = some (.cells #[p, v] 62 (0, 0)) ∧ w.ownsRowF 0 5 1 v bs.length (Lib.byteCells bs) ∧ v.ownBlock ≠ some b ∧ ∀ g, v.ownBlock = some g → ¬ S g
theorem Bd.blt {S : Nat → Prop} {b : Nat} {bs : W} {w : World} (h : Bd S b bs w) : b < w.heap.size := by
  obtain ⟨p, v, _, h2, _⟩ := h.is
  exact lt_of_heap h2
theorem Bd.new {S : Nat → Prop} {w : World} (hS : ∀ k, S k → k < w.heap.size) : Bd S w.heap.size [] (w.alloc (.cells #[.pointer none, .slice none 0 0] 62)) :=
  ⟨fun k hk => by have := hS k hk; show k < (w.heap.push _).size; rw [Array.size_push]; omega, fun h => Nat.lt_irrefl _ (hS _ h),
   _, _, .inl rfl, heap_alloc_new w _, World.ownsRowF_nil _ _ _ _, by simp [Value.ownBlock], fun g h => by simp [Value.ownBlock] at h⟩
theorem Bd.below {S S' : Nat → Prop} {b : Nat} {bs : W} {w w' : World} (h : Bd S b bs w) (hw : Below w.heap.size w w') (hS : ∀ k, S' k → S k ∨ (w.heap.size ≤ k ∧ k < w'.heap.size)) : Bd S' b bs w' := by
  have hsz := hw.size
  have hb := h.blt
  have hst : ∀ k, k < w.heap.size → w'.heap[k]? = w.heap[k]? := fun k hk => hw.block k hk
  refine ⟨fun k hk => ?_, fun hk => ?_, ?_⟩
  · rcases hS k hk with q | q
    · exact Nat.lt_of_lt_of_le (h.lt k q) hsz
    · exact q.2
  · rcases hS b hk with q | q
    · exact h.nb q
    · omega
  · obtain ⟨p, v, h1, h2, h3, h4, h5⟩ := h.is
    have hl := h3.lt
    refine ⟨p, v, h1, (hst b hb).trans h2, ⟨h3.1, ?_⟩, h4, fun g hg hk => ?_⟩
    · rcases h3.2 with hn | ⟨g, cap, cur, fz, hv, q1, q2, q3⟩
      · exact .inl hn
      · exact .inr ⟨g, cap, cur, fz, hv, q1, (hst g (lt_of_heap q2)).trans q2, q3⟩
    · rcases hS g hk with q | q
      · exact h5 g hg q
      · have := (hl g hg).2; omega
theorem Bd.isF {S : Nat → Prop} {b : Nat} {bs : W} {w : World} (h : Bd S b bs w) : IsBuilderF 62 5 0 b (Lib.byteCells bs) w := by
  obtain ⟨p, v, h1, h2, h3, h4, _⟩ := h.is
  have h3' : w.ownsRowF 0 5 1 v (Lib.byteCells bs).length (Lib.byteCells bs) := by rw [Lib.byteCells_length]; exact h3
  rcases h1 with rfl | rfl
  · exact .inl ⟨Nat.zero_le _, v, h2, h3', h4⟩
  · exact .inr ⟨Nat.zero_le _, v, h2, h3', h4⟩
theorem bCheck {S : Nat → Prop} {b : Nat} {bs : W} {w : World} (h : Bd S b bs w) :
    Calls Tryd.prog 57 #[.pointer (some ⟨b, 0, none⟩)] w fun e w' => e = .returned (.tuple #[]) ∧ Std S w w' ∧ w'.heap.size = w.heap.size ∧
      ∃ v, w'.heap[b]? = some (.cells #[.pointer (some ⟨b, 0, none⟩), v] 62 (0, 0)) ∧ w'.ownsRowF 0 5 1 v bs.length (Lib.byteCells bs) ∧ v.ownBlock ≠ some b ∧ ∀ g, v.ownBlock = some g → ¬ S g := by
  have hF := h.isF
  obtain ⟨p, v, h1, h2, h3, h4, h5⟩ := h.is
  rcases hF with hF | hF
  · refine (Any.Builder_copyCheck_fresh { lays156 with } Builder_Extra_156.toX72 b w hF.cell0 hF.shape hF.frozen0).mono ?_
    rintro e w' ⟨rfl, rfl⟩
    refine ⟨rfl, Std.setCell _ h.nb, by simp [World.setCell], v, by simp [World.setCell, Array.getElem?_modify, h2], ?_, h4, h5⟩
    exact h3.kept (row := some b) ⟨rfl, rfl, rfl, by simp [World.setCell], fun k _ hk => Below.heap_setCell _ _ _ _ (fun e => hk (by simp [e]))⟩ (Or.inr h4)
  · refine (Any.Builder_copyCheck_used { lays156 with } Builder_Extra_156.toX72 b w hF.cell0).mono ?_
    rintro e w' ⟨rfl, rfl⟩
    have hp : p = .pointer (some ⟨b, 0, none⟩) := by
      obtain ⟨_, v2, q, _⟩ := hF
      rw [h2] at q
      injection q with q
      injection q with q
      have := congrArg (fun a : Array Value => a[0]?) q
      simpa using this
    subst hp
    exact ⟨rfl, Std.refl _ _, rfl, v, h2, h3, h4, h5⟩
theorem run_app_at {P : Program} (w : World) (t u ty e : TypeId) (i : TypeInfo) (ht : P.underlying t = some (.slice e)) (hu : P.underlying u = some .string) (hi : P.info? e = some i) (hz : i.zero = some (.int .u8 0))
    (hsize : i.size = 1) (hby : i.bytes = 1) (v : Value) (n : Nat) (xs : List Value) (hown : w.ownsRowF 0 e 1 v n xs) (s : ByteArray) (hbytes : n + s.size ≤ 140737488355328) :
    ∃ v' w', (Builtin.append_ #[t, u] ty #[v, .string s]).run P w = .ok v' w' ∧ w'.ownsRowF 0 e 1 v' (n + s.size) (xs ++ Lib.strCells s) ∧ w.grownBy w' v.ownBlock ∧ ∀ g, v'.ownBlock = some g → v.ownBlock = some g ∨ w.heap.size ≤ g := by
  have h63 : n + s.size ≤ maxLen := by unfold maxLen; omega
  obtain ⟨v', w', h1, h2, h3, _⟩ := run_append_own_stringF (P := P) w 0 t u ty e i ht hu hi hz hsize hby v n xs hown s h63 hbytes (Nat.zero_le _)
  refine ⟨v', w', h1, h2, h3, fun k hk => ?_⟩
  rcases hown.2 with ⟨rfl, rfl⟩ | ⟨g, cap, cur, fz, rfl, _, hg, hfz, hnc, hcm, hcs, htake⟩
  · obtain ⟨v2, w2, q1, q2, _⟩ := run_append_own_stringF (P := P) w w.heap.size t u ty e i ht hu hi hz hsize hby (.slice none 0 0) 0 xs ⟨hown.1, .inl ⟨rfl, rfl⟩⟩ s h63 hbytes (Nat.le_refl _)
    rw [h1] at q1
    injection q1 with q1 _
    subst q1
    exact .inr (q2.lt k hk).1
  · by_cases hroom : n + s.size ≤ cap
    · have hr := run_append_room_stringF (P := P) w t u ty e i ht hu hi hsize g n cap cur fz hg (by simpa using hfz) s hroom (by rw [Nat.mul_one] at hcs; omega)
      rw [h1] at hr
      injection hr with q1 _
      subst q1
      exact .inl hk
    · have hr := run_append_grow_string (P := P) w t u ty e i (.int .u8 0) ht hu hi hz ⟨g, 0, none⟩ n cap xs (by rw [hsize]; simpa using hown.1) (hown.cells (g := g) rfl) s (by omega) (by omega) (by rw [hby]; exact growslice_fits (by omega) (by omega))
      rw [h1] at hr
      injection hr with q1 _
      subst q1
      simp only [Value.ownBlock, Option.some.injEq] at hk
      exact .inr (Nat.le_of_eq hk)
theorem wpList_app_at {P : Program} {w : World} {ops : Array Oper} {rest : List Oper} {o : Oper} {a : Act} {Q : Exit → Act → World → Prop} (hgd : o.guard = none) (sl x : Operand) (t u : TypeId)
    (ho : o.op = .call { callee := .builtin .append, args := #[sl, x], argTypes := #[t, u] })
    (e : TypeId) (i : TypeInfo) (ht : P.underlying t = some (.slice e)) (hu : P.underlying u = some .string) (hi : P.info? e = some i) (hz : i.zero = some (.int .u8 0))
    (hsize : i.size = 1) (hby : i.bytes = 1)
    (v : Value) (n : Nat) (xs : List Value) (hs : a.eval sl = v) (hown : w.ownsRowF 0 e 1 v n xs) (s : ByteArray) (hx : a.eval x = .string s) (hbytes : n + s.size ≤ 140737488355328)
    (h : ∀ v' w', w'.ownsRowF 0 e 1 v' (n + s.size) (xs ++ Lib.strCells s) → w.grownBy w' v.ownBlock → (∀ g, v'.ownBlock = some g → v.ownBlock = some g ∨ w.heap.size ≤ g) → wpList P ops Q rest (a.put o.dst v') w') : wpList P ops Q (o :: rest) a w := by
  refine wpList_plain hgd fun K hK => ?_
  obtain ⟨v', w', hr, h2, h3, h4⟩ := run_app_at (P := P) w t u o.type e i ht hu hi hz hsize hby v n xs hown s hbytes
  unfold Oper.wp execOp
  simp only [ho, resolve, invoke, builtin, Sem.run_bind, Sem.run_pure, Result.andThen_ok, List.map_toArray, List.map_cons, List.map_nil, hs, hx, hr]
  exact hK _ _ (h v' w' h2 h3 h4)
set_option maxHeartbeats 2000000 in
theorem bWrite {S : Nat → Prop} {b : Nat} {bs : W} {w : World} (h : Bd S b bs w) (s : ByteArray) (hl : bs.length + s.size ≤ 140737488355328) :
    Calls Tryd.prog 33 #[.pointer (some ⟨b, 0, none⟩), .string s] w fun e w' => e = .returned (.tuple #[.int .i64 s.size, .nilIface]) ∧ Bd S b (bs ++ s.data.toList) w' ∧ Std S w w' := by
  have L := lays156
  have X := Builder_Extra_156
  obtain ⟨i0, hi, hz0, hz1, hz2⟩ := info_parts X.infoByte
  have e240 : ∀ args w, (callFunc 57 args).run Tryd.prog w = .ok (.enter 57 args) w := enters_of L.f240 (by kernel_rfl) rfl
  go_enter Tryd.func33, Tryd.ntmps33
  go_wp2_with (go_at_fn 57; refine (bCheck h).mono ?_)
  rintro e w1 ⟨rfl, hs1, hz, v, hbk, hown, hne, hnS⟩
  have c0 : w1.cell? ⟨b, 0, none⟩ = some (.pointer (some ⟨b, 0, none⟩)) := by rw [Lib.cell_of_heap hbk]; rfl
  have c1 : w1.cell? ⟨b, 1, none⟩ = some v := by rw [Lib.cell_of_heap hbk]; rfl
  go_wp2_with (at_builtin; refine wpList_app_at rfl _ _ 60 9 rfl 5 i0 L.t37 L.t9 hi hz0 hz1 hz2 _ _ _ rfl hown s rfl (by omega) ?_)
  intro v' w2 hown' hgrow hat
  have hlt : b < w1.heap.size := lt_of_heap hbk
  have hb2 : w2.heap[b]? = some (.cells #[.pointer (some ⟨b, 0, none⟩), v] 62 (0, 0)) := by
    rw [hgrow.block b hlt (fun e => hne e.symm)]
    exact hbk
  have d0 : w2.cell? ⟨b, 0, none⟩ = some (.pointer (some ⟨b, 0, none⟩)) := by rw [Lib.cell_of_heap hb2]; rfl
  have d1 : w2.cell? ⟨b, 1, none⟩ = some v := by rw [Lib.cell_of_heap hb2]; rfl
  have f1 : w2.frozen? ⟨b, 1, none⟩ = false := Lib.frozen_of_heap hb2 1
  have hlt1 : ∀ k, S k → k < w1.heap.size := fun k hk => by rw [hz]; exact h.lt k hk
  have hnS' : ∀ g, v'.ownBlock = some g → ¬ S g := by
    intro g hg hk
    rcases hat g hg with q | q
    · exact hnS g q hk
    · have := hlt1 g hk; omega
  obtain ⟨ao, n', cap, rfl⟩ : ∃ ao n' cap, v' = .slice ao n' cap := by
    rcases hown'.2 with ⟨hv, _⟩ | ⟨g, cap, cur, fz, hv, _⟩
    · exact ⟨_, _, _, hv⟩
    · exact ⟨_, _, _, hv⟩
  go_wp2
  go_ret2
  refine ⟨rfl, ?_, ?_⟩
  · have hne' := ownBlock_neF hown' hb2 X.neB5
    refine ⟨fun k hk => ?_, h.nb, _, .slice ao n' cap, .inr rfl, ?_, ?_, hne', hnS'⟩
    · have := hlt1 k hk; have := hgrow.size; simp [World.setCell]; omega
    · simp [World.setCell, Array.getElem?_modify, hb2]
    · have e : Lib.byteCells (bs ++ s.data.toList) = Lib.byteCells bs ++ Lib.strCells s := by rw [Lib.strCells_eq, ← Lib.byteCells_append]
      rw [e, show (bs ++ s.data.toList).length = bs.length + s.size by rw [List.length_append, ← Lib.size_eq]]
      exact hown'.kept (row := some b) ⟨rfl, rfl, rfl, by simp [World.setCell], fun k _ hk => Below.heap_setCell _ _ _ _ (fun e => hk (by simp [e]))⟩ (Or.inr hne')
  · exact (hs1.trans (Std.grown hgrow hlt1 hnS) fun _ hx => hx).trans (Std.setCell (p := ⟨b, 1, none⟩) _ h.nb) fun _ hx => hx
set_option maxHeartbeats 2000000 in
theorem bString {S : Nat → Prop} {b : Nat} {bs : W} {w : World} (h : Bd S b bs w) (h0 : bs ≠ []) :
    Calls Tryd.prog 35 #[.pointer (some ⟨b, 0, none⟩)] w fun e w' => e = .returned (.string (sB bs)) ∧ Std S w w' := by
  have L := lays156
  have X := Builder_Extra_156
  obtain ⟨p, v, h1, hbk, hown, h4, h5⟩ := h.is
  have hl0 : bs.length ≠ 0 := by simpa using h0
  obtain ⟨g, cap, cur, fz, rfl, hg, hcm, hcs, hnc⟩ : ∃ g cap cur fz, v = .slice (some ⟨g, 0, none⟩) bs.length cap ∧ w.heap[g]? = some (.cells cur 5 fz) ∧ cap ≤ maxLen ∧ cur.size = cap * 1 ∧ bs.length ≤ cap := by
    rcases hown.2 with ⟨_, hz⟩ | ⟨g, cap, cur, fz, hv, _, q2, _, q4, q5, q6, _⟩
    · exact absurd hz hl0
    · exact ⟨g, cap, cur, fz, hv, q2, q5, q6, q4⟩
  have c1 : w.drew.cell? ⟨b, 1, none⟩ = some (.slice (some ⟨g, 0, none⟩) bs.length cap) := by
    have : w.drew.heap[b]? = some (.cells #[p, .slice (some ⟨g, 0, none⟩) bs.length cap] 62 (0, 0)) := hbk
    rw [Lib.cell_of_heap this]; rfl
  have hSD : (Builtin.unsafeSliceData_ #[60] 91 #[.slice (some ⟨g, 0, none⟩) bs.length cap]).run Tryd.prog w.drew = .ok (.pointer (some ⟨g, 0, none⟩)) w.drew :=
    Lib.run_unsafeSliceData_row _ _ _ _ _ _ (by omega)
  have hUS : (Builtin.unsafeString_ #[91, 3] 9 #[.pointer (some ⟨g, 0, none⟩), .int .i64 bs.length]).run Tryd.prog w.drew = .ok (.string (sB bs)) (w.drew.freeze ⟨g, 0, none⟩ bs.length) := by
    refine Lib.run_unsafeString_row w.drew 91 3 9 5 L.t127 X.cellsByte g cur.size (by have hg' : w.drew.heap[g]? = some (.cells cur 5 fz) := hg; simp [World.shape?, hg']) bs h0 (by omega) (by unfold maxLen at hcm; omega) ?_
    intro j x hx
    exact hown.cells (g := g) rfl j (.int .u8 x.toNat) (by simp [Lib.byteCells, hx])
  have hst : Std S w (w.drew.freeze ⟨g, 0, none⟩ bs.length) := by
    have hng := h5 g rfl
    refine ⟨by unfold World.freeze; split <;> rfl, by unfold World.freeze; split <;> rfl, by unfold World.freeze; split <;> rfl, ?_, fun k hk => ?_⟩
    · unfold World.freeze
      split
      · exact Nat.le_refl _
      · simp only [Array.size_modify]; exact Nat.le_refl _
    · have hkg : g ≠ k := fun e => hng (e ▸ hk)
      unfold World.freeze
      split
      · rfl
      · simp only [Array.getElem?_modify]
        rw [if_neg hkg]
        rfl
  go_enter Tryd.func35, Tryd.ntmps35
  have mixed := L.mixed
  go_wp2
  go_region_o
  all_goals (go_wp2; go_ret; exact ⟨rfl, hst⟩)
theorem rep_std {S : Nat → Prop} {w w' : World} (hs : ∀ b, S b → w'.heap[b]? = w.heap[b]?) {β : Bt} {a : AV} {x : Value} (h : Rep S w β a x) : β = noB → ∀ {S' : Nat → Prop}, (∀ b, S b → S' b) → Rep S' w' noB a x := by
  induction h with
  | v x => intro _ S' _; exact .v x
  | agg cs vs hl h1 h ih => intro e S' hS; exact .agg cs vs hl h1 fun i a u q1 q2 => ih i a u q1 q2 e hS
  | tup cs vs hl h ih => intro e S' hS; exact .tup cs vs hl fun i a u q1 q2 => ih i a u q1 q2 e hS
  | sl rs rows clip A c b o u hc hm hcl hrs hA hw h1 hr ih =>
    intro _ S' hS
    refine .sl rs rows clip A c b o u hc hm hcl hrs (fun q => ⟨(hA q).1, hS b (hA q).2⟩) (fun i row j a q1 q2 => ?_) h1 fun i row j a q1 q2 => ih i row j a q1 q2 rfl hS
    have hpos : 0 < rows.length := by have := (List.getElem?_eq_some_iff.1 q1).1; omega
    rw [cell_of_heap (hs b (hA hpos).2)]
    exact hw i row j a q1 q2
  | dp rs col row b o u hrs hb hw h1 hr ih =>
    intro _ S' hS
    refine .dp rs col row b o u hrs (hS b hb) (fun j a q => ?_) h1 fun j a q => ih j a q rfl hS
    rw [cell_of_heap (hs b hb)]
    exact hw j a q
  | ptr s col l hl => intro e; subst e; cases hl
  | ptr2 s row col l hl => intro e; subst e; cases hl
  | osl s lo len clip l A c hl => intro e; subst e; cases hl
  | clo f first caps vs us hl h hl' h' ih ih' => intro e S' hS; exact .clo f first caps vs us hl (fun i a u q1 q2 => ih i a u q1 q2 e hS) hl' fun i a u q1 q2 => ih' i a u q1 q2 e hS
  | optT g a x hg h ih => intro e S' hS; exact .optT g a x hg (ih e hS)
  | optF g a hg => intro _ S' _; exact .optF g a hg
  | any x => intro _ S' _; exact .any x
theorem gok_std {C : Ctx} {S S' : Nat → Prop} {w w' : World} (hs : ∀ b, S b → w'.heap[b]? = w.heap[b]?) (hS : ∀ b, S b → S' b) (h : GOk C S w) : GOk C S' w' := fun g cells hg => by
  obtain ⟨h1, cs, e, fr, h2, h3⟩ := h g cells hg
  refine ⟨rep_std hs h1 rfl hS, cs, e, fr, ?_, h3⟩
  have hSg : S g := by
    generalize hp : Value.pointer (some (⟨g, 0, none⟩ : Addr)) = p at h1
    cases h1 with
    | dp _ _ _ b o u hrs hb hw h1 hr => simp only [Value.pointer.injEq, Option.some.injEq, Addr.mk.injEq] at hp; rw [hp.1]; exact hb
  rw [hs g hSg]; exact h2
theorem DCall.vals {f : FuncId} {args : List AV} {vs : List Value} {v : Value} (h : DCall C0 f args (.v v)) (ha : valL args = some vs) {S : Nat → Prop} {w : World} (hS : ∀ b, S b → b < w.heap.size) (hG : GOk C0 S w) :
    Calls Tryd.prog f vs.toArray w fun e w' => e = .returned v ∧ Below w.heap.size w w' :=
  (h.2 S w vs hS hG (valL_rep ha)).mono fun e w' ⟨u, h1, h2, h3⟩ => by
    obtain rfl := rep_v h3
    exact ⟨h1, h2⟩
theorem dName12 : DCall C0 23 [vN 12] (.v (.string ⟨#[109, 101, 109]⟩)) := dName 12 (by decide)
set_option maxHeartbeats 4000000 in
set_option maxRecDepth 100000 in
theorem wNum12 (b : Nat) {S : Nat → Prop} {w : World} (hS : ∀ b, S b → b < w.heap.size) (hG : GOk C0 S w) :
    Calls Tryd.prog 45 #[.pointer (some ⟨b, 0, none⟩), .int .i64 12] w fun e w' => e = .returned (.pointer none) ∧ Below w.heap.size w w' := by
  have hN := fun w' hS' hG' => (dName12.vals (vs := [.int .i64 12]) rfl (S := S) (w := w') hS' hG')
  have eN : ∀ args w, (callFunc 23 args).run Tryd.prog w = .ok (.enter 23 args) w := enters_of Tryd.func23 (by kernel_rfl) rfl
  go_enter Tryd.func45, Tryd.ntmps45
  go_wp2_with (go_at_fn 23; refine (hN _ hS hG).mono ?_)
  rintro e w1 ⟨rfl, hb1⟩
  go_wp2
  go_ret
  exact ⟨rfl, hb1⟩
theorem one_row {s : W} {i j : Nat} {row : List AV} {a : AV} (h1 : [rowS s][i]? = some row) (h2 : row[j]? = some a) : i = 0 ∧ j = 0 ∧ a = vS s := by
  match i, h1 with
  | 0, h1 =>
    obtain rfl := Option.some.inj h1
    match j, h2 with
    | 0, h2 => exact ⟨rfl, rfl, (Option.some.inj h2).symm⟩
    | j + 1, h2 => simp [rowS] at h2
  | i + 1, h1 => simp at h1
set_option maxHeartbeats 4000000 in
set_option maxRecDepth 100000 in
theorem dWritten12 (p : ScPlan) (c1 c2 c3 : Bool) (hp : p.ok) (h0 : p.mem ≠ []) (hm : p.mem.length ≤ 256) : DCall C0 34 [.agg (planL p c1 c2 c3), vI 12] (.sl 1 [rowS (hexL p.mem)] false) := by
  refine ⟨⟨Tryd.f34, Tryd.func34, rfl, by kernel_rfl⟩, fun S w vs hS hG hu => ?_⟩
  obtain ⟨pv, rfl, hpv⟩ : ∃ pv, vs = [pv, .int .i64 12] ∧ Rep S w noB (.agg (planL p c1 c2 c3)) pv := by
    match vs, hu with
    | [x, y], hu =>
      have h1 := rep_v (hu.2 1 _ _ rfl rfl)
      exact ⟨x, by rw [h1], hu.2 0 _ _ rfl rfl⟩
    | [], hu => cases hu.1
    | [x], hu => cases hu.1
    | x :: y :: z :: t, hu => cases hu.1
  obtain ⟨us, rfl, hl, h1, hr⟩ : ∃ us, pv = .agg us ∧ (planL p c1 c2 c3).length = us.size ∧ (∀ (i : Nat) u, us[i]? = some u → u.oneCell' = true) ∧ (∀ (i : Nat) a u, (planL p c1 c2 c3)[i]? = some a → us[i]? = some u → Rep S w noB a u) := by
    cases hpv with
    | agg cs vs hl h1 h => exact ⟨_, rfl, hl, h1, h⟩
  show Calls Tryd.prog _ #[.agg us, .int .i64 12] w _
  go_enter Tryd.func34, Tryd.ntmps34
  have eN : ∀ args w, (callFunc 23 args).run Tryd.prog w = .ok (.enter 23 args) w := enters_of Tryd.func23 (by kernel_rfl) rfl
  have eM : ∀ args w, (callFunc 45 args).run Tryd.prog w = .ok (.enter 45 args) w := enters_of Tryd.func45 (by kernel_rfl) rfl
  have hB0 : Below w.heap.size w (w.alloc (.cells us 27)) := (Below.refl _ _).alloc (Nat.le_refl _) _
  have hS1 : ∀ b, S b → b < (w.alloc (.cells us 27)).heap.size := fun b hb => Nat.lt_of_lt_of_le (hS b hb) hB0.size
  have hG1 : GOk C0 S (w.alloc (.cells us 27)) := gok_std (fun b hb => hB0.block b (hS b hb)) (fun _ h => h) hG
  go_wp2_with (go_at_fn 45; refine (wNum12 _ hS1 hG1).mono ?_)
  rintro e w1 ⟨rfl, hb1⟩
  have hS2 : ∀ b, S b → b < w1.heap.size := fun b hb => Nat.lt_of_lt_of_le (hS1 b hb) hb1.size
  have hG2 : GOk C0 S w1 := gok_std (fun b hb => hb1.block b (hS1 b hb)) (fun _ h => h) hG1
  have hN := dName12.vals (vs := [.int .i64 12]) rfl hS2 hG2
  go_wp2_with (go_at_fn 23; refine hN.mono ?_)
  rintro e w2 ⟨rfl, hb2⟩
  have hlt0 : w.heap.size < (w.alloc (.cells us 27)).heap.size := by show _ < (w.heap.push _).size; rw [Array.size_push]; exact Nat.lt_succ_self _
  have hlt1 : w.heap.size < w1.heap.size := Nat.lt_of_lt_of_le hlt0 hb1.size
  have hlt2 : w.heap.size < w2.heap.size := Nat.lt_of_lt_of_le hlt1 hb2.size
  have hbox : w2.heap[w.heap.size]? = some (.cells us 27 (0, 0)) := by
    rw [hb2.block _ hlt1, hb1.block _ hlt0]; exact heap_alloc_new w _
  have hmem : us[12]? = some (.string (sB p.mem)) := by
    have h12 : 12 < us.size := by rw [← hl]; exact Nat.lt_of_lt_of_eq (by decide) (show 14 = (planL p c1 c2 c3).length from rfl)
    rw [Array.getElem?_eq_getElem h12]
    exact congrArg some (rep_v (hr 12 _ _ rfl (Array.getElem?_eq_getElem h12)))
  generalize hw3 : w2.alloc (.cells #[.pointer none, .slice none 0 0] 62) = w3
  have hnew : Bd (· < w2.heap.size) w2.heap.size [] w3 := hw3 ▸ Bd.new (fun k hk => hk)
  have hst3 : Std (· < w2.heap.size) w2 w3 := by rw [← hw3]; exact Std.of ((Below.refl _ _).alloc (Nat.le_refl _) _) (fun _ h => h)
  have hcell : ∀ wr, Std (· < w2.heap.size) w2 wr → wr.cell? ⟨w.heap.size, 12, none⟩ = some (.string (sB p.mem)) := fun wr hwr => by
    rw [cell_of_cells ((hwr.block _ hlt2).trans hbox)]; exact hmem
  have hc3 := hcell w3 hst3
  have hml : (sB p.mem).size = p.mem.length := rfl
  have eD : ∀ args w, (callFunc 58 args).run Tryd.prog w = .ok (.enter 58 args) w := enters_of Tryd.func58 (by kernel_rfl) rfl
  have eW : ∀ args w, (callFunc 33 args).run Tryd.prog w = .ok (.enter 33 args) w := enters_of Tryd.func33 (by kernel_rfl) rfl
  have eT : ∀ args w, (callFunc 35 args).run Tryd.prog w = .ok (.enter 35 args) w := enters_of Tryd.func35 (by kernel_rfl) rfl
  go_wp2_with fail
  go_loopw [96] (fun i wr => ∃ k : Nat, i = .int .i64 k ∧ k ≤ p.mem.length ∧ Hid (Bd (· < w2.heap.size) w2.heap.size (hexL (p.mem.take k)) wr) ∧ Hid (Std (· < w2.heap.size) w2 wr)) (fun i _ => p.mem.length - (RowKit.intOf i).toNat)
  case atStart => exact ⟨0, rfl, Nat.zero_le _, hnew, hst3⟩
  case round =>
    obtain ⟨k, rfl, hk, HB, HW⟩ := hrel
    have hcr := hcell wr HW.out
    by_cases hkl : k < p.mem.length
    · have hSr : ∀ b, S b → b < wr.heap.size := fun b hb => Nat.lt_of_lt_of_le (Nat.lt_of_lt_of_le (hS2 b hb) hb2.size) HW.out.size
      have hSw2 : ∀ b, S b → b < w2.heap.size := fun b hb => Nat.lt_of_lt_of_le (hS2 b hb) hb2.size
      have hGr : GOk C0 S wr := gok_std (fun b hb => (HW.out.block b (hSw2 b hb)).trans (hb2.block b (hS2 b hb))) (fun _ h => h) hG2
      have hx := UInt8.toNat_lt p.mem[k]
      have hD : ∀ z : Int, z = (p.mem[k].toNat : Nat) → Calls Tryd.prog 58 #[.int .u32 z, .int .i64 2] wr fun e w' => e = .returned (.string (sB (digH p.mem[k].toNat 2))) ∧ Below wr.heap.size wr w' := fun z hz => by
        subst hz; exact (dDig2 _ (by omega)).vals (vs := [.int .u32 (p.mem[k].toNat : Nat), .int .i64 2]) rfl hSr hGr
      go_wp2_with (go_at_fn 58; refine (hD _ (by show ((p.mem[k].toNat : Nat) : Int) % 4294967296 = _; omega)).mono ?_)
      rintro e w4 ⟨rfl, hb4⟩
      have hlk := hexL_len p.mem k
      have hB4 := HB.out.below (S' := (· < w2.heap.size)) hb4 (fun _ h => .inl h)
      have hW4 := HW.out.trans (Std.of hb4 HB.out.lt) (fun _ h => h)
      go_wp2_with (go_at_fn 33; refine (bWrite hB4 (sB (digH p.mem[k].toNat 2)) (by rw [show (sB (digH p.mem[k].toNat 2)).size = 2 from rfl]; omega)).mono ?_)
      rintro e w5 ⟨rfl, hB5, hW5⟩
      have hnx : hexL (p.mem.take k) ++ (sB (digH p.mem[k].toNat 2)).data.toList = hexL (p.mem.take (k + 1)) := by
        have := hexL_next hkl []
        rw [List.getD_eq_getElem?_getD, List.getElem?_eq_getElem hkl] at this
        exact this
      rw [hnx] at hB5
      have HB5 : Hid (Bd (· < w2.heap.size) w2.heap.size (hexL (p.mem.take (k + 1))) w5) := hB5
      have HW5 : Hid (Std (· < w2.heap.size) w2 w5) := hW4.trans hW5 (fun _ h => h)
      clear hnx hB5 hW5 hB4 hW4
      go_wp2_with fail
      go_roundw
      case rel => exact ⟨k + 1, by go_num, by omega, HB5, HW5⟩
      case measure => simp [RowKit.intOf]; omega
    · have hke : k = p.mem.length := by omega
      subst hke
      have hB := HB.out
      rw [List.take_length] at hB
      have hne : hexL p.mem ≠ [] := by
        cases hq : p.mem with
        | nil => exact absurd hq h0
        | cons x t => show _ :: _ ≠ []; exact List.cons_ne_nil _ _
      have hT := bString hB hne
      go_wp2_with (go_at_fn 35; refine hT.mono ?_)
      rintro e w6 ⟨rfl, hW6⟩
      have HW6 := HW.out.trans hW6 (fun _ h => h)
      go_wp2_with fail
      go_ret
      have hBl : Below w.heap.size w w6 := ((hB0.trans (hb1.mono hB0.size)).trans (hb2.mono (Nat.le_trans hB0.size hb1.size))).trans (HW6.to fun k hk => Nat.lt_trans hk hlt2)
      have hg1 := grownCap_ge w6 1 0 9
      have hg2 := grownCap_le_maxLen w6 1 0 9 (by unfold maxLen; omega)
      unfold grownCap at hg1 hg2
      generalize (Question.appendCap 1 0 9).cut (w6.tape w6.drawn (Question.appendCap 1 0 9)) = cap at hg1 hg2 ⊢
      refine ⟨_, rfl, ((hBl.alloc hBl.size _).alloc (by have := (hBl.alloc hBl.size (.cells #[.string (sB (hexL p.mem))] 9)).size; exact this) _).drew, ?_⟩
      generalize hw7 : w6.alloc (.cells #[.string (sB (hexL p.mem))] 9) = w7
      have hz7 : w7.heap.size = w6.heap.size + 1 := by rw [← hw7]; show (w6.heap.push _).size = _; rw [Array.size_push]
      rw [← hz7]
      refine Rep.sl 1 [rowS (hexL p.mem)] false (some ⟨w7.heap.size, 0, none⟩) cap w7.heap.size 0 (fun _ _ => .string (sB (hexL p.mem))) hg1 hg2 (fun q => by cases q) (fun row hrow => by rw [List.mem_singleton.1 hrow]; rfl) (fun _ => ⟨rfl, .inr ⟨?_, ?_⟩⟩) (fun i row j a q1 q2 => ?_) (fun _ _ => rfl) (fun i row j a q1 q2 => ?_)
      · have := hBl.size; omega
      · show w7.heap.size < (w7.heap.push _).size; rw [Array.size_push]; exact Nat.lt_succ_self _
      · obtain ⟨rfl, rfl, rfl⟩ := one_row q1 q2
        show ((w7.alloc _).cell? _) = _
        rw [cell_of_cells (heap_alloc_new w7 _)]
        rw [Array.getElem?_append_left (Nat.one_pos)]
        rfl
      · obtain ⟨rfl, rfl, rfl⟩ := one_row q1 q2
        exact .v _
end Go.Proofs.YtpefnjbmbfdmmaaDoor
