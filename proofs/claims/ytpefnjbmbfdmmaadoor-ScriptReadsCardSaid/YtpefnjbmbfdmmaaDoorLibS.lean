/- Go's library as the machine wants it: where a byte stands, splitting, decimal numerals. -/
import Derived.Test.YtpefnjbmbfdmmaaDoorLays
import Derived.Test.YtpefnjbmbfdmmaaDoorScrPa
import Derived.Lib.AppendIntMem
import Derived.Lib.SplitLaws
import Derived.Lib.IndexBytes
namespace Go.Proofs.YtpefnjbmbfdmmaaDoor
open Go.RowKit Go.Lib Go.Shelf

/-! ### one byte's place -/
theorem hexIx_eq (c : UInt8) : Lib.indexByte [48, 49, 50, 51, 52, 53, 54, 55, 56, 57, 97, 98, 99, 100, 101, 102] c = hexIx c := by
  have h : ∀ i : _root_.Fin 256, Lib.indexByte [48, 49, 50, 51, 52, 53, 54, 55, 56, 57, 97, 98, 99, 100, 101, 102] (UInt8.ofNat i.val) = hexIx (UInt8.ofNat i.val) := by decide +kernel
  have hc := UInt8.toNat_lt c
  have := h ⟨c.toNat, hc⟩
  rwa [UInt8.ofNat_toNat] at this
theorem hexIx_holds : HexIx := fun c => by
  refine DCall.of_flat (fn := Tryd.f65) (vs := [.string hexS, .int .u8 ((c.toNat : Nat) : Int)]) (v := .int .i64 (hexIx c)) Tryd.func65 rfl (by kernel_rfl) rfl rfl fun w => ?_
  refine (Any.strings_IndexByte lays137 hexS ((c.toNat : Nat) : Int) w).mono fun e w' h => ?_
  rw [Int.toNat_natCast, show c.toNat.toUInt8 = c from UInt8.ofNat_toNat, show Lib.indexByte hexS.data.toList c = hexIx c from hexIx_eq c] at h
  exact ⟨h.1, by rw [h.2]; exact Below.refl _ _⟩
theorem dIndexOne (s : W) (c : UInt8) : DCall C0 64 [vS s, .v (.string ⟨#[c]⟩)] (vI (Lib.indexByte s c)) := by
  refine DCall.of_flat (fn := Tryd.f64) (vs := [.string (sB s), .string ⟨#[c]⟩]) (v := .int .i64 (Lib.indexByte s c)) Tryd.func64 rfl (by kernel_rfl) rfl rfl fun w => ?_
  exact (Any.stringslite_Index_one lays219 (sB s) c w).mono fun e w' h => ⟨h.1, by rw [h.2]; exact Below.refl _ _⟩
theorem cut_none {s : W} {c : UInt8} (h : Lib.indexByte s c = -1) : cutL c s = (s, [], false) := by
  refine cut_miss fun q => ?_
  obtain ⟨i, hi, e⟩ := List.mem_iff_getElem.1 q
  exact indexByte_none h i (by rw [List.getElem?_eq_getElem hi, e])
theorem cut_some {s : W} {c : UInt8} {i : Nat} (h : Lib.indexByte s c = i) : i < s.length ∧ cutL c s = (s.take i, s.drop (i + 1), true) := by
  obtain ⟨h1, h2⟩ := indexByte_some h
  have hi := (List.getElem?_eq_some_iff.1 h1).1
  refine ⟨hi, cut_hit (x := c) (fun q => ?_) (by rw [List.getD_eq_getElem?_getD, h1]; rfl) hi⟩
  obtain ⟨k, hk, e⟩ := List.mem_iff_getElem.1 q
  rw [List.length_take] at hk
  refine h2 k (by omega) ?_
  rw [List.getElem_take] at e
  rw [List.getElem?_eq_getElem (by omega), e]
/-! ### rows of strings -/
theorem DCall.of_strs {C : Ctx} {f : FuncId} {fn : Func} {args : List AV} {vs : List Value} {l : List ByteArray} {T : TypeId} (hf : C.P.funcs[f]? = some fn) (hb : fn.body.isSome = true) (hnm : (fn.name == "runtime.NumGoroutine") = false)
    (ha : valL args = some vs) (hm : l.length ≤ maxLen) (hc : ∀ w, Calls C.P f vs.toArray w fun e w' => e = .returned (.slice (some ⟨w.heap.size, 0, none⟩) l.length l.length) ∧ w' = w.alloc (.cells (l.map Value.string).toArray T)) : DCall C f args (.sl 1 (l.map fun x => [.v (.string x)]) false) :=
  ⟨⟨fn, hf, hb, hnm⟩, fun S w us hS hG hu => by
    rw [valL_eq ha hu]
    refine (hc w).mono fun e w' ⟨he, hw⟩ => ?_
    subst hw
    refine ⟨_, he, (Below.refl _ _).alloc (Nat.le_refl _) _, ?_⟩
    have hl : (l.map fun x => [AV.v (.string x)]).length = l.length := List.length_map ..
    have hr := Rep.sl (S := fun b => S b ∨ (w.heap.size ≤ b ∧ b < (w.alloc (.cells (l.map Value.string).toArray T)).heap.size)) (w := w.alloc (.cells (l.map Value.string).toArray T)) (β := noB) 1 (l.map fun x => [AV.v (.string x)]) false (some ⟨w.heap.size, 0, none⟩) l.length w.heap.size 0
      (fun i _ => .string (l.getD i ByteArray.empty)) (by rw [hl]; exact Nat.le_refl _) hm (fun h => by cases h) (fun row hrow => by obtain ⟨x, _, rfl⟩ := List.mem_map.1 hrow; rfl)
      (fun _ => ⟨rfl, .inr ⟨Nat.le_refl _, by show w.heap.size < (w.heap.push _).size; rw [Array.size_push]; exact Nat.lt_succ_self _⟩⟩)
      (fun i row j a h1 h2 => by
        rw [List.getElem?_map] at h1
        obtain ⟨x, hx, rfl⟩ := Option.map_eq_some_iff.1 h1
        have hj : j = 0 := by
          cases j with
          | zero => rfl
          | succ j => simp at h2
        subst hj
        rw [show l.getD i ByteArray.empty = x by rw [List.getD_eq_getElem?_getD, hx]; rfl]
        rw [cell_of_cells (heap_alloc_new w _)]
        simp [hx])
      (fun _ _ => rfl)
      (fun i row j a h1 h2 => by
        rw [List.getElem?_map] at h1
        obtain ⟨x, hx, rfl⟩ := Option.map_eq_some_iff.1 h1
        have hj : j = 0 := by
          cases j with
          | zero => rfl
          | succ j => simp at h2
        subst hj
        have ea : AV.v (.string x) = a := Option.some.inj h2
        rw [show l.getD i ByteArray.empty = x by rw [List.getD_eq_getElem?_getD, hx]; rfl, ← ea]
        exact .v _)
    rw [hl] at hr
    exact hr⟩
theorem strs_eq {l : List ByteArray} {m : List W} (h : l.map (·.data.toList) = m) : (l.map fun x => [AV.v (.string x)]) = m.map rowS := by
  rw [← h, List.map_map]; rfl
/-- The pieces of a text at all such bytes: each with its byte, if it is so. -/
def pieceL (c : UInt8) (save : Nat) : Nat → W → List W
  | 0, s => [s]
  | k + 1, s => if (cutL c s).2.2 = true then s.take ((cutL c s).1.length + save) :: pieceL c save k (cutL c s).2.1 else [s]
theorem splitK_piece (c : UInt8) (save : Nat) : ∀ (k : Nat) (s : W), splitK [c] save k s = pieceL c save k s
  | 0, s => rfl
  | k + 1, s => by
    unfold splitK pieceL
    rw [index_one]
    have hge := indexByte_ge s c
    by_cases h : Lib.indexByte s c = -1
    · rw [if_pos (beq_iff_eq.2 h), cut_none h]; rfl
    · rw [if_neg (fun q => h (beq_iff_eq.1 q))]
      obtain ⟨i, hi⟩ : ∃ i : Nat, Lib.indexByte s c = i := ⟨(Lib.indexByte s c).toNat, by omega⟩
      obtain ⟨hl, e⟩ := cut_some hi
      rw [e, hi, Int.toNat_natCast]
      show _ = (if true = true then s.take ((s.take i).length + save) :: pieceL c save k (s.drop (i + 1)) else [s])
      rw [if_pos rfl, List.length_take, Nat.min_eq_left (Nat.le_of_lt hl), splitK_piece c save k]; rfl
theorem count_cut {c : UInt8} : ∀ {s : W}, (cutL c s).2.2 = true → s.count c = (cutL c s).2.1.count c + 1
  | [], h => by cases h
  | x :: s, h => by
    unfold cutL at h ⊢
    split
    · rename_i e; rw [e, List.count_cons_self]
    · rename_i e
      rw [if_neg e] at h
      rw [List.count_cons_of_ne e, count_cut h]
theorem count_miss {c : UInt8} : ∀ {s : W}, (cutL c s).2.2 = false → s.count c = 0
  | [], _ => rfl
  | x :: s, h => by
    unfold cutL at h
    split at h
    · cases h
    · rename_i e; rw [List.count_cons_of_ne e, count_miss h]
theorem cut_fst {c : UInt8} : ∀ {s : W}, (cutL c s).2.2 = false → (cutL c s).1 = s
  | [], _ => rfl
  | x :: s, h => by
    unfold cutL at h ⊢
    split
    · rename_i e; rw [if_pos e] at h; cases h
    · rename_i e; rw [if_neg e] at h; show x :: (cutL c s).1 = x :: s; rw [cut_fst h]
theorem piece_split (c : UInt8) : ∀ (k : Nat) (s : W), s.count c = k → pieceL c 0 k s = splitL c s
  | 0, s, h => by
    have h2 : (cutL c s).2.2 = false := by
      cases q : (cutL c s).2.2 with
      | false => rfl
      | true => have := count_cut q; omega
    rw [split_no h2, cut_fst h2]; rfl
  | k + 1, s, h => by
    have h2 : (cutL c s).2.2 = true := by
      cases q : (cutL c s).2.2 with
      | true => rfl
      | false => have := count_miss q; omega
    have hc := count_cut h2
    unfold pieceL
    rw [if_pos h2, split_yes h2, Nat.add_zero, piece_split c k _ (by omega)]
    congr 1
    have gen : ∀ (a b s : W), s = a ++ c :: b → s.take a.length = a := fun a b s h => by rw [h, List.take_left' rfl]
    exact gen _ _ _ (cut_of h2)
theorem countB_one (s : W) (c : UInt8) : Lib.countB (sB s) ⟨#[c]⟩ = s.count c := Lib.count_one c s
theorem dGenSplit (s : W) (c : UInt8) (sv : Nat) (hsv : sv ≤ 1) (hs : s.length ≤ 900000) : DCall C0 37 [vS s, .v (.string ⟨#[c]⟩), .v (.int .i64 ((sv : Nat) : Int)), .v (.int .i64 (-1))] (.sl 1 ((pieceL c sv (s.count c) s).map rowS) false) := by
  have hle : s.count c ≤ s.length := List.count_le_length
  have hlen : (Lib.splitB ⟨#[c]⟩ sv (s.count c) (sB s)).length = s.count c + 1 := Lib.splitB_all ⟨#[c]⟩ (Nat.le_refl 1) sv (s.count c) (sB s) (countB_one s c)
  have hd : (Lib.splitB ⟨#[c]⟩ sv (s.count c) (sB s)).map (·.data.toList) = pieceL c sv (s.count c) s := by
    rw [Lib.splitB_data]; exact splitK_piece c sv _ s
  rw [← strs_eq hd]
  refine DCall.of_strs (fn := Tryd.f37) (vs := [.string (sB s), .string ⟨#[c]⟩, .int .i64 ((sv : Nat) : Int), .int .i64 (-1)]) (T := 9) Tryd.func37 rfl (by kernel_rfl) rfl (by rw [hlen]; unfold maxLen; omega) fun w => ?_
  have h := Any.strings_genSplit_core lays221 (by kernel_rfl) (sB s) ⟨#[c]⟩ sv (-1) (s.count c + 1) w (show s.length < 4294967281 by omega) (Nat.le_refl 1) hsv
    (fun x cs hx => (Any.strings_Index_one { lays221 with } x c _).mono fun e w' hh => ⟨by rw [hh.1]; show _ = Ending.returned (Value.int .i64 (Lib.index x.data.toList [c])); rw [index_one], hh.2⟩)
    ((Any.strings_Count_one { lays221 with } (sB s) c w).mono fun e w' hh => ⟨by rw [hh.1, countB_one]; rfl, hh.2⟩)
    (by decide) (by decide) (by rw [if_pos (by decide), countB_one]; show ((s.count c + 1 : Nat) : Int) = min ((s.count c : Int) + 1) ((s.length : Int) + 1); omega)
  refine h.mono fun e w' hh => ?_
  rw [Nat.add_sub_cancel] at hh
  rw [hlen]
  refine ⟨by rw [hh.1, hlen], ?_⟩
  rw [hh.2]
  have e2 : Lib.cellsOf (Lib.splitB ⟨#[c]⟩ sv (s.count c) (sB s)) (s.count c + 1) = ((Lib.splitB ⟨#[c]⟩ sv (s.count c) (sB s)).map Value.string).toArray := by rw [← hlen]; exact Lib.cellsOf_full _
  rw [e2]; rfl
/-! ### decimal numerals -/
theorem tab_of_g {S : Nat → Prop} {w : World} (h : GOk C0 S w) : Lib.TabIs C0.P w "internal/strconv.uint64pow10" .u64 Lib.pow10Tab := by
  obtain ⟨h1, cs, e, fr, h2, h3⟩ := h 3 gPow rfl
  unfold Lib.TabIs World.var?
  rw [show C0.P.globalNamed "internal/strconv.uint64pow10" = some 3 by kernel_rfl]
  show (match w.heap[3]? with | some (.cells cs _ _) => some cs | _ => none) = _
  rw [h2]
  show some cs = _
  congr 1
  have h20 : gPow.length = 20 := rfl
  have hx : ∀ j, j < 20 → gPow[j]? = some (.v (.int .u64 (Lib.pow10Tab.getD j 0))) := by
    intro j hj
    rw [Lib.pow10Tab_at j hj]
    have : ∀ i : _root_.Fin 20, powL[i.val]? = some ((10 ^ i.val : Nat) : Int) := by decide
    show (powL.map _)[j]? = _
    rw [List.getElem?_map, this ⟨j, hj⟩]; rfl
  generalize hp : Value.pointer (some (⟨3, 0, none⟩ : Addr)) = p at h1
  cases h1 with
  | dp _ _ _ b o u hrs hb hw h1 hr =>
    simp only [Value.pointer.injEq, Option.some.injEq, Addr.mk.injEq] at hp
    obtain ⟨rfl, ho, -⟩ := hp
    obtain rfl : o = 0 := by omega
    apply Array.ext
    · rw [h3, h20]; simp [Lib.pow10Tab_length]
    · intro j hj hj2
      rw [h3, h20] at hj
      have e1 := hw j _ (hx j hj)
      rw [Nat.zero_add, cell_of_cells h2, Array.getElem?_eq_getElem (by rw [h3, h20]; exact hj)] at e1
      rw [Option.some.inj e1, rep_v (hr j _ (hx j hj))]
      have hj3 : j < Lib.pow10Tab.length := by rw [Lib.pow10Tab_length]; exact hj
      simp [List.getElem?_eq_getElem hj3]
theorem dItoa (n : Int) (h0 : 0 ≤ n) (h1 : n ≤ 600) : DCall C0 54 [vI n] (vS (itoa n)) :=
  ⟨⟨Tryd.f54, Tryd.func54, rfl, by kernel_rfl⟩, fun S w us hS hG hu => by
    rw [valL_eq (vs := [.int .i64 n]) rfl hu]
    refine (Any.strconv_Itoa laysM171 n (by omega) (by omega) w (tab_of_g hG)).mono fun e w' ⟨he, k, os, hw⟩ => ?_
    exact ⟨_, he, by rw [hw]; exact Lib.below_grow _ w (Nat.le_refl _) k os, .v _⟩⟩
end Go.Proofs.YtpefnjbmbfdmmaaDoor
