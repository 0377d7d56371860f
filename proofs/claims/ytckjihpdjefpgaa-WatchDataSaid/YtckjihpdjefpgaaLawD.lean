/- WatchData: plain facts, walk. -/
import Derived.Test.YtckjihpdjefpgaaGl
namespace Go.Proofs.Ytckjihpdjefpgaa
open Go.RowKit

/-! ### lists of which so many are done -/
def mapTo {α : Type} (f : α → α) (l : List α) (k : Nat) : List α := (l.take k).map f ++ l.drop k
theorem mapTo_len {α : Type} {f : α → α} {l : List α} {k : Nat} : (mapTo f l k).length = l.length := by unfold mapTo; simp; omega
theorem mapTo_end {α : Type} {f : α → α} {l : List α} {k : Nat} (h : l.length ≤ k) : mapTo f l k = l.map f := by
  unfold mapTo; rw [List.take_of_length_le h, List.drop_of_length_le h, List.append_nil]
theorem mapTo_at {α : Type} {f : α → α} {l : List α} {k : Nat} : (mapTo f l k)[k]? = l[k]? := by
  unfold mapTo
  rcases Nat.lt_or_ge k l.length with h | h
  · have hl : ((l.take k).map f).length = k := by rw [List.length_map, List.length_take]; omega
    rw [List.getElem?_append_right (by omega), hl, Nat.sub_self, List.getElem?_drop, Nat.add_zero]
  · rw [List.drop_of_length_le h, List.append_nil, List.getElem?_eq_none (by simp; omega), List.getElem?_eq_none h]
theorem mapTo_set {α : Type} {f : α → α} {l : List α} {k : Nat} {x : α} (h : (mapTo f l k)[k]? = some x) : (mapTo f l k).set k (f x) = mapTo f l (k + 1) := by
  rw [mapTo_at] at h
  obtain ⟨hk, rfl⟩ := List.getElem?_eq_some_iff.1 h
  have hl : ((l.take k).map f).length = k := by rw [List.length_map, List.length_take]; omega
  unfold mapTo
  rw [List.drop_eq_getElem_cons hk, List.set_append_right _ _ (by omega), hl, Nat.sub_self, List.set_cons_zero, List.take_add_one, List.getElem?_eq_getElem hk, List.map_append, List.append_assoc]
  rfl
theorem mapTo_keep {α : Type} {f : α → α} {l : List α} {k : Nat} {x : α} (h : (mapTo f l k)[k]? = some x) (he : f x = x) : mapTo f l k = mapTo f l (k + 1) := by
  rw [← mapTo_set h, he]
  obtain ⟨hk, rfl⟩ := List.getElem?_eq_some_iff.1 h
  exact (List.set_getElem_self hk).symm
theorem mapTo_ok {α : Type} {P : α → Prop} {f : α → α} {l : List α} (hf : ∀ x, P x → P (f x)) (h : ∀ x ∈ l, P x) (k : Nat) : ∀ x ∈ mapTo f l k, P x := by
  intro x hx
  rcases List.mem_append.1 hx with hx | hx
  · obtain ⟨y, hy, rfl⟩ := List.mem_map.1 hx; exact hf y (h y (List.mem_of_mem_take hy))
  · exact h x (List.mem_of_mem_drop hx)

/-! ### other bytes -/
theorem bv8 {x : Nat} (h : x ≤ 255) : (BitVec.ofInt 8 (x : Int)).toNat = x := by rw [BitVec.toNat_ofInt]; omega
theorem xor8 {x y : Nat} (hx : x ≤ 255) (hy : y ≤ 255) : x ^^^ y ≤ 255 := Nat.le_of_lt_succ (Nat.xor_lt_two_pow (n := 8) (Nat.lt_succ_of_le hx) (Nat.lt_succ_of_le hy))
theorem xorI8 {x y : Nat} (hx : x ≤ 255) (hy : y ≤ 255) : IntKind.wrap .u8 (BitVec.ofInt (IntKind.bits .u8) (x : Int) ^^^ BitVec.ofInt (IntKind.bits .u8) (y : Int)).toNat = ((x ^^^ y : Nat) : Int) := by
  show IntKind.wrap .u8 (BitVec.ofInt 8 (x : Int) ^^^ BitVec.ofInt 8 (y : Int)).toNat = _
  rw [BitVec.toNat_xor, bv8 hx, bv8 hy]
  exact modI (e := x ^^^ y) (B := 255) (M := 256) (xor8 hx hy) rfl
abbrev rowB8 (n : Nat) : List AV := [.v (.int .u8 (n : Int))]
def memZ (m : ByteArray) : List Nat := m.data.toList.map fun b => b.toNat
theorem memZ_len (m : ByteArray) : (memZ m).length = m.size := by unfold memZ; rw [List.length_map]; rfl
theorem memZ_ok (m : ByteArray) : ∀ x ∈ memZ m, x ≤ 255 := fun x hx => by
  obtain ⟨b, -, rfl⟩ := List.mem_map.1 hx
  exact Nat.le_of_lt_succ b.toNat_lt
theorem memZ_rows (m : ByteArray) : rowsOfBytes m = (memZ m).map rowB8 := by unfold rowsOfBytes memZ; rw [List.map_map]; rfl
theorem bytes_rows : ∀ (l : List Nat), bytesOfRows (l.map rowB8) = some (l.map UInt8.ofNat)
  | [] => rfl
  | n :: l => by
    show (match bytesOfRows (l.map rowB8) with | some l => some (UInt8.ofNat ((n : Int)).toNat :: l) | none => none) = _
    rw [bytes_rows l]; rfl
theorem u8le (b : UInt8) : b.toNat ≤ 255 := Nat.le_of_lt_succ b.toNat_lt
/-- A way's data with another first byte. -/
def wdat (w : Nat) (d : ByteArray) : ByteArray := if d.size = 16 then ⟨[UInt8.ofNat ((d.data.toList.getD 0 0).toNat ^^^ w)].toArray⟩ ++ d.extract 1 d.size else d
theorem wdat_size (w : Nat) (d : ByteArray) : (wdat w d).size = d.size := by
  unfold wdat; split
  · rename_i h
    rw [ByteArray.size_append, ByteArray.size_extract, h]
    rfl
  · rfl
def wD (w : Nat) (x : Wy) : Wy := { x with data := wdat w x.data }
theorem wD_yes {w : Nat} {x : Wy} (h : x.data.size = 16) : wD w x = ⟨x.line, x.dirty, ⟨[UInt8.ofNat ((x.data.data.toList.getD 0 0).toNat ^^^ w)].toArray⟩ ++ x.data.extract 1 x.data.size⟩ := by unfold wD wdat; rw [if_pos h]
theorem wD_no {w : Nat} {x : Wy} (h : ¬ x.data.size = 16) : wD w x = x := by unfold wD wdat; rw [if_neg h]
def wS (w : Nat) (s : List Wy) : List Wy := s.map (wD w)
theorem wD_ok {w : Nat} {x : Wy} (h : x.ok) : (wD w x).ok := ⟨h.line⟩
theorem place_map (w line : Nat) : ∀ s : List Wy, placeW (s.map (wD w)) line = placeW s line
  | [] => rfl
  | x :: s => by simp only [List.map_cons, placeW, place_map w line s]; rfl
def otherCa (w : Nat) (c : Ca) : Ca := ⟨c.ways, c.sets.map (wS w)⟩
theorem rightSet_other (w : Nat) (c : Ca) (k : Nat) (s : List Wy) : rightSet (otherCa w c) k (wS w s) = rightSet c k s := by
  rw [Bool.eq_iff_iff, rightSet_iff, rightSet_iff]
  have hso : ∀ line, setOf (otherCa w c) line = setOf c line := fun line => by unfold setOf otherCa; rw [List.length_map]
  have hw : ∀ i x, wayOk (otherCa w c) k (wS w s) i (wD w x) ↔ wayOk c k s i x := fun i x => by
    unfold wayOk wS
    rw [hso, ← List.map_take, place_map, show (wD w x).data.size = x.data.size from wdat_size w x.data]
    rfl
  unfold wS
  rw [List.length_map]
  refine and_congr_right fun _ => ⟨fun h i x hx => ?_, fun h i x hx => ?_⟩
  · exact (hw i x).1 (h i (wD w x) (by rw [List.getElem?_map, hx]; rfl))
  · rw [List.getElem?_map] at hx
    cases hq : s[i]? with
    | none => rw [hq] at hx; cases hx
    | some y => rw [hq] at hx; cases hx; exact (hw i y).2 (h i y hq)
theorem right_other (w : Nat) (c : Ca) : rightCa (otherCa w c) = rightCa c := by
  rw [Bool.eq_iff_iff, rightCa_iff, rightCa_iff]
  unfold otherCa
  simp only [List.length_map]
  refine and_congr_right fun _ => ⟨fun h k s hs => ?_, fun h k s hs => ?_⟩
  · have := h k (wS w s) (by rw [List.getElem?_map, hs]; rfl)
    exact (rightSet_other w c k s).symm.trans this
  · rw [List.getElem?_map] at hs
    cases hq : c.sets[k]? with
    | none => rw [hq] at hs; cases hs
    | some y => rw [hq] at hs; cases hs; exact (rightSet_other w c k y).trans (h k y hq)
theorem tags_other (w : Nat) (c : Ca) : tagsCa (otherCa w c) = tagsCa c := by
  unfold tagsCa
  rw [right_other]
  split
  · show ((c.sets.map (wS w)).map fun s => s.map fun w => { w with data := noB0 }) = _
    rw [List.map_map]
    refine List.map_congr_left fun s _ => ?_
    show (s.map (wD w)).map _ = _
    rw [List.map_map]; rfl
  · rfl
/-- A core with other bytes. -/
def otherCo (w : Nat) (c : Co) : Co := { c with mem := ⟨((memZ c.mem).map fun x => UInt8.ofNat (x ^^^ w)).toArray⟩, r := fun k => if k = 1 then c.r 1 ^^^ w else c.r k, data := otherCa w c.data }
theorem see_other (w : Nat) (c : Co) (b : Int) : seeP (otherCo w c) b = seeP c b := by
  unfold seeP
  show Seen.mk (tagsCa (otherCa w c.data)) _ _ _ = _
  rw [tags_other]; rfl
theorem otherCa_ok {w : Nat} {c : Ca} (h : c.ok) : (otherCa w c).ok := ⟨by show (c.sets.map _).length ≤ _; rw [List.length_map]; exact h.sets, fun s hs => by
  obtain ⟨t, ht, rfl⟩ := List.mem_map.1 hs
  refine ⟨by show (t.map _).length ≤ _; rw [List.length_map]; exact (h.set t ht).1, fun x hx => ?_⟩
  obtain ⟨y, hy, rfl⟩ := List.mem_map.1 hx
  exact wD_ok ((h.set t ht).2 y hy)⟩


theorem closed_setA (l : List (List Wy)) : closedL (l.map setA) = true := closedL_all fun x hx => by
  obtain ⟨s, _, rfl⟩ := List.mem_map.1 hx; rfl
theorem toRowS (fz : Fz) (l : List (List Wy)) : LeB fz (.arr (l.map rowSet) 1) (.row (l.map setA)) := by
  have := LeB.toRow (fz := fz) (l.map setA)
  rwa [List.map_map] at this
theorem toArrS (fz : Fz) (l : List (List Wy)) : LeB fz (.row (l.map setA)) (.arr (l.map rowSet) 1) := by
  have := LeB.toArr (fz := fz) (l.map setA) (fun x hx => by obtain ⟨s, _, rfl⟩ := List.mem_map.1 hx; rfl)
  rwa [List.map_map] at this
theorem row0 {cells : List AV} {k b : Nat} {x : AV} {h : AH} : some (upd h b (some (Blk.row (cells.set (0 + k) x)))) = some (upd h b (some (.row (cells.set k x)))) := by rw [Nat.zero_add]
theorem row_next {w k : Nat} {L : List (List Wy)} {s : List Wy} (hs : L[k]? = some s) : ((mapTo (wS w) L k).map setA).set k (setA (wS w s)) = (mapTo (wS w) L (k + 1)).map setA := by
  rw [← mapTo_set (x := s) (mapTo_at.trans hs), List.map_set]
theorem row_at {w k : Nat} {L : List (List Wy)} {s : List Wy} (hs : L[k]? = some s) : ((mapTo (wS w) L k).map setA)[k]? = some (setA s) := by rw [List.getElem?_map, mapTo_at, hs]; rfl
theorem row_len {w k : Nat} {L : List (List Wy)} : ((mapTo (wS w) L k).map setA).length = L.length := by rw [List.length_map, mapTo_len]
theorem row_cur {w k : Nat} {L : List (List Wy)} {s : List Wy} {x : AV} (hs : L[k]? = some s) : (((mapTo (wS w) L k).map setA).set k x)[k]? = some x :=
  List.getElem?_set_self (by rw [row_len]; exact (List.getElem?_eq_some_iff.1 hs).1)
theorem frz_set {w i b m : Nat} {s : List Wy} (hm : s.length = m) (hi : m ≤ i) : LeZ (some (b, 3, (mapTo (wD w) s i).map wyL)) (.osl b 0 m false) (setA (wS w s)) := by
  have e : mapTo (wD w) s i = wS w s := mapTo_end (by omega)
  have hl : ((mapTo (wD w) s i).map wyL).length = m := by rw [List.length_map, mapTo_len]; exact hm
  have := LeZ.frz (fz := some (b, 3, (mapTo (wD w) s i).map wyL)) b 3 0 m ((mapTo (wD w) s i).map wyL) false false rfl (by omega) (fun h => h)
  rw [List.drop_zero, List.take_of_length_le (by omega)] at this
  rw [e] at this ⊢
  exact this
theorem frz_row {b m : Nat} {l : List (List Wy)} (h : l.length = m) : LeZ (some (b, 1, l.map rowSet)) (.osl b 0 m false) (.sl 1 (l.map rowSet) false) := by
  have hl : (l.map rowSet).length = m := by rw [List.length_map]; exact h
  have := LeZ.frz (fz := some (b, 1, l.map rowSet)) b 1 0 m (l.map rowSet) false false rfl (by omega) (fun h => h)
  rwa [List.drop_zero, List.take_of_length_le (by omega)] at this
/-- The core with other sets of lines. -/
abbrev withS (c : Co) (L : List (List Wy)) : Co := { c with data := ⟨c.data.ways, L⟩ }

/-- The cells of a core with other bytes, sets, and another register. -/
abbrev coD (c : Co) (m r S : AV) : List AV := [vI c.conf.mode, vI c.conf.width, vI c.conf.rob, vI c.conf.queue, vI c.conf.stores, vI c.conf.slots, vI c.conf.sets, vI c.conf.ways, .sl 1 (c.conf.lat.map rowI) false, vB c.conf.tables, .sl 1 (c.conf.tape.map rowU) false, .sl 1 (c.prog.map rowU) false, vI c.cycle, vU (c.r 0), r, vU (c.r 2), vU (c.r 3), vU (c.r 4), vU (c.r 5), vU (c.r 6), vU (c.r 7), vU (c.r 8), vU (c.r 9), vU (c.r 10), vU (c.r 11), vU (c.r 12), vU (c.r 13), vU (c.r 14), vU (c.r 15), vU (c.r 16), vU (c.r 17), vU (c.r 18), vU (c.r 19), vU (c.r 20), vU (c.r 21), vU (c.r 22), vU (c.r 23), vU (c.r 24), vU (c.r 25), vU (c.r 26), vU (c.r 27), vU (c.r 28), vU (c.r 29), vU (c.r 30), vU (c.r 31), vU c.fetch, vB c.stop, .sl 2 (c.fetched.map ftL) false, .sl 17 (c.rob.map enL) false, vI c.next, .sl 2 (c.stores.map ptL) false, vI c.data.ways, S, vI c.words.ways, .sl 1 (c.words.sets.map rowSet) false, .sl 4 (c.bus.map rqL) false, vI c.asked, vI c.guessed, m, .sl 2 (c.guess.slots.map gsL) false, vU c.guess.hist, .sl 1 (c.guess.rets.map rowU) false, vI c.halt, .sl 9 (c.retired.map spL) false]
set_option maxRecDepth 100000 in
set_option maxHeartbeats 4000000 in
theorem dData1 (c : Co) (w : Nat) (s0 : List Wy) (tl : List (List Wy)) (hw : w ≤ 255) (hret : c.retired.length ≤ 9223372036854775807) (hbus : c.bus.length ≤ 9223372036854775807) (hr1 : c.r 1 ≤ 4294967295) (hLn : (s0 :: tl).length ≤ 5864062014805) (hLo : ∀ s ∈ (s0 :: tl), s.length ≤ 5864062014805 ∧ ∀ x ∈ s, x.ok) (hk0 : c.bus.length ≤ 50 → c.retired.length ≤ 200 → DCall C0 23 [.agg (coL (withS c (s0 :: tl))), .v (.int .i64 0)] (.agg (seL (seeP (withS c (s0 :: tl)) 0))) ∧ DCall C0 23 [.agg (coL (otherCo w (withS c (s0 :: tl)))), .v (.int .i64 0)] (.agg (seL (seeP (otherCo w (withS c (s0 :: tl))) 0))) ∧ (seeP (withS c (s0 :: tl)) 0).ok) : DCall C0 8 [.agg (coL (withS c (s0 :: tl))), .v (.int .u8 ((w : Nat) : Int))] (vB true) := by
  refine dc1 (DCall.intro c1Ok Try.func8 rfl rfl (by kernel_rfl) rfl ?_)
  refine cSeq ?_
  refine cReg rfl ?_
  refine rFx (d := 2) (x := .ptr 0 0) (h' := upd _ 0 (some (.box (coD c (.v (.string c.mem)) (vU (c.r 1)) (.sl 1 ((s0 :: tl).map rowSet) false))))) rfl rfl (rfl) (trivial) ?_
  refine rOk (d := 4) (x := vB false) rfl rfl rfl ?_
  refine rEnd (n' := 2) rfl ?_
  refine cSeq ?_
  refine cSeq ?_
  refine cReg rfl ?_
  refine rOk (d := 12) (x := .ptr 0 63) rfl rfl rfl ?_
  refine rOk (d := 13) (x := .sl 9 (c.retired.map spL) false) rfl rfl rfl ?_
  refine rOk (d := 14) (x := vN c.retired.length) rfl rfl (lenMap spL c.retired) ?_
  refine rOk (d := 15) (x := vB (decide (c.retired.length > 200))) rfl rfl (okB (gtN _ _)) ?_
  refine rOk (d := 16) (x := vB (decide (c.retired.length > 200))) rfl rfl rfl ?_
  refine gOk (d := 17) (x := .ptr 0 55) (g := !(decide (c.retired.length > 200))) rfl rfl rfl rfl rfl rfl ?_
  refine gOkS (d := 18) (x := .sl 4 (c.bus.map rqL) false) (g := !(decide (c.retired.length > 200))) rfl rfl rfl rfl (fun h => h) rfl rfl ?_
  refine gOkS (d := 19) (x := vN c.bus.length) (g := !(decide (c.retired.length > 200))) rfl rfl rfl rfl (fun h => h) rfl (lenMap rqL c.bus) ?_
  refine gOkS (d := 20) (x := vB (decide (c.bus.length > 50))) (g := !(decide (c.retired.length > 200))) rfl rfl rfl rfl (fun h => h) rfl (okB (gtN _ _)) ?_
  refine rNeed (d := 21) (x := vB (cond2 (decide (c.retired.length > 200)) true (decide (c.bus.length > 50)))) rfl rfl rfl (by simp) ?_
  refine rOk (d := 22) (x := vB (cond2 (decide (c.retired.length > 200)) true (decide (c.bus.length > 50)))) rfl rfl rfl ?_
  refine gOk (d := 23) (x := .ptr 0 58) (g := !(cond2 (decide (c.retired.length > 200)) true (decide (c.bus.length > 50)))) rfl rfl rfl rfl rfl rfl ?_
  refine gOkS (d := 24) (x := .v (.string c.mem)) (g := !(cond2 (decide (c.retired.length > 200)) true (decide (c.bus.length > 50)))) rfl rfl rfl rfl (fun h => h) rfl rfl ?_
  refine gOkS (d := 25) (x := vN c.mem.size) (g := !(cond2 (decide (c.retired.length > 200)) true (decide (c.bus.length > 50)))) rfl rfl rfl rfl (fun h => h) rfl rfl ?_
  refine gOkS (d := 26) (x := vB (decide (c.mem.size > 600))) (g := !(cond2 (decide (c.retired.length > 200)) true (decide (c.bus.length > 50)))) rfl rfl rfl rfl (fun h => h) rfl (okB (gtN _ _)) ?_
  refine rNeed (d := 27) (x := vB (cond2 (cond2 (decide (c.retired.length > 200)) true (decide (c.bus.length > 50))) true (decide (c.mem.size > 600)))) rfl rfl rfl (by simp) ?_
  refine rEnd (n' := 18) rfl ?_
  refine cCond (v := cond2 (cond2 (decide (c.retired.length > 200)) true (decide (c.bus.length > 50))) true (decide (c.mem.size > 600))) rfl (fun h1 => ?_) (fun h1 => ?_)
  · skip
    refine cSeq ?_
    refine cReg rfl ?_
    refine rCall (args := []) (d := 28) (x := vB true) rfl rfl rfl rfl (.inl rfl) rfl (dAlive) ?_
    refine rOk (d := 4) (x := vB true) rfl rfl rfl ?_
    refine rEnd (n' := 20) rfl ?_
    refine cRet ?_
    exact finTA rfl trivial rfl rfl
  · skip
    have hg : c.retired.length ≤ 200 ∧ c.bus.length ≤ 50 ∧ c.mem.size ≤ 600 := by have z := h1; simp only [cOr, Bool.or_eq_false_iff, decide_eq_false_iff_not] at z; omega
    have hK := hk0 hg.2.1 hg.1
    refine cSkip ?_
    refine cSeq ?_
    refine cReg rfl ?_
    refine rOk (d := 29) (x := .agg (coD c (.v (.string c.mem)) (vU (c.r 1)) (.sl 1 ((s0 :: tl).map rowSet) false))) rfl rfl rfl ?_
    refine rFx (d := 5) (x := .ptr 19 0) (h' := upd _ 19 (some (.box [vI 0, vI 0, vI 0, vI 0, vI 0, vI 0, vI 0, vI 0, .sl 0 ([]) true, vB false, .sl 0 ([]) true, .sl 0 ([]) true, vI 0, .v (.int .u32 0), .v (.int .u32 0), .v (.int .u32 0), .v (.int .u32 0), .v (.int .u32 0), .v (.int .u32 0), .v (.int .u32 0), .v (.int .u32 0), .v (.int .u32 0), .v (.int .u32 0), .v (.int .u32 0), .v (.int .u32 0), .v (.int .u32 0), .v (.int .u32 0), .v (.int .u32 0), .v (.int .u32 0), .v (.int .u32 0), .v (.int .u32 0), .v (.int .u32 0), .v (.int .u32 0), .v (.int .u32 0), .v (.int .u32 0), .v (.int .u32 0), .v (.int .u32 0), .v (.int .u32 0), .v (.int .u32 0), .v (.int .u32 0), .v (.int .u32 0), .v (.int .u32 0), .v (.int .u32 0), .v (.int .u32 0), .v (.int .u32 0), .v (.int .u32 0), vB false, .sl 0 ([]) true, .sl 0 ([]) true, vI 0, .sl 0 ([]) true, vI 0, .sl 0 ([]) true, vI 0, .sl 0 ([]) true, .sl 0 ([]) true, vI 0, vI 0, .v (.string (⟨#[]⟩ : ByteArray)), .sl 0 ([]) true, .v (.int .u32 0), .sl 0 ([]) true, vI 0, .sl 0 ([]) true]))) rfl rfl (rfl) (trivial) ?_
    refine rFx0 (h' := upd _ 19 (some (.box (coD c (.v (.string c.mem)) (vU (c.r 1)) (.sl 1 ((s0 :: tl).map rowSet) false))))) rfl rfl (rfl) (trivial) ?_
    refine rEnd (n' := 21) rfl ?_
    refine cSeq ?_
    refine cReg rfl ?_
    refine rOk (d := 30) (x := .ptr 0 58) rfl rfl rfl ?_
    refine rOk (d := 31) (x := .v (.string c.mem)) rfl rfl rfl ?_
    refine rFx (d := 32) (x := .osl 23 0 c.mem.size false) (h' := upd _ 23 (some (.arr ((memZ c.mem).map rowB8) 1))) rfl rfl (mk_eq (memZ_rows c.mem)) (by show c.mem.size ≤ 2000000; omega) ?_
    refine rOk (d := 6) (x := .osl 23 0 c.mem.size false) rfl rfl rfl ?_
    refine rEnd (n' := 25) rfl ?_
    refine cSeq ?_
    refine cSeq ?_
    refine cReg rfl ?_
    refine rOk (d := 33) (x := .osl 23 0 c.mem.size false) rfl rfl rfl ?_
    refine rOk (d := 34) (x := vN c.mem.size) rfl rfl rfl ?_
    refine rOk (d := 35) (x := vI 0) rfl rfl rfl ?_
    refine rEnd (n' := 28) rfl ?_
    refine cBlock ?_
    refine cLoop (κ := Nat) (fun k => ⟨slotsF [(1, .v (.int .u8 ((w : Nat) : Int))), (2, .ptr 0 0), (4, vB false), (27, vB (cond2 (cond2 (decide (c.retired.length > 200)) true (decide (c.bus.length > 50))) true (decide (c.mem.size > 600)))), (5, .ptr 19 0), (6, .osl 23 0 c.mem.size false), (34, vN c.mem.size), (35, vN k)], heapF [(0, .box (coD c (.v (.string c.mem)) (vU (c.r 1)) (.sl 1 ((s0 :: tl).map rowSet) false))), (19, .box (coD c (.v (.string c.mem)) (vU (c.r 1)) (.sl 1 ((s0 :: tl).map rowSet) false))), (23, .arr ((mapTo (fun x => x ^^^ w) (memZ c.mem) k).map rowB8) 1)], 28⟩) (fun k => k ≤ c.mem.size) (fun k => c.mem.size - k) 0 (fun s => s) (Weak.of_lists (fun s => s) ⟨⟨rfl, rfl⟩, ⟨rfl, rfl⟩, ⟨rfl, rfl⟩, ⟨rfl, rfl⟩, ⟨rfl, rfl⟩, ⟨rfl, rfl⟩, ⟨rfl, rfl⟩, ⟨rfl, rfl⟩, trivial⟩ ⟨⟨rfl, rfl, rfl⟩, ⟨rfl, rfl, rfl⟩, ⟨rfl, rfl, rfl⟩, trivial⟩ rfl) (Nat.zero_le _) ?_
    intro k hk
    have hkn : k ≤ c.mem.size := hk
    have hkB : k ≤ 5864062014805 := by omega
    have hml : (mapTo (fun x => x ^^^ w) (memZ c.mem) k).length = c.mem.size := mapTo_len.trans (memZ_len _)
    refine cSeq ?_
    refine cReg rfl ?_
    refine rOk (d := 36) (x := vB (decide (k < c.mem.size))) rfl rfl (okB (ltN _ _)) ?_
    refine rEnd (n' := 29) rfl ?_
    refine cSeq ?_
    refine cCond (v := decide (k < c.mem.size)) rfl (fun h2 => ?_) (fun h2 => ?_)
    · skip
      have h2p := of_decide_eq_true h2
      refine cSkip ?_
      refine cSeq ?_
      refine cBlock ?_
      refine cSeq ?_
      refine cReg rfl ?_
      refine rOk (d := 37) (x := vN k) rfl rfl rfl ?_
      refine rOk (d := 7) (x := vN k) rfl rfl rfl ?_
      refine rEnd (n' := 31) rfl ?_
      refine cReg rfl ?_
      refine rOk (d := 38) (x := .osl 23 0 c.mem.size false) rfl rfl rfl ?_
      refine rOk (d := 39) (x := vN k) rfl rfl rfl ?_
      refine rNeed (d := 40) (x := .ptr2 23 (0 + k) 0) rfl rfl rfl (⟨Int.natCast_nonneg _, Int.ofNat_lt.2 (by show k < c.mem.size; first | omega | rfl | (simp only [List.length_map, List.length_cons, List.length_nil, List.length_append, List.length_set, List.length_take, List.length_drop, List.length_replicate, List.length_range, capMax]; done) | (simp only [List.length_map, List.length_cons, List.length_nil, List.length_append, List.length_set, List.length_take, List.length_drop, List.length_replicate, List.length_range, capMax]; omega) | (simp [capMax]; done) | (simp [capMax]; omega))⟩) ?_
      obtain ⟨z1, hz1⟩ : ∃ y_, (mapTo (fun x => x ^^^ w) (memZ c.mem) k)[k]? = some y_ := ⟨_, List.getElem?_eq_getElem (by first | omega | rfl | (simp only [List.length_map, List.length_cons, List.length_nil, List.length_append, List.length_set, List.length_take, List.length_drop, List.length_replicate, List.length_range, capMax]; done) | (simp only [List.length_map, List.length_cons, List.length_nil, List.length_append, List.length_set, List.length_take, List.length_drop, List.length_replicate, List.length_range, capMax]; omega) | (simp [capMax]; done) | (simp [capMax]; omega))⟩
      have hz1o := (mapTo_ok (f := fun x => x ^^^ w) (P := fun x => x ≤ 255) (fun x h => xor8 h hw) (memZ_ok c.mem) k) z1 (List.mem_of_getElem? hz1)
      refine rIdx (rowB8 z1) (d := 41) (x := .v (.int .u8 ((z1 : Nat) : Int))) rfl rfl rfl (⟨Int.natCast_nonneg _, getZ (getM hz1)⟩) rfl ?_
      refine rOk (d := 42) (x := .v (.int .u8 ((w : Nat) : Int))) rfl rfl rfl ?_
      refine rOk (d := 43) (x := .v (.int .u8 ((z1 ^^^ w : Nat) : Int))) rfl rfl (okI (xorI8 hz1o hw)) ?_
      refine rNeed (d := 44) (x := .ptr2 23 (0 + k) 0) rfl rfl rfl (⟨Int.natCast_nonneg _, Int.ofNat_lt.2 (by show k < c.mem.size; first | omega | rfl | (simp only [List.length_map, List.length_cons, List.length_nil, List.length_append, List.length_set, List.length_take, List.length_drop, List.length_replicate, List.length_range, capMax]; done) | (simp only [List.length_map, List.length_cons, List.length_nil, List.length_append, List.length_set, List.length_take, List.length_drop, List.length_replicate, List.length_range, capMax]; omega) | (simp [capMax]; done) | (simp [capMax]; omega))⟩) ?_
      have hx1 : ((mapTo (fun x => x ^^^ w) (memZ c.mem) k).set k (z1 ^^^ w))[k]? = some (z1 ^^^ w) := List.getElem?_set_self (by first | omega | rfl | (simp only [List.length_map, List.length_cons, List.length_nil, List.length_append, List.length_set, List.length_take, List.length_drop, List.length_replicate, List.length_range, capMax]; done) | (simp only [List.length_map, List.length_cons, List.length_nil, List.length_append, List.length_set, List.length_take, List.length_drop, List.length_replicate, List.length_range, capMax]; omega) | (simp [capMax]; done) | (simp [capMax]; omega))
      refine rIdxFx (rowB8 z1) (h' := upd _ 23 (some (.arr (((mapTo (fun x => x ^^^ w) (memZ c.mem) k).set k (z1 ^^^ w)).map rowB8) 1))) rfl rfl rfl (⟨Int.natCast_nonneg _, getZ (getM hz1)⟩) (set_eqZ (f := rowB8) (l := mapTo (fun x => x ^^^ w) (memZ c.mem) k) (k := k) (x := z1 ^^^ w)) ?_
      refine rEnd (n' := 39) rfl ?_
      refine cReg rfl ?_
      have b1 : k + 1 ≤ 5864062014806 := Nat.add_le_add hkB (Nat.le_refl 1)
      refine rOk (d := 45) (x := vN (k + 1)) rfl rfl (okI (wrapI64 b1 rfl)) ?_
      refine rOk (d := 35) (x := vN (k + 1)) rfl rfl rfl ?_
      refine rEnd (n' := 41) rfl ?_
      refine ⟨k + 1, fun s => s, Weak.of_lists (fun s => s) ⟨⟨rfl, rfl⟩, ⟨rfl, rfl⟩, ⟨rfl, rfl⟩, ⟨rfl, rfl⟩, ⟨rfl, rfl⟩, ⟨rfl, rfl⟩, ⟨rfl, rfl⟩, ⟨rfl, rfl⟩, trivial⟩ ⟨⟨rfl, rfl, rfl⟩, ⟨rfl, rfl, rfl⟩, ⟨rfl, (congrArg (fun z : List Nat => some (Blk.arr (z.map rowB8) 1)) (mapTo_set (f := fun x => x ^^^ w) hz1)), rfl⟩, trivial⟩ rfl, by omega, by show c.mem.size - (k + 1) < c.mem.size - k; omega⟩
    · skip
      have h2p := of_decide_eq_false h2
      refine cExit ?_
      refine cSeq ?_
      refine cReg rfl ?_
      refine rOk (d := 46) (x := .osl 23 0 c.mem.size false) rfl rfl rfl ?_
      have hml : (mapTo (fun x => x ^^^ w) (memZ c.mem) k).length = c.mem.size := mapTo_len.trans (memZ_len _)
      refine rStr ((memZ c.mem).map fun x => UInt8.ofNat (x ^^^ w)) (d := 47) rfl rfl rfl (by show 0 + c.mem.size ≤ ((mapTo (fun x => x ^^^ w) (memZ c.mem) k).map rowB8).length; rw [List.length_map]; omega) (by show bytesOfRows (List.take c.mem.size (List.drop 0 ((mapTo (fun x => x ^^^ w) (memZ c.mem) k).map rowB8))) = _; rw [own_all rowB8 _ (by omega), mapTo_end (by rw [memZ_len]; omega), bytes_rows, List.map_map]; rfl) ?_
      refine rOk (d := 48) (x := .ptr 19 58) rfl rfl rfl ?_
      refine rFx0 (h' := upd _ 19 (some (.box (coD c (.v (.string (⟨((memZ c.mem).map fun x => UInt8.ofNat (x ^^^ w)).toArray⟩ : ByteArray))) (vU (c.r 1)) (.sl 1 ((s0 :: tl).map rowSet) false))))) rfl rfl (rfl) (trivial) ?_
      refine rEnd (n' := 33) rfl ?_
      refine cSeq ?_
      refine cReg rfl ?_
      refine rOk (d := 49) (x := .ptr 19 13) rfl rfl rfl ?_
      refine rNeed (d := 50) (x := .ptr 19 14) rfl rfl rfl (⟨by decide, by decide⟩) ?_
      refine rOk (d := 51) (x := vU (c.r 1)) rfl rfl rfl ?_
      refine rOk (d := 52) (x := .v (.int .u8 ((w : Nat) : Int))) rfl rfl rfl ?_
      refine rOk (d := 53) (x := vU w) rfl rfl (okI (modI hw rfl)) ?_
      have b2 : (c.r 1) ^^^ w ≤ 4294967295 := xorLe32 hr1 hw rfl rfl
      refine rOk (d := 54) (x := vU ((c.r 1) ^^^ w)) rfl rfl (okI (xorI32 hr1 hw rfl rfl)) ?_
      refine rOk (d := 55) (x := .ptr 19 13) rfl rfl rfl ?_
      refine rNeed (d := 56) (x := .ptr 19 14) rfl rfl rfl (⟨by decide, by decide⟩) ?_
      refine rFx0 (h' := upd _ 19 (some (.box (coD c (.v (.string (⟨((memZ c.mem).map fun x => UInt8.ofNat (x ^^^ w)).toArray⟩ : ByteArray))) (vU ((c.r 1) ^^^ w)) (.sl 1 ((s0 :: tl).map rowSet) false))))) rfl rfl (rfl) (trivial) ?_
      refine rEnd (n' := 42) rfl ?_
      refine cSeqG ?_
      refine cReg rfl ?_
      refine rOk (d := 57) (x := .sl 1 ([]) true) rfl rfl rfl ?_
      refine rOk (d := 58) (x := .ptr 0 51) rfl rfl rfl ?_
      refine rOk (d := 59) (x := .ptr 0 52) rfl rfl rfl ?_
      refine rOk (d := 60) (x := .sl 1 ((s0 :: tl).map rowSet) false) rfl rfl rfl ?_
      refine rFx (d := 61) (x := .osl 46 0 ((s0 :: tl).length) false) (h' := upd _ 46 (some (.arr ((([] : List (List Wy)) ++ (s0 :: tl)).map rowSet) 1))) rfl rfl (app_sl rowSet ([] : List (List Wy)) (s0 :: tl) (by simp)) (⟨by refine .inr ?_; show 0 + ((s0 :: tl).map rowSet).length ≤ 140737488355328 ∧ (0 + ((s0 :: tl).map rowSet).length) * 24 ≤ 140737488355328; rw [List.length_map]; omega, by simp, trivial, trivial⟩) ?_
      refine rOk (d := 62) (x := .ptr 19 51) rfl rfl rfl ?_
      refine rOk (d := 63) (x := .ptr 19 52) rfl rfl rfl ?_
      refine rFx0 (h' := upd _ 19 (some (.box (coD c (.v (.string (⟨((memZ c.mem).map fun x => UInt8.ofNat (x ^^^ w)).toArray⟩ : ByteArray))) (vU ((c.r 1) ^^^ w)) (.osl 46 0 ((s0 :: tl).length) false))))) rfl rfl (rfl) (trivial) ?_
      refine rEnd (n' := 50) rfl ?_
      refine .mk _ (.step none (Ghost.of_lists (l := [(1, .v (.int .u8 ((w : Nat) : Int))), (2, .ptr 0 0), (4, vB false), (27, vB (cond2 (cond2 (decide (c.retired.length > 200)) true (decide (c.bus.length > 50))) true (decide (c.mem.size > 600)))), (5, .ptr 19 0), (36, vB (decide (k < c.mem.size)))]) (hp := [(0, .box (coD c (.v (.string c.mem)) (vU (c.r 1)) (.sl 1 ((s0 :: tl).map rowSet) false))), (19, .box (coD c (.v (.string (⟨((memZ c.mem).map fun x => UInt8.ofNat (x ^^^ w)).toArray⟩ : ByteArray))) (vU ((c.r 1) ^^^ w)) (.osl 46 0 ((s0 :: tl).length) false))), (46, .row ((mapTo (wS w) (s0 :: tl) 0).map setA))]) trivial ⟨.refl _, .refl _, .refl _, .refl _, .refl _, .refl _, trivial⟩ ⟨⟨trivial, _, rfl, .refl _⟩, ⟨trivial, _, rfl, .refl _⟩, ⟨trivial, _, rfl, (toRowS _ (s0 :: tl))⟩, trivial⟩) (.refl _)) ?_
      refine cSeqG ?_
      refine cSeq ?_
      refine cReg rfl ?_
      refine rOk (d := 64) (x := .ptr 0 51) rfl rfl rfl ?_
      refine rOk (d := 65) (x := .ptr 0 52) rfl rfl rfl ?_
      refine rOk (d := 66) (x := .sl 1 ((s0 :: tl).map rowSet) false) rfl rfl rfl ?_
      refine rOk (d := 67) (x := vN ((s0 :: tl).length)) rfl rfl (lenMap rowSet (s0 :: tl)) ?_
      refine rOk (d := 68) (x := vI 0) rfl rfl rfl ?_
      refine rEnd (n' := 55) rfl ?_
      refine cBlock ?_
      refine cLoop (κ := Nat) (fun k => ⟨slotsF [(1, .v (.int .u8 ((w : Nat) : Int))), (2, .ptr 0 0), (5, .ptr 19 0), (66, .sl 1 ((s0 :: tl).map rowSet) false), (67, vN ((s0 :: tl).length)), (68, vN k)], heapF [(0, .box (coD c (.v (.string c.mem)) (vU (c.r 1)) (.sl 1 ((s0 :: tl).map rowSet) false))), (19, .box (coD c (.v (.string (⟨((memZ c.mem).map fun x => UInt8.ofNat (x ^^^ w)).toArray⟩ : ByteArray))) (vU ((c.r 1) ^^^ w)) (.osl 46 0 ((s0 :: tl).length) false))), (46, .row ((mapTo (wS w) (s0 :: tl) k).map setA))], 55⟩) (fun k => k ≤ (s0 :: tl).length) (fun k => (s0 :: tl).length - k) 0 (fun s => s) (Weak.of_lists (fun s => s) ⟨⟨rfl, rfl⟩, ⟨rfl, rfl⟩, ⟨rfl, rfl⟩, ⟨rfl, rfl⟩, ⟨rfl, rfl⟩, ⟨rfl, rfl⟩, trivial⟩ ⟨⟨rfl, rfl, rfl⟩, ⟨rfl, rfl, rfl⟩, ⟨rfl, (rowM (closed_setA _) rfl), (rowB (closed_setA _))⟩, trivial⟩ rfl) (Nat.zero_le _) ?_
      intro k hk
      have hkn : k ≤ (s0 :: tl).length := hk
      have hkB : k ≤ 5864062014805 := by omega
      refine cSeq ?_
      refine cReg rfl ?_
      refine rOk (d := 69) (x := vB (decide (k < ((s0 :: tl).length)))) rfl rfl (okB (ltN _ _)) ?_
      refine rEnd (n' := 56) rfl ?_
      refine cSeq ?_
      refine cCond (v := decide (k < ((s0 :: tl).length))) rfl (fun h3 => ?_) (fun h3 => ?_)
      · skip
        have h3p := of_decide_eq_true h3
        refine cSkip ?_
        refine cSeqG ?_
        refine cBlock ?_
        refine cSeq ?_
        refine cReg rfl ?_
        refine rOk (d := 70) (x := vN k) rfl rfl rfl ?_
        obtain ⟨s, hs⟩ : ∃ y_, (s0 :: tl)[k]? = some y_ := ⟨_, List.getElem?_eq_getElem (by first | omega | rfl | (simp only [List.length_map, List.length_cons, List.length_nil, List.length_append, List.length_set, List.length_take, List.length_drop, List.length_replicate, List.length_range, capMax]; done) | (simp only [List.length_map, List.length_cons, List.length_nil, List.length_append, List.length_set, List.length_take, List.length_drop, List.length_replicate, List.length_range, capMax]; omega) | (simp [capMax]; done) | (simp [capMax]; omega))⟩
        have hso := hLo s (List.mem_of_getElem? hs)
        refine rIdx (rowSet s) (d := 71) (x := .dp 1 0 (rowSet s)) rfl rfl rfl (⟨Int.natCast_nonneg _, getM hs⟩) rfl ?_
        refine rOk (d := 72) (x := .sl 3 (s.map wyL) false) rfl rfl rfl ?_
        refine rOk (d := 8) (x := vN k) rfl rfl rfl ?_
        refine rOk (d := 9) (x := .sl 3 (s.map wyL) false) rfl rfl rfl ?_
        refine rEnd (n' := 61) rfl ?_
        refine cSeq ?_
        rcases s with _ | ⟨x0, xs⟩
        · skip
          refine cLate rfl rfl ?_
          refine rOk (d := 73) (x := .ptr 19 51) rfl rfl rfl ?_
          refine rOk (d := 74) (x := .ptr 19 52) rfl rfl rfl ?_
          refine rOk (d := 75) (x := .osl 46 0 ((s0 :: tl).length) false) rfl rfl rfl ?_
          refine rOk (d := 76) (x := vN k) rfl rfl rfl ?_
          refine rOk (d := 77) (x := .sl 3 ([]) true) rfl rfl rfl ?_
          refine rOk (d := 78) (x := .sl 3 (([] : List Wy).map wyL) false) rfl rfl rfl ?_
          refine rNeed (d := 79) (x := .sl 3 ([]) true) rfl rfl rfl (⟨trivial, trivial⟩) ?_
          refine rNeed (d := 80) (x := .ptr2 46 (0 + k) 0) rfl rfl rfl (⟨Int.natCast_nonneg _, Int.ofNat_lt.2 (by show k < (s0 :: tl).length; first | omega | rfl | (simp only [List.length_map, List.length_cons, List.length_nil, List.length_append, List.length_set, List.length_take, List.length_drop, List.length_replicate, List.length_range, capMax]; done) | (simp only [List.length_map, List.length_cons, List.length_nil, List.length_append, List.length_set, List.length_take, List.length_drop, List.length_replicate, List.length_range, capMax]; omega) | (simp [capMax]; done) | (simp [capMax]; omega))⟩) ?_
          refine rIdxFx ([setA ([] : List Wy)]) (h' := upd _ 46 (some (.row (((mapTo (wS w) (s0 :: tl) k).map setA).set k (.sl 3 ([]) true))))) rfl rfl rfl (row_get (row_at hs)) (row0) ?_
          refine rEnd (n' := 70) rfl ?_
          refine And.intro (by kernel_rfl) ?_
          refine cSeq ?_
          refine cReg rfl ?_
          refine rOk (d := 81) (x := .sl 3 (([] : List Wy).map wyL) false) rfl rfl rfl ?_
          refine rOk (d := 82) (x := vN 0) rfl rfl (lenMapN wyL ([] : List Wy) (by first | omega | rfl | (simp only [List.length_map, List.length_cons, List.length_nil, List.length_append, List.length_set, List.length_take, List.length_drop, List.length_replicate, List.length_range, capMax]; done) | (simp only [List.length_map, List.length_cons, List.length_nil, List.length_append, List.length_set, List.length_take, List.length_drop, List.length_replicate, List.length_range, capMax]; omega) | (simp [capMax]; done) | (simp [capMax]; omega))) ?_
          refine rOk (d := 83) (x := vI 0) rfl rfl rfl ?_
          refine rEnd (n' := 73) rfl ?_
          refine cBlock ?_
          refine cLoop (κ := Nat) (fun i => ⟨slotsF [(1, .v (.int .u8 ((w : Nat) : Int))), (2, .ptr 0 0), (5, .ptr 19 0), (66, .sl 1 ((s0 :: tl).map rowSet) false), (67, vN ((s0 :: tl).length)), (68, vN k), (8, vN k), (9, .sl 3 (([] : List Wy).map wyL) false), (81, .sl 3 (([] : List Wy).map wyL) false), (82, vN 0), (83, vN i)], heapF [(0, .box (coD c (.v (.string c.mem)) (vU (c.r 1)) (.sl 1 ((s0 :: tl).map rowSet) false))), (19, .box (coD c (.v (.string (⟨((memZ c.mem).map fun x => UInt8.ofNat (x ^^^ w)).toArray⟩ : ByteArray))) (vU ((c.r 1) ^^^ w)) (.osl 46 0 ((s0 :: tl).length) false))), (46, .row (((mapTo (wS w) (s0 :: tl) k).map setA).set k (.sl 3 ([]) true)))], 73⟩) (fun i => i ≤ 0) (fun i => 0 - i) 0 (fun s => s) (Weak.of_lists (fun s => s) ⟨⟨rfl, rfl⟩, ⟨rfl, rfl⟩, ⟨rfl, rfl⟩, ⟨rfl, rfl⟩, ⟨rfl, rfl⟩, ⟨rfl, rfl⟩, ⟨rfl, rfl⟩, ⟨rfl, rfl⟩, ⟨rfl, rfl⟩, ⟨rfl, rfl⟩, ⟨rfl, rfl⟩, trivial⟩ ⟨⟨rfl, rfl, rfl⟩, ⟨rfl, rfl, rfl⟩, ⟨rfl, (rowSM (closed_setA _) rfl), (rowSB (closed_setA _) rfl)⟩, trivial⟩ rfl) (Nat.zero_le _) ?_
          intro i hi
          have hin : i ≤ 0 := hi
          have hiB : i ≤ 5864062014805 := by omega
          refine cSeq ?_
          refine cReg rfl ?_
          refine rOk (d := 84) (x := vB (decide (i < 0))) rfl rfl (okB (ltN _ _)) ?_
          refine rEnd (n' := 74) rfl ?_
          refine cSeq ?_
          refine cCond (v := decide (i < 0)) rfl (fun h4 => by exact absurd (of_decide_eq_true h4) (Nat.not_lt_zero _)) (fun _ => ?_)
          refine cExit ?_
          refine .mk _ (.step none (Ghost.of_lists (l := [(1, .v (.int .u8 ((w : Nat) : Int))), (2, .ptr 0 0), (5, .ptr 19 0), (66, .sl 1 ((s0 :: tl).map rowSet) false), (67, vN ((s0 :: tl).length)), (68, vN k)]) (hp := [(0, .box (coD c (.v (.string c.mem)) (vU (c.r 1)) (.sl 1 ((s0 :: tl).map rowSet) false))), (19, .box (coD c (.v (.string (⟨((memZ c.mem).map fun x => UInt8.ofNat (x ^^^ w)).toArray⟩ : ByteArray))) (vU ((c.r 1) ^^^ w)) (.osl 46 0 ((s0 :: tl).length) false))), (46, .row (((mapTo (wS w) (s0 :: tl) k).map setA).set k (setA (wS w ([] : List Wy)))))]) trivial ⟨.refl _, .refl _, .refl _, .refl _, .refl _, .refl _, trivial⟩ ⟨⟨trivial, _, rfl, .refl _⟩, ⟨trivial, _, rfl, .refl _⟩, ⟨trivial, _, rfl, (set_row none (y := setA (wS w [])) (by rw [row_len]; exact (List.getElem?_eq_some_iff.1 hs).1) (.clip 3 []))⟩, trivial⟩) (.refl _)) ?_
          refine cReg rfl ?_
          have b3 : k + 1 ≤ 5864062014806 := Nat.add_le_add hkB (Nat.le_refl 1)
          refine rOk (d := 113) (x := vN (k + 1)) rfl rfl (okI (wrapI64 b3 rfl)) ?_
          refine rOk (d := 68) (x := vN (k + 1)) rfl rfl rfl ?_
          refine rEnd (n' := 76) rfl ?_
          refine ⟨k + 1, fun s => s, Weak.of_lists (fun s => s) ⟨⟨rfl, rfl⟩, ⟨rfl, rfl⟩, ⟨rfl, rfl⟩, ⟨rfl, rfl⟩, ⟨rfl, rfl⟩, ⟨rfl, rfl⟩, trivial⟩ ⟨⟨rfl, rfl, rfl⟩, ⟨rfl, rfl, rfl⟩, ⟨rfl, (rowM (closed_setA _) (row_next hs)), (rowB (closed_setA _))⟩, trivial⟩ rfl, by omega, by show (s0 :: tl).length - (k + 1) < (s0 :: tl).length - k; omega⟩
        · skip
          refine cLate rfl rfl ?_
          refine rOk (d := 73) (x := .ptr 19 51) rfl rfl rfl ?_
          refine rOk (d := 74) (x := .ptr 19 52) rfl rfl rfl ?_
          refine rOk (d := 75) (x := .osl 46 0 ((s0 :: tl).length) false) rfl rfl rfl ?_
          refine rOk (d := 76) (x := vN k) rfl rfl rfl ?_
          refine rOk (d := 77) (x := .sl 3 ([]) true) rfl rfl rfl ?_
          refine rOk (d := 78) (x := .sl 3 ((x0 :: xs).map wyL) false) rfl rfl rfl ?_
          refine rFx (d := 79) (x := .osl 67 0 ((x0 :: xs).length) false) (h' := upd _ 67 (some (.arr ((([] : List Wy) ++ (x0 :: xs)).map wyL) 3))) rfl rfl (app_sl wyL ([] : List Wy) (x0 :: xs) (by simp)) (⟨by refine .inr ?_; show 0 + ((x0 :: xs).map wyL).length ≤ 140737488355328 ∧ (0 + ((x0 :: xs).map wyL).length) * 24 ≤ 140737488355328; rw [List.length_map]; have := hso.1; omega, by simp, trivial, trivial⟩) ?_
          refine rNeed (d := 80) (x := .ptr2 46 (0 + k) 0) rfl rfl rfl (⟨Int.natCast_nonneg _, Int.ofNat_lt.2 (by show k < (s0 :: tl).length; first | omega | rfl | (simp only [List.length_map, List.length_cons, List.length_nil, List.length_append, List.length_set, List.length_take, List.length_drop, List.length_replicate, List.length_range, capMax]; done) | (simp only [List.length_map, List.length_cons, List.length_nil, List.length_append, List.length_set, List.length_take, List.length_drop, List.length_replicate, List.length_range, capMax]; omega) | (simp [capMax]; done) | (simp [capMax]; omega))⟩) ?_
          refine rIdxFx ([setA (x0 :: xs)]) (h' := upd _ 46 (some (.row (((mapTo (wS w) (s0 :: tl) k).map setA).set k (.osl 67 0 ((x0 :: xs).length) false))))) rfl rfl rfl (row_get (row_at hs)) (row0) ?_
          refine rEnd (n' := 70) rfl ?_
          refine And.intro (by kernel_rfl) ?_
          refine cSeq ?_
          refine cReg rfl ?_
          refine rOk (d := 81) (x := .sl 3 ((x0 :: xs).map wyL) false) rfl rfl rfl ?_
          refine rOk (d := 82) (x := vN ((x0 :: xs).length)) rfl rfl (lenMap wyL (x0 :: xs)) ?_
          refine rOk (d := 83) (x := vI 0) rfl rfl rfl ?_
          refine rEnd (n' := 73) rfl ?_
          refine cBlock ?_
          refine cLoop (κ := Nat) (fun i => ⟨slotsF [(1, .v (.int .u8 ((w : Nat) : Int))), (2, .ptr 0 0), (5, .ptr 19 0), (66, .sl 1 ((s0 :: tl).map rowSet) false), (67, vN ((s0 :: tl).length)), (68, vN k), (8, vN k), (9, .sl 3 ((x0 :: xs).map wyL) false), (81, .sl 3 ((x0 :: xs).map wyL) false), (82, vN ((x0 :: xs).length)), (83, vN i)], heapF [(0, .box (coD c (.v (.string c.mem)) (vU (c.r 1)) (.sl 1 ((s0 :: tl).map rowSet) false))), (19, .box (coD c (.v (.string (⟨((memZ c.mem).map fun x => UInt8.ofNat (x ^^^ w)).toArray⟩ : ByteArray))) (vU ((c.r 1) ^^^ w)) (.osl 46 0 ((s0 :: tl).length) false))), (46, .row (((mapTo (wS w) (s0 :: tl) k).map setA).set k (.osl 67 0 ((x0 :: xs).length) false))), (67, .arr ((mapTo (wD w) (x0 :: xs) i).map wyL) 3)], 73⟩) (fun i => i ≤ (x0 :: xs).length) (fun i => (x0 :: xs).length - i) 0 (fun s => s) (Weak.of_lists (fun s => s) ⟨⟨rfl, rfl⟩, ⟨rfl, rfl⟩, ⟨rfl, rfl⟩, ⟨rfl, rfl⟩, ⟨rfl, rfl⟩, ⟨rfl, rfl⟩, ⟨rfl, rfl⟩, ⟨rfl, rfl⟩, ⟨rfl, rfl⟩, ⟨rfl, rfl⟩, ⟨rfl, rfl⟩, trivial⟩ ⟨⟨rfl, rfl, rfl⟩, ⟨rfl, rfl, rfl⟩, ⟨rfl, (rowSM (closed_setA _) rfl), (rowSB (closed_setA _) rfl)⟩, ⟨rfl, rfl, rfl⟩, trivial⟩ rfl) (Nat.zero_le _) ?_
          intro i hi
          have hin : i ≤ (x0 :: xs).length := hi
          have hiB : i ≤ 5864062014805 := by omega
          have hil : (mapTo (wD w) (x0 :: xs) i).length = (x0 :: xs).length := mapTo_len
          refine cSeq ?_
          refine cReg rfl ?_
          refine rOk (d := 84) (x := vB (decide (i < ((x0 :: xs).length)))) rfl rfl (okB (ltN _ _)) ?_
          refine rEnd (n' := 74) rfl ?_
          refine cSeq ?_
          refine cCond (v := decide (i < ((x0 :: xs).length))) rfl (fun h5 => ?_) (fun h5 => ?_)
          · skip
            have h5p := of_decide_eq_true h5
            refine cSkip ?_
            refine cSeq ?_
            refine cBlock ?_
            refine cSeq ?_
            refine cReg rfl ?_
            refine rOk (d := 85) (x := vN i) rfl rfl rfl ?_
            obtain ⟨x, hx⟩ : ∃ y_, (x0 :: xs)[i]? = some y_ := ⟨_, List.getElem?_eq_getElem (by first | omega | rfl | (simp only [List.length_map, List.length_cons, List.length_nil, List.length_append, List.length_set, List.length_take, List.length_drop, List.length_replicate, List.length_range, capMax]; done) | (simp only [List.length_map, List.length_cons, List.length_nil, List.length_append, List.length_set, List.length_take, List.length_drop, List.length_replicate, List.length_range, capMax]; omega) | (simp [capMax]; done) | (simp [capMax]; omega))⟩
            have hxo := hso.2 x (List.mem_of_getElem? hx)
            have hxm : (mapTo (wD w) (x0 :: xs) i)[i]? = some x := mapTo_at.trans hx
            refine rIdx (wyL x) (d := 86) (x := .dp 3 0 (wyL x)) rfl rfl rfl (⟨Int.natCast_nonneg _, getM hx⟩) rfl ?_
            refine rOk (d := 87) (x := .agg (wyL x)) rfl rfl rfl ?_
            refine rFx (d := 11) (x := .ptr 77 0) (h' := upd _ 77 (some (.box [.v (.int .u32 0), vB false, .v (.string (⟨#[]⟩ : ByteArray))]))) rfl rfl (rfl) (trivial) ?_
            refine rOk (d := 10) (x := vN i) rfl rfl rfl ?_
            refine rFx0 (h' := upd _ 77 (some (.box [vU x.line, vB x.dirty, .v (.string x.data)]))) rfl rfl (rfl) (trivial) ?_
            refine rEnd (n' := 80) rfl ?_
            refine cSeq ?_
            refine cReg rfl ?_
            refine rOk (d := 88) (x := .ptr 77 2) rfl rfl rfl ?_
            refine rOk (d := 89) (x := .v (.string x.data)) rfl rfl rfl ?_
            refine rOk (d := 90) (x := vN x.data.size) rfl rfl rfl ?_
            refine rOk (d := 91) (x := vB (x.data.size == 16)) rfl rfl (okB (eqN _ _)) ?_
            refine rEnd (n' := 84) rfl ?_
            refine cCond (v := x.data.size == 16) rfl (fun h6 => ?_) (fun h6 => ?_)
            · skip
              have h6p := beq_t h6
              have h16 : x.data.size = 16 := by simpa using h6
              refine cReg rfl ?_
              refine rOk (d := 92) (x := .ptr 19 51) rfl rfl rfl ?_
              refine rOk (d := 93) (x := .ptr 19 52) rfl rfl rfl ?_
              refine rOk (d := 94) (x := .osl 46 0 ((s0 :: tl).length) false) rfl rfl rfl ?_
              refine rOk (d := 95) (x := vN k) rfl rfl rfl ?_
              refine rNeed (d := 96) (x := .ptr2 46 (0 + k) 0) rfl rfl rfl (⟨Int.natCast_nonneg _, Int.ofNat_lt.2 (by show k < (s0 :: tl).length; first | omega | rfl | (simp only [List.length_map, List.length_cons, List.length_nil, List.length_append, List.length_set, List.length_take, List.length_drop, List.length_replicate, List.length_range, capMax]; done) | (simp only [List.length_map, List.length_cons, List.length_nil, List.length_append, List.length_set, List.length_take, List.length_drop, List.length_replicate, List.length_range, capMax]; omega) | (simp [capMax]; done) | (simp [capMax]; omega))⟩) ?_
              refine rIdx ([.osl 67 0 ((x0 :: xs).length) false]) (d := 97) (x := .osl 67 0 ((x0 :: xs).length) false) rfl rfl rfl (row_get (row_cur hs)) rfl ?_
              refine rOk (d := 98) (x := vN i) rfl rfl rfl ?_
              refine rOk (d := 99) (x := .ptr 77 2) rfl rfl rfl ?_
              refine rOk (d := 100) (x := .v (.string x.data)) rfl rfl rfl ?_
              refine rNeed (d := 101) (x := .v (.int .u8 (((x.data.data.toList.getD 0 0).toNat : Nat) : Int))) rfl rfl rfl (⟨by decide, by show (0 : Int) < (x.data.size : Int); omega⟩) ?_
              refine rOk (d := 102) (x := .v (.int .u8 ((w : Nat) : Int))) rfl rfl rfl ?_
              refine rOk (d := 103) (x := .v (.int .u8 (((x.data.data.toList.getD 0 0).toNat ^^^ w : Nat) : Int))) rfl rfl (okI (xorI8 (u8le _) hw)) ?_
              refine rOk (d := 104) (x := .sl 1 ([[.v (.int .u8 (((x.data.data.toList.getD 0 0).toNat ^^^ w : Nat) : Int))]]) true) rfl rfl rfl ?_
              refine rStr ([UInt8.ofNat ((x.data.data.toList.getD 0 0).toNat ^^^ w)]) (d := 105) rfl rfl rfl (trivial) (rfl) ?_
              refine rOk (d := 106) (x := .ptr 77 2) rfl rfl rfl ?_
              refine rOk (d := 107) (x := .v (.string x.data)) rfl rfl rfl ?_
              refine rNeed (d := 108) (x := .v (.string (x.data.extract 1 x.data.size))) rfl rfl rfl (by refine ⟨?_, ?_, ?_⟩ <;> (first | exact Int.natCast_nonneg _ | decide | (apply Int.ofNat_le.2; first | omega | rfl | (simp only [List.length_map, List.length_cons, List.length_nil, List.length_append, List.length_set, List.length_take, List.length_drop, List.length_replicate, List.length_range, capMax]; done) | (simp only [List.length_map, List.length_cons, List.length_nil, List.length_append, List.length_set, List.length_take, List.length_drop, List.length_replicate, List.length_range, capMax]; omega) | (simp [capMax]; done) | (simp [capMax]; omega)))) ?_
              refine rNeed (d := 109) (x := .v (.string ((⟨[UInt8.ofNat ((x.data.data.toList.getD 0 0).toNat ^^^ w)].toArray⟩ : ByteArray) ++ x.data.extract 1 x.data.size))) rfl rfl rfl (by show (((⟨[_].toArray⟩ : ByteArray).size + (x.data.extract 1 x.data.size).size : Nat) : Int) ≤ 9223372036854775807; rw [ByteArray.size_extract, h16]; show (((1 : Nat) + (min 16 16 - 1) : Nat) : Int) ≤ 9223372036854775807; decide) ?_
              refine rNeed (d := 110) (x := .ptr2 67 (0 + i) 0) rfl rfl rfl (⟨Int.natCast_nonneg _, Int.ofNat_lt.2 (by show i < (x0 :: xs).length; first | omega | rfl | (simp only [List.length_map, List.length_cons, List.length_nil, List.length_append, List.length_set, List.length_take, List.length_drop, List.length_replicate, List.length_range, capMax]; done) | (simp only [List.length_map, List.length_cons, List.length_nil, List.length_append, List.length_set, List.length_take, List.length_drop, List.length_replicate, List.length_range, capMax]; omega) | (simp [capMax]; done) | (simp [capMax]; omega))⟩) ?_
              refine rOk (d := 111) (x := .ptr2 67 (0 + i) 2) rfl rfl rfl ?_
              have hx2 : ((mapTo (wD w) (x0 :: xs) i).set i (⟨x.line, x.dirty, (⟨[UInt8.ofNat ((x.data.data.toList.getD 0 0).toNat ^^^ w)].toArray⟩ : ByteArray) ++ x.data.extract 1 x.data.size⟩ : Wy))[i]? = some (⟨x.line, x.dirty, (⟨[UInt8.ofNat ((x.data.data.toList.getD 0 0).toNat ^^^ w)].toArray⟩ : ByteArray) ++ x.data.extract 1 x.data.size⟩ : Wy) := List.getElem?_set_self (by first | omega | rfl | (simp only [List.length_map, List.length_cons, List.length_nil, List.length_append, List.length_set, List.length_take, List.length_drop, List.length_replicate, List.length_range, capMax]; done) | (simp only [List.length_map, List.length_cons, List.length_nil, List.length_append, List.length_set, List.length_take, List.length_drop, List.length_replicate, List.length_range, capMax]; omega) | (simp [capMax]; done) | (simp [capMax]; omega))
              refine rIdxFx (wyL x) (h' := upd _ 67 (some (.arr (((mapTo (wD w) (x0 :: xs) i).set i (⟨x.line, x.dirty, (⟨[UInt8.ofNat ((x.data.data.toList.getD 0 0).toNat ^^^ w)].toArray⟩ : ByteArray) ++ x.data.extract 1 x.data.size⟩ : Wy)).map wyL) 3))) rfl rfl rfl (⟨Int.natCast_nonneg _, getZ (getM hxm)⟩) (set_eqZ (f := wyL) (l := mapTo (wD w) (x0 :: xs) i) (k := i) (x := (⟨x.line, x.dirty, (⟨[UInt8.ofNat ((x.data.data.toList.getD 0 0).toNat ^^^ w)].toArray⟩ : ByteArray) ++ x.data.extract 1 x.data.size⟩ : Wy))) ?_
              refine rEnd (n' := 105) rfl ?_
              refine cReg rfl ?_
              have b4 : i + 1 ≤ 5864062014806 := Nat.add_le_add hiB (Nat.le_refl 1)
              refine rOk (d := 112) (x := vN (i + 1)) rfl rfl (okI (wrapI64 b4 rfl)) ?_
              refine rOk (d := 83) (x := vN (i + 1)) rfl rfl rfl ?_
              refine rEnd (n' := 107) rfl ?_
              refine ⟨i + 1, fun s => s, Weak.of_lists (fun s => s) ⟨⟨rfl, rfl⟩, ⟨rfl, rfl⟩, ⟨rfl, rfl⟩, ⟨rfl, rfl⟩, ⟨rfl, rfl⟩, ⟨rfl, rfl⟩, ⟨rfl, rfl⟩, ⟨rfl, rfl⟩, ⟨rfl, rfl⟩, ⟨rfl, rfl⟩, ⟨rfl, rfl⟩, trivial⟩ ⟨⟨rfl, rfl, rfl⟩, ⟨rfl, rfl, rfl⟩, ⟨rfl, (rowSM (closed_setA _) rfl), (rowSB (closed_setA _) rfl)⟩, ⟨rfl, (congrArg (fun z : List Wy => some (Blk.arr (z.map wyL) 3)) (show (mapTo (wD w) (x0 :: xs) i).set i (⟨x.line, x.dirty, _⟩ : Wy) = mapTo (wD w) (x0 :: xs) (i + 1) from by rw [← mapTo_set hxm, wD_yes h16])), rfl⟩, trivial⟩ rfl, by omega, by show (x0 :: xs).length - (i + 1) < (x0 :: xs).length - i; omega⟩
            · skip
              have h6p := beq_f h6
              refine cSkip ?_
              refine cReg rfl ?_
              have b5 : i + 1 ≤ 5864062014806 := Nat.add_le_add hiB (Nat.le_refl 1)
              refine rOk (d := 112) (x := vN (i + 1)) rfl rfl (okI (wrapI64 b5 rfl)) ?_
              refine rOk (d := 83) (x := vN (i + 1)) rfl rfl rfl ?_
              refine rEnd (n' := 86) rfl ?_
              refine ⟨i + 1, fun s => s, Weak.of_lists (fun s => s) ⟨⟨rfl, rfl⟩, ⟨rfl, rfl⟩, ⟨rfl, rfl⟩, ⟨rfl, rfl⟩, ⟨rfl, rfl⟩, ⟨rfl, rfl⟩, ⟨rfl, rfl⟩, ⟨rfl, rfl⟩, ⟨rfl, rfl⟩, ⟨rfl, rfl⟩, ⟨rfl, rfl⟩, trivial⟩ ⟨⟨rfl, rfl, rfl⟩, ⟨rfl, rfl, rfl⟩, ⟨rfl, (rowSM (closed_setA _) rfl), (rowSB (closed_setA _) rfl)⟩, ⟨rfl, (congrArg (fun z : List Wy => some (Blk.arr (z.map wyL) 3)) (mapTo_keep hxm (wD_no (by simpa using h6)))), rfl⟩, trivial⟩ rfl, by omega, by show (x0 :: xs).length - (i + 1) < (x0 :: xs).length - i; omega⟩
          · skip
            have h5p := of_decide_eq_false h5
            refine cExit ?_
            refine .mk _ (.step (some (67, 3, (mapTo (wD w) (x0 :: xs) i).map wyL)) (Ghost.of_lists (l := [(1, .v (.int .u8 ((w : Nat) : Int))), (2, .ptr 0 0), (5, .ptr 19 0), (66, .sl 1 ((s0 :: tl).map rowSet) false), (67, vN ((s0 :: tl).length)), (68, vN k)]) (hp := [(0, .box (coD c (.v (.string c.mem)) (vU (c.r 1)) (.sl 1 ((s0 :: tl).map rowSet) false))), (19, .box (coD c (.v (.string (⟨((memZ c.mem).map fun x => UInt8.ofNat (x ^^^ w)).toArray⟩ : ByteArray))) (vU ((c.r 1) ^^^ w)) (.osl 46 0 ((s0 :: tl).length) false))), (46, .row (((mapTo (wS w) (s0 :: tl) k).map setA).set k (setA (wS w (x0 :: xs)))))]) rfl ⟨.refl _, .refl _, .refl _, .refl _, .refl _, .refl _, trivial⟩ ⟨⟨rfl, _, rfl, .refl _⟩, ⟨rfl, _, rfl, .refl _⟩, ⟨rfl, _, rfl, (set_row _ (y := setA (wS w (x0 :: xs))) (by rw [row_len]; exact (List.getElem?_eq_some_iff.1 hs).1) (frz_set rfl (by omega)))⟩, trivial⟩) (.refl _)) ?_
            refine cReg rfl ?_
            have b6 : k + 1 ≤ 5864062014806 := Nat.add_le_add hkB (Nat.le_refl 1)
            refine rOk (d := 113) (x := vN (k + 1)) rfl rfl (okI (wrapI64 b6 rfl)) ?_
            refine rOk (d := 68) (x := vN (k + 1)) rfl rfl rfl ?_
            refine rEnd (n' := 76) rfl ?_
            refine ⟨k + 1, fun s => s, Weak.of_lists (fun s => s) ⟨⟨rfl, rfl⟩, ⟨rfl, rfl⟩, ⟨rfl, rfl⟩, ⟨rfl, rfl⟩, ⟨rfl, rfl⟩, ⟨rfl, rfl⟩, trivial⟩ ⟨⟨rfl, rfl, rfl⟩, ⟨rfl, rfl, rfl⟩, ⟨rfl, (rowM (closed_setA _) (row_next hs)), (rowB (closed_setA _))⟩, trivial⟩ rfl, by omega, by show (s0 :: tl).length - (k + 1) < (s0 :: tl).length - k; omega⟩
      · skip
        have h3p := of_decide_eq_false h3
        refine cExit ?_
        refine .mk _ (.step none (Ghost.of_lists (l := [(2, .ptr 0 0), (5, .ptr 19 0)]) (hp := [(0, .box (coD c (.v (.string c.mem)) (vU (c.r 1)) (.sl 1 ((s0 :: tl).map rowSet) false))), (19, .box (coD c (.v (.string (⟨((memZ c.mem).map fun x => UInt8.ofNat (x ^^^ w)).toArray⟩ : ByteArray))) (vU ((c.r 1) ^^^ w)) (.osl 46 0 ((s0 :: tl).length) false))), (46, .arr ((mapTo (wS w) (s0 :: tl) k).map rowSet) 1)]) trivial ⟨.refl _, .refl _, trivial⟩ ⟨⟨trivial, _, rfl, .refl _⟩, ⟨trivial, _, rfl, .refl _⟩, ⟨trivial, _, rfl, (toArrS _ _)⟩, trivial⟩) (.step (some (46, 1, (mapTo (wS w) (s0 :: tl) k).map rowSet)) (Ghost.of_lists (l := [(2, .ptr 0 0), (5, .ptr 19 0)]) (hp := [(0, .box (coD c (.v (.string c.mem)) (vU (c.r 1)) (.sl 1 ((s0 :: tl).map rowSet) false))), (19, .box (coD c (.v (.string (⟨((memZ c.mem).map fun x => UInt8.ofNat (x ^^^ w)).toArray⟩ : ByteArray))) (vU ((c.r 1) ^^^ w)) (.sl 1 (((s0 :: tl).map (wS w)).map rowSet) false)))]) rfl ⟨.refl _, .refl _, trivial⟩ ⟨⟨rfl, _, rfl, .refl _⟩, ⟨rfl, _, rfl, (LeB.boxL ⟨.refl _, .refl _, .refl _, .refl _, .refl _, .refl _, .refl _, .refl _, .refl _, .refl _, .refl _, .refl _, .refl _, .refl _, .refl _, .refl _, .refl _, .refl _, .refl _, .refl _, .refl _, .refl _, .refl _, .refl _, .refl _, .refl _, .refl _, .refl _, .refl _, .refl _, .refl _, .refl _, .refl _, .refl _, .refl _, .refl _, .refl _, .refl _, .refl _, .refl _, .refl _, .refl _, .refl _, .refl _, .refl _, .refl _, .refl _, .refl _, .refl _, .refl _, .refl _, .refl _, (by rw [← (mapTo_end (f := wS w) (l := (s0 :: tl)) (k := k) (by omega))]; exact frz_row (by rw [mapTo_len])), .refl _, .refl _, .refl _, .refl _, .refl _, .refl _, .refl _, .refl _, .refl _, .refl _, .refl _, trivial⟩)⟩, trivial⟩) (.refl _))) ?_
        refine cSeq ?_
        refine cReg rfl ?_
        refine rCall (args := []) (d := 114) (x := vB true) rfl rfl rfl rfl (.inl rfl) rfl (dAlive) ?_
        refine rOk (d := 115) (x := vB true) rfl rfl rfl ?_
        refine gOk (d := 116) (x := .agg (coD c (.v (.string c.mem)) (vU (c.r 1)) (.sl 1 ((s0 :: tl).map rowSet) false))) (g := true) rfl rfl rfl rfl rfl rfl ?_
        refine gCallS (args := [.agg (coD c (.v (.string c.mem)) (vU (c.r 1)) (.sl 1 ((s0 :: tl).map rowSet) false)), vI 0]) (d := 117) (x := .agg (seL (seeP (withS c (s0 :: tl)) 0))) (g := true) rfl rfl rfl rfl (fun h => h) rfl rfl rfl (.inl rfl) rfl (fun hg => hK.1) ?_
        refine gOk (d := 118) (x := .agg (coD c (.v (.string (⟨((memZ c.mem).map fun x => UInt8.ofNat (x ^^^ w)).toArray⟩ : ByteArray))) (vU ((c.r 1) ^^^ w)) (.sl 1 (((s0 :: tl).map (wS w)).map rowSet) false))) (g := true) rfl rfl rfl rfl rfl rfl ?_
        refine gCallS (args := [.agg (coD c (.v (.string (⟨((memZ c.mem).map fun x => UInt8.ofNat (x ^^^ w)).toArray⟩ : ByteArray))) (vU ((c.r 1) ^^^ w)) (.sl 1 (((s0 :: tl).map (wS w)).map rowSet) false)), vI 0]) (d := 119) (x := .agg (seL (seeP (withS c (s0 :: tl)) 0))) (g := true) rfl rfl rfl rfl (fun h => h) rfl rfl rfl (.inl rfl) rfl (fun hg => (by have z := hK.2.1; rw [see_other] at z; exact z)) ?_
        refine gCallS (args := [.agg (seL (seeP (withS c (s0 :: tl)) 0)), .agg (seL (seeP (withS c (s0 :: tl)) 0))]) (d := 120) (x := vB (sameSe (seeP (withS c (s0 :: tl)) 0) (seeP (withS c (s0 :: tl)) 0))) (g := true) rfl rfl rfl rfl (fun h => by first | (simp_all; done) | exact (Bool.and_eq_true_iff.1 h).1 | exact Bool.and_eq_true_iff.2 ⟨h, h⟩) rfl rfl rfl (.inl rfl) rfl (fun hg => dSame _ _ hK.2.2 hK.2.2) ?_
        refine rNeed (d := 121) (x := vB (cond2 true (sameSe (seeP (withS c (s0 :: tl)) 0) (seeP (withS c (s0 :: tl)) 0)) false)) rfl rfl rfl (fun h => h) ?_
        refine rOk (d := 4) (x := vB (cond2 true (sameSe (seeP (withS c (s0 :: tl)) 0) (seeP (withS c (s0 :: tl)) 0)) false)) rfl rfl rfl ?_
        refine rEnd (n' := 65) rfl ?_
        refine cRet ?_
        exact finTA rfl trivial rfl (congrArg (fun z => AV.v (.bool z)) (by rw [sameSe_refl]; rfl))
set_option maxRecDepth 100000 in
set_option maxHeartbeats 4000000 in
theorem dData0 (c : Co) (w : Nat) (hw : w ≤ 255) (hret : c.retired.length ≤ 9223372036854775807) (hbus : c.bus.length ≤ 9223372036854775807) (hr1 : c.r 1 ≤ 4294967295) (hLn : ([] : List (List Wy)).length ≤ 5864062014805) (hLo : ∀ s ∈ ([] : List (List Wy)), s.length ≤ 5864062014805 ∧ ∀ x ∈ s, x.ok) (hk0 : c.bus.length ≤ 50 → c.retired.length ≤ 200 → DCall C0 23 [.agg (coL (withS c ([] : List (List Wy)))), .v (.int .i64 0)] (.agg (seL (seeP (withS c ([] : List (List Wy))) 0))) ∧ DCall C0 23 [.agg (coL (otherCo w (withS c ([] : List (List Wy))))), .v (.int .i64 0)] (.agg (seL (seeP (otherCo w (withS c ([] : List (List Wy)))) 0))) ∧ (seeP (withS c ([] : List (List Wy))) 0).ok) : DCall C0 8 [.agg (coL (withS c ([] : List (List Wy)))), .v (.int .u8 ((w : Nat) : Int))] (vB true) := by
  refine dc1 (DCall.intro c1Ok Try.func8 rfl rfl (by kernel_rfl) rfl ?_)
  refine cSeq ?_
  refine cReg rfl ?_
  refine rFx (d := 2) (x := .ptr 0 0) (h' := upd _ 0 (some (.box (coD c (.v (.string c.mem)) (vU (c.r 1)) (.sl 1 (([] : List (List Wy)).map rowSet) false))))) rfl rfl (rfl) (trivial) ?_
  refine rOk (d := 4) (x := vB false) rfl rfl rfl ?_
  refine rEnd (n' := 2) rfl ?_
  refine cSeq ?_
  refine cSeq ?_
  refine cReg rfl ?_
  refine rOk (d := 12) (x := .ptr 0 63) rfl rfl rfl ?_
  refine rOk (d := 13) (x := .sl 9 (c.retired.map spL) false) rfl rfl rfl ?_
  refine rOk (d := 14) (x := vN c.retired.length) rfl rfl (lenMap spL c.retired) ?_
  refine rOk (d := 15) (x := vB (decide (c.retired.length > 200))) rfl rfl (okB (gtN _ _)) ?_
  refine rOk (d := 16) (x := vB (decide (c.retired.length > 200))) rfl rfl rfl ?_
  refine gOk (d := 17) (x := .ptr 0 55) (g := !(decide (c.retired.length > 200))) rfl rfl rfl rfl rfl rfl ?_
  refine gOkS (d := 18) (x := .sl 4 (c.bus.map rqL) false) (g := !(decide (c.retired.length > 200))) rfl rfl rfl rfl (fun h => h) rfl rfl ?_
  refine gOkS (d := 19) (x := vN c.bus.length) (g := !(decide (c.retired.length > 200))) rfl rfl rfl rfl (fun h => h) rfl (lenMap rqL c.bus) ?_
  refine gOkS (d := 20) (x := vB (decide (c.bus.length > 50))) (g := !(decide (c.retired.length > 200))) rfl rfl rfl rfl (fun h => h) rfl (okB (gtN _ _)) ?_
  refine rNeed (d := 21) (x := vB (cond2 (decide (c.retired.length > 200)) true (decide (c.bus.length > 50)))) rfl rfl rfl (by simp) ?_
  refine rOk (d := 22) (x := vB (cond2 (decide (c.retired.length > 200)) true (decide (c.bus.length > 50)))) rfl rfl rfl ?_
  refine gOk (d := 23) (x := .ptr 0 58) (g := !(cond2 (decide (c.retired.length > 200)) true (decide (c.bus.length > 50)))) rfl rfl rfl rfl rfl rfl ?_
  refine gOkS (d := 24) (x := .v (.string c.mem)) (g := !(cond2 (decide (c.retired.length > 200)) true (decide (c.bus.length > 50)))) rfl rfl rfl rfl (fun h => h) rfl rfl ?_
  refine gOkS (d := 25) (x := vN c.mem.size) (g := !(cond2 (decide (c.retired.length > 200)) true (decide (c.bus.length > 50)))) rfl rfl rfl rfl (fun h => h) rfl rfl ?_
  refine gOkS (d := 26) (x := vB (decide (c.mem.size > 600))) (g := !(cond2 (decide (c.retired.length > 200)) true (decide (c.bus.length > 50)))) rfl rfl rfl rfl (fun h => h) rfl (okB (gtN _ _)) ?_
  refine rNeed (d := 27) (x := vB (cond2 (cond2 (decide (c.retired.length > 200)) true (decide (c.bus.length > 50))) true (decide (c.mem.size > 600)))) rfl rfl rfl (by simp) ?_
  refine rEnd (n' := 18) rfl ?_
  refine cCond (v := cond2 (cond2 (decide (c.retired.length > 200)) true (decide (c.bus.length > 50))) true (decide (c.mem.size > 600))) rfl (fun h1 => ?_) (fun h1 => ?_)
  · skip
    refine cSeq ?_
    refine cReg rfl ?_
    refine rCall (args := []) (d := 28) (x := vB true) rfl rfl rfl rfl (.inl rfl) rfl (dAlive) ?_
    refine rOk (d := 4) (x := vB true) rfl rfl rfl ?_
    refine rEnd (n' := 20) rfl ?_
    refine cRet ?_
    exact finTA rfl trivial rfl rfl
  · skip
    have hg : c.retired.length ≤ 200 ∧ c.bus.length ≤ 50 ∧ c.mem.size ≤ 600 := by have z := h1; simp only [cOr, Bool.or_eq_false_iff, decide_eq_false_iff_not] at z; omega
    have hK := hk0 hg.2.1 hg.1
    refine cSkip ?_
    refine cSeq ?_
    refine cReg rfl ?_
    refine rOk (d := 29) (x := .agg (coD c (.v (.string c.mem)) (vU (c.r 1)) (.sl 1 (([] : List (List Wy)).map rowSet) false))) rfl rfl rfl ?_
    refine rFx (d := 5) (x := .ptr 19 0) (h' := upd _ 19 (some (.box [vI 0, vI 0, vI 0, vI 0, vI 0, vI 0, vI 0, vI 0, .sl 0 ([]) true, vB false, .sl 0 ([]) true, .sl 0 ([]) true, vI 0, .v (.int .u32 0), .v (.int .u32 0), .v (.int .u32 0), .v (.int .u32 0), .v (.int .u32 0), .v (.int .u32 0), .v (.int .u32 0), .v (.int .u32 0), .v (.int .u32 0), .v (.int .u32 0), .v (.int .u32 0), .v (.int .u32 0), .v (.int .u32 0), .v (.int .u32 0), .v (.int .u32 0), .v (.int .u32 0), .v (.int .u32 0), .v (.int .u32 0), .v (.int .u32 0), .v (.int .u32 0), .v (.int .u32 0), .v (.int .u32 0), .v (.int .u32 0), .v (.int .u32 0), .v (.int .u32 0), .v (.int .u32 0), .v (.int .u32 0), .v (.int .u32 0), .v (.int .u32 0), .v (.int .u32 0), .v (.int .u32 0), .v (.int .u32 0), .v (.int .u32 0), vB false, .sl 0 ([]) true, .sl 0 ([]) true, vI 0, .sl 0 ([]) true, vI 0, .sl 0 ([]) true, vI 0, .sl 0 ([]) true, .sl 0 ([]) true, vI 0, vI 0, .v (.string (⟨#[]⟩ : ByteArray)), .sl 0 ([]) true, .v (.int .u32 0), .sl 0 ([]) true, vI 0, .sl 0 ([]) true]))) rfl rfl (rfl) (trivial) ?_
    refine rFx0 (h' := upd _ 19 (some (.box (coD c (.v (.string c.mem)) (vU (c.r 1)) (.sl 1 (([] : List (List Wy)).map rowSet) false))))) rfl rfl (rfl) (trivial) ?_
    refine rEnd (n' := 21) rfl ?_
    refine cSeq ?_
    refine cReg rfl ?_
    refine rOk (d := 30) (x := .ptr 0 58) rfl rfl rfl ?_
    refine rOk (d := 31) (x := .v (.string c.mem)) rfl rfl rfl ?_
    refine rFx (d := 32) (x := .osl 23 0 c.mem.size false) (h' := upd _ 23 (some (.arr ((memZ c.mem).map rowB8) 1))) rfl rfl (mk_eq (memZ_rows c.mem)) (by show c.mem.size ≤ 2000000; omega) ?_
    refine rOk (d := 6) (x := .osl 23 0 c.mem.size false) rfl rfl rfl ?_
    refine rEnd (n' := 25) rfl ?_
    refine cSeq ?_
    refine cSeq ?_
    refine cReg rfl ?_
    refine rOk (d := 33) (x := .osl 23 0 c.mem.size false) rfl rfl rfl ?_
    refine rOk (d := 34) (x := vN c.mem.size) rfl rfl rfl ?_
    refine rOk (d := 35) (x := vI 0) rfl rfl rfl ?_
    refine rEnd (n' := 28) rfl ?_
    refine cBlock ?_
    refine cLoop (κ := Nat) (fun k => ⟨slotsF [(1, .v (.int .u8 ((w : Nat) : Int))), (2, .ptr 0 0), (4, vB false), (27, vB (cond2 (cond2 (decide (c.retired.length > 200)) true (decide (c.bus.length > 50))) true (decide (c.mem.size > 600)))), (5, .ptr 19 0), (6, .osl 23 0 c.mem.size false), (34, vN c.mem.size), (35, vN k)], heapF [(0, .box (coD c (.v (.string c.mem)) (vU (c.r 1)) (.sl 1 (([] : List (List Wy)).map rowSet) false))), (19, .box (coD c (.v (.string c.mem)) (vU (c.r 1)) (.sl 1 (([] : List (List Wy)).map rowSet) false))), (23, .arr ((mapTo (fun x => x ^^^ w) (memZ c.mem) k).map rowB8) 1)], 28⟩) (fun k => k ≤ c.mem.size) (fun k => c.mem.size - k) 0 (fun s => s) (Weak.of_lists (fun s => s) ⟨⟨rfl, rfl⟩, ⟨rfl, rfl⟩, ⟨rfl, rfl⟩, ⟨rfl, rfl⟩, ⟨rfl, rfl⟩, ⟨rfl, rfl⟩, ⟨rfl, rfl⟩, ⟨rfl, rfl⟩, trivial⟩ ⟨⟨rfl, rfl, rfl⟩, ⟨rfl, rfl, rfl⟩, ⟨rfl, rfl, rfl⟩, trivial⟩ rfl) (Nat.zero_le _) ?_
    intro k hk
    have hkn : k ≤ c.mem.size := hk
    have hkB : k ≤ 5864062014805 := by omega
    have hml : (mapTo (fun x => x ^^^ w) (memZ c.mem) k).length = c.mem.size := mapTo_len.trans (memZ_len _)
    refine cSeq ?_
    refine cReg rfl ?_
    refine rOk (d := 36) (x := vB (decide (k < c.mem.size))) rfl rfl (okB (ltN _ _)) ?_
    refine rEnd (n' := 29) rfl ?_
    refine cSeq ?_
    refine cCond (v := decide (k < c.mem.size)) rfl (fun h2 => ?_) (fun h2 => ?_)
    · skip
      have h2p := of_decide_eq_true h2
      refine cSkip ?_
      refine cSeq ?_
      refine cBlock ?_
      refine cSeq ?_
      refine cReg rfl ?_
      refine rOk (d := 37) (x := vN k) rfl rfl rfl ?_
      refine rOk (d := 7) (x := vN k) rfl rfl rfl ?_
      refine rEnd (n' := 31) rfl ?_
      refine cReg rfl ?_
      refine rOk (d := 38) (x := .osl 23 0 c.mem.size false) rfl rfl rfl ?_
      refine rOk (d := 39) (x := vN k) rfl rfl rfl ?_
      refine rNeed (d := 40) (x := .ptr2 23 (0 + k) 0) rfl rfl rfl (⟨Int.natCast_nonneg _, Int.ofNat_lt.2 (by show k < c.mem.size; first | omega | rfl | (simp only [List.length_map, List.length_cons, List.length_nil, List.length_append, List.length_set, List.length_take, List.length_drop, List.length_replicate, List.length_range, capMax]; done) | (simp only [List.length_map, List.length_cons, List.length_nil, List.length_append, List.length_set, List.length_take, List.length_drop, List.length_replicate, List.length_range, capMax]; omega) | (simp [capMax]; done) | (simp [capMax]; omega))⟩) ?_
      obtain ⟨z1, hz1⟩ : ∃ y_, (mapTo (fun x => x ^^^ w) (memZ c.mem) k)[k]? = some y_ := ⟨_, List.getElem?_eq_getElem (by first | omega | rfl | (simp only [List.length_map, List.length_cons, List.length_nil, List.length_append, List.length_set, List.length_take, List.length_drop, List.length_replicate, List.length_range, capMax]; done) | (simp only [List.length_map, List.length_cons, List.length_nil, List.length_append, List.length_set, List.length_take, List.length_drop, List.length_replicate, List.length_range, capMax]; omega) | (simp [capMax]; done) | (simp [capMax]; omega))⟩
      have hz1o := (mapTo_ok (f := fun x => x ^^^ w) (P := fun x => x ≤ 255) (fun x h => xor8 h hw) (memZ_ok c.mem) k) z1 (List.mem_of_getElem? hz1)
      refine rIdx (rowB8 z1) (d := 41) (x := .v (.int .u8 ((z1 : Nat) : Int))) rfl rfl rfl (⟨Int.natCast_nonneg _, getZ (getM hz1)⟩) rfl ?_
      refine rOk (d := 42) (x := .v (.int .u8 ((w : Nat) : Int))) rfl rfl rfl ?_
      refine rOk (d := 43) (x := .v (.int .u8 ((z1 ^^^ w : Nat) : Int))) rfl rfl (okI (xorI8 hz1o hw)) ?_
      refine rNeed (d := 44) (x := .ptr2 23 (0 + k) 0) rfl rfl rfl (⟨Int.natCast_nonneg _, Int.ofNat_lt.2 (by show k < c.mem.size; first | omega | rfl | (simp only [List.length_map, List.length_cons, List.length_nil, List.length_append, List.length_set, List.length_take, List.length_drop, List.length_replicate, List.length_range, capMax]; done) | (simp only [List.length_map, List.length_cons, List.length_nil, List.length_append, List.length_set, List.length_take, List.length_drop, List.length_replicate, List.length_range, capMax]; omega) | (simp [capMax]; done) | (simp [capMax]; omega))⟩) ?_
      have hx1 : ((mapTo (fun x => x ^^^ w) (memZ c.mem) k).set k (z1 ^^^ w))[k]? = some (z1 ^^^ w) := List.getElem?_set_self (by first | omega | rfl | (simp only [List.length_map, List.length_cons, List.length_nil, List.length_append, List.length_set, List.length_take, List.length_drop, List.length_replicate, List.length_range, capMax]; done) | (simp only [List.length_map, List.length_cons, List.length_nil, List.length_append, List.length_set, List.length_take, List.length_drop, List.length_replicate, List.length_range, capMax]; omega) | (simp [capMax]; done) | (simp [capMax]; omega))
      refine rIdxFx (rowB8 z1) (h' := upd _ 23 (some (.arr (((mapTo (fun x => x ^^^ w) (memZ c.mem) k).set k (z1 ^^^ w)).map rowB8) 1))) rfl rfl rfl (⟨Int.natCast_nonneg _, getZ (getM hz1)⟩) (set_eqZ (f := rowB8) (l := mapTo (fun x => x ^^^ w) (memZ c.mem) k) (k := k) (x := z1 ^^^ w)) ?_
      refine rEnd (n' := 39) rfl ?_
      refine cReg rfl ?_
      have b1 : k + 1 ≤ 5864062014806 := Nat.add_le_add hkB (Nat.le_refl 1)
      refine rOk (d := 45) (x := vN (k + 1)) rfl rfl (okI (wrapI64 b1 rfl)) ?_
      refine rOk (d := 35) (x := vN (k + 1)) rfl rfl rfl ?_
      refine rEnd (n' := 41) rfl ?_
      refine ⟨k + 1, fun s => s, Weak.of_lists (fun s => s) ⟨⟨rfl, rfl⟩, ⟨rfl, rfl⟩, ⟨rfl, rfl⟩, ⟨rfl, rfl⟩, ⟨rfl, rfl⟩, ⟨rfl, rfl⟩, ⟨rfl, rfl⟩, ⟨rfl, rfl⟩, trivial⟩ ⟨⟨rfl, rfl, rfl⟩, ⟨rfl, rfl, rfl⟩, ⟨rfl, (congrArg (fun z : List Nat => some (Blk.arr (z.map rowB8) 1)) (mapTo_set (f := fun x => x ^^^ w) hz1)), rfl⟩, trivial⟩ rfl, by omega, by show c.mem.size - (k + 1) < c.mem.size - k; omega⟩
    · skip
      have h2p := of_decide_eq_false h2
      refine cExit ?_
      refine cSeq ?_
      refine cReg rfl ?_
      refine rOk (d := 46) (x := .osl 23 0 c.mem.size false) rfl rfl rfl ?_
      have hml : (mapTo (fun x => x ^^^ w) (memZ c.mem) k).length = c.mem.size := mapTo_len.trans (memZ_len _)
      refine rStr ((memZ c.mem).map fun x => UInt8.ofNat (x ^^^ w)) (d := 47) rfl rfl rfl (by show 0 + c.mem.size ≤ ((mapTo (fun x => x ^^^ w) (memZ c.mem) k).map rowB8).length; rw [List.length_map]; omega) (by show bytesOfRows (List.take c.mem.size (List.drop 0 ((mapTo (fun x => x ^^^ w) (memZ c.mem) k).map rowB8))) = _; rw [own_all rowB8 _ (by omega), mapTo_end (by rw [memZ_len]; omega), bytes_rows, List.map_map]; rfl) ?_
      refine rOk (d := 48) (x := .ptr 19 58) rfl rfl rfl ?_
      refine rFx0 (h' := upd _ 19 (some (.box (coD c (.v (.string (⟨((memZ c.mem).map fun x => UInt8.ofNat (x ^^^ w)).toArray⟩ : ByteArray))) (vU (c.r 1)) (.sl 1 (([] : List (List Wy)).map rowSet) false))))) rfl rfl (rfl) (trivial) ?_
      refine rEnd (n' := 33) rfl ?_
      refine cSeq ?_
      refine cReg rfl ?_
      refine rOk (d := 49) (x := .ptr 19 13) rfl rfl rfl ?_
      refine rNeed (d := 50) (x := .ptr 19 14) rfl rfl rfl (⟨by decide, by decide⟩) ?_
      refine rOk (d := 51) (x := vU (c.r 1)) rfl rfl rfl ?_
      refine rOk (d := 52) (x := .v (.int .u8 ((w : Nat) : Int))) rfl rfl rfl ?_
      refine rOk (d := 53) (x := vU w) rfl rfl (okI (modI hw rfl)) ?_
      have b2 : (c.r 1) ^^^ w ≤ 4294967295 := xorLe32 hr1 hw rfl rfl
      refine rOk (d := 54) (x := vU ((c.r 1) ^^^ w)) rfl rfl (okI (xorI32 hr1 hw rfl rfl)) ?_
      refine rOk (d := 55) (x := .ptr 19 13) rfl rfl rfl ?_
      refine rNeed (d := 56) (x := .ptr 19 14) rfl rfl rfl (⟨by decide, by decide⟩) ?_
      refine rFx0 (h' := upd _ 19 (some (.box (coD c (.v (.string (⟨((memZ c.mem).map fun x => UInt8.ofNat (x ^^^ w)).toArray⟩ : ByteArray))) (vU ((c.r 1) ^^^ w)) (.sl 1 (([] : List (List Wy)).map rowSet) false))))) rfl rfl (rfl) (trivial) ?_
      refine rEnd (n' := 42) rfl ?_
      refine cSeqG ?_
      refine cReg rfl ?_
      refine rOk (d := 57) (x := .sl 1 ([]) true) rfl rfl rfl ?_
      refine rOk (d := 58) (x := .ptr 0 51) rfl rfl rfl ?_
      refine rOk (d := 59) (x := .ptr 0 52) rfl rfl rfl ?_
      refine rOk (d := 60) (x := .sl 1 (([] : List (List Wy)).map rowSet) false) rfl rfl rfl ?_
      refine rNeed (d := 61) (x := .sl 1 ([]) true) rfl rfl rfl (⟨trivial, trivial⟩) ?_
      refine rOk (d := 62) (x := .ptr 19 51) rfl rfl rfl ?_
      refine rOk (d := 63) (x := .ptr 19 52) rfl rfl rfl ?_
      refine rFx0 (h' := upd _ 19 (some (.box (coD c (.v (.string (⟨((memZ c.mem).map fun x => UInt8.ofNat (x ^^^ w)).toArray⟩ : ByteArray))) (vU ((c.r 1) ^^^ w)) (.sl 1 ([]) true))))) rfl rfl (rfl) (trivial) ?_
      refine rEnd (n' := 50) rfl ?_
      refine .mk _ (.step none (Ghost.of_lists (l := [(1, .v (.int .u8 ((w : Nat) : Int))), (2, .ptr 0 0), (4, vB false), (27, vB (cond2 (cond2 (decide (c.retired.length > 200)) true (decide (c.bus.length > 50))) true (decide (c.mem.size > 600)))), (5, .ptr 19 0), (36, vB (decide (k < c.mem.size)))]) (hp := [(0, .box (coD c (.v (.string c.mem)) (vU (c.r 1)) (.sl 1 (([] : List (List Wy)).map rowSet) false))), (19, .box (coD c (.v (.string (⟨((memZ c.mem).map fun x => UInt8.ofNat (x ^^^ w)).toArray⟩ : ByteArray))) (vU ((c.r 1) ^^^ w)) (.sl 1 ([]) true)))]) trivial ⟨.refl _, .refl _, .refl _, .refl _, .refl _, .refl _, trivial⟩ ⟨⟨trivial, _, rfl, .refl _⟩, ⟨trivial, _, rfl, .refl _⟩, trivial⟩) (.refl _)) ?_
      refine cSeqG ?_
      refine cSeq ?_
      refine cReg rfl ?_
      refine rOk (d := 64) (x := .ptr 0 51) rfl rfl rfl ?_
      refine rOk (d := 65) (x := .ptr 0 52) rfl rfl rfl ?_
      refine rOk (d := 66) (x := .sl 1 (([] : List (List Wy)).map rowSet) false) rfl rfl rfl ?_
      refine rOk (d := 67) (x := vN 0) rfl rfl (lenMapN rowSet ([] : List (List Wy)) (by first | omega | rfl | (simp only [List.length_map, List.length_cons, List.length_nil, List.length_append, List.length_set, List.length_take, List.length_drop, List.length_replicate, List.length_range, capMax]; done) | (simp only [List.length_map, List.length_cons, List.length_nil, List.length_append, List.length_set, List.length_take, List.length_drop, List.length_replicate, List.length_range, capMax]; omega) | (simp [capMax]; done) | (simp [capMax]; omega))) ?_
      refine rOk (d := 68) (x := vI 0) rfl rfl rfl ?_
      refine rEnd (n' := 55) rfl ?_
      refine cBlock ?_
      refine cLoop (κ := Nat) (fun k => ⟨slotsF [(1, .v (.int .u8 ((w : Nat) : Int))), (2, .ptr 0 0), (5, .ptr 19 0), (66, .sl 1 (([] : List (List Wy)).map rowSet) false), (67, vN 0), (68, vN k)], heapF [(0, .box (coD c (.v (.string c.mem)) (vU (c.r 1)) (.sl 1 (([] : List (List Wy)).map rowSet) false))), (19, .box (coD c (.v (.string (⟨((memZ c.mem).map fun x => UInt8.ofNat (x ^^^ w)).toArray⟩ : ByteArray))) (vU ((c.r 1) ^^^ w)) (.sl 1 ([]) true)))], 55⟩) (fun k => k ≤ 0) (fun k => 0 - k) 0 (fun s => s) (Weak.of_lists (fun s => s) ⟨⟨rfl, rfl⟩, ⟨rfl, rfl⟩, ⟨rfl, rfl⟩, ⟨rfl, rfl⟩, ⟨rfl, rfl⟩, ⟨rfl, rfl⟩, trivial⟩ ⟨⟨rfl, rfl, rfl⟩, ⟨rfl, rfl, rfl⟩, trivial⟩ rfl) (Nat.zero_le _) ?_
      intro k hk
      have hkn : k ≤ 0 := hk
      have hkB : k ≤ 5864062014805 := by omega
      refine cSeq ?_
      refine cReg rfl ?_
      refine rOk (d := 69) (x := vB (decide (k < 0))) rfl rfl (okB (ltN _ _)) ?_
      refine rEnd (n' := 56) rfl ?_
      refine cSeq ?_
      refine cCond (v := decide (k < 0)) rfl (fun h3 => by exact absurd (of_decide_eq_true h3) (Nat.not_lt_zero _)) (fun _ => ?_)
      refine cExit ?_
      refine .mk _ (.step none (Ghost.of_lists (l := [(2, .ptr 0 0), (5, .ptr 19 0)]) (hp := [(0, .box (coD c (.v (.string c.mem)) (vU (c.r 1)) (.sl 1 (([] : List (List Wy)).map rowSet) false))), (19, .box (coD c (.v (.string (⟨((memZ c.mem).map fun x => UInt8.ofNat (x ^^^ w)).toArray⟩ : ByteArray))) (vU ((c.r 1) ^^^ w)) (.sl 1 ((([] : List (List Wy)).map (wS w)).map rowSet) false)))]) trivial ⟨.refl _, .refl _, trivial⟩ ⟨⟨trivial, _, rfl, .refl _⟩, ⟨trivial, _, rfl, (LeB.boxL ⟨.refl _, .refl _, .refl _, .refl _, .refl _, .refl _, .refl _, .refl _, .refl _, .refl _, .refl _, .refl _, .refl _, .refl _, .refl _, .refl _, .refl _, .refl _, .refl _, .refl _, .refl _, .refl _, .refl _, .refl _, .refl _, .refl _, .refl _, .refl _, .refl _, .refl _, .refl _, .refl _, .refl _, .refl _, .refl _, .refl _, .refl _, .refl _, .refl _, .refl _, .refl _, .refl _, .refl _, .refl _, .refl _, .refl _, .refl _, .refl _, .refl _, .refl _, .refl _, .refl _, .clip 1 [], .refl _, .refl _, .refl _, .refl _, .refl _, .refl _, .refl _, .refl _, .refl _, .refl _, .refl _, trivial⟩)⟩, trivial⟩) (.refl _)) ?_
      refine cSeq ?_
      refine cReg rfl ?_
      refine rCall (args := []) (d := 114) (x := vB true) rfl rfl rfl rfl (.inl rfl) rfl (dAlive) ?_
      refine rOk (d := 115) (x := vB true) rfl rfl rfl ?_
      refine gOk (d := 116) (x := .agg (coD c (.v (.string c.mem)) (vU (c.r 1)) (.sl 1 (([] : List (List Wy)).map rowSet) false))) (g := true) rfl rfl rfl rfl rfl rfl ?_
      refine gCallS (args := [.agg (coD c (.v (.string c.mem)) (vU (c.r 1)) (.sl 1 (([] : List (List Wy)).map rowSet) false)), vI 0]) (d := 117) (x := .agg (seL (seeP (withS c ([] : List (List Wy))) 0))) (g := true) rfl rfl rfl rfl (fun h => h) rfl rfl rfl (.inl rfl) rfl (fun hg => hK.1) ?_
      refine gOk (d := 118) (x := .agg (coD c (.v (.string (⟨((memZ c.mem).map fun x => UInt8.ofNat (x ^^^ w)).toArray⟩ : ByteArray))) (vU ((c.r 1) ^^^ w)) (.sl 1 ((([] : List (List Wy)).map (wS w)).map rowSet) false))) (g := true) rfl rfl rfl rfl rfl rfl ?_
      refine gCallS (args := [.agg (coD c (.v (.string (⟨((memZ c.mem).map fun x => UInt8.ofNat (x ^^^ w)).toArray⟩ : ByteArray))) (vU ((c.r 1) ^^^ w)) (.sl 1 ((([] : List (List Wy)).map (wS w)).map rowSet) false)), vI 0]) (d := 119) (x := .agg (seL (seeP (withS c ([] : List (List Wy))) 0))) (g := true) rfl rfl rfl rfl (fun h => h) rfl rfl rfl (.inl rfl) rfl (fun hg => (by have z := hK.2.1; rw [see_other] at z; exact z)) ?_
      refine gCallS (args := [.agg (seL (seeP (withS c ([] : List (List Wy))) 0)), .agg (seL (seeP (withS c ([] : List (List Wy))) 0))]) (d := 120) (x := vB (sameSe (seeP (withS c ([] : List (List Wy))) 0) (seeP (withS c ([] : List (List Wy))) 0))) (g := true) rfl rfl rfl rfl (fun h => by first | (simp_all; done) | exact (Bool.and_eq_true_iff.1 h).1 | exact Bool.and_eq_true_iff.2 ⟨h, h⟩) rfl rfl rfl (.inl rfl) rfl (fun hg => dSame _ _ hK.2.2 hK.2.2) ?_
      refine rNeed (d := 121) (x := vB (cond2 true (sameSe (seeP (withS c ([] : List (List Wy))) 0) (seeP (withS c ([] : List (List Wy))) 0)) false)) rfl rfl rfl (fun h => h) ?_
      refine rOk (d := 4) (x := vB (cond2 true (sameSe (seeP (withS c ([] : List (List Wy))) 0) (seeP (withS c ([] : List (List Wy))) 0)) false)) rfl rfl rfl ?_
      refine rEnd (n' := 65) rfl ?_
      refine cRet ?_
      exact finTA rfl trivial rfl (congrArg (fun z => AV.v (.bool z)) (by rw [sameSe_refl]; rfl))

theorem dWatchData (c : Co) (w : Nat) (hT : c.okT) (hw : w ≤ 255) (hr1 : c.r 1 ≤ 4294967295) (hLn : c.data.sets.length ≤ 5864062014805) (hLs : ∀ s ∈ c.data.sets, s.length ≤ 5864062014805) : DCall C0 8 [.agg (coL c), .v (.int .u8 ((w : Nat) : Int))] (vB true) := by
  have hLo : ∀ s ∈ c.data.sets, s.length ≤ 5864062014805 ∧ ∀ x ∈ s, x.ok := fun s hs => ⟨hLs s hs, (hT.data.set s hs).2⟩
  have key : c.bus.length ≤ 50 → c.retired.length ≤ 200 → DCall C0 23 [.agg (coL c), .v (.int .i64 0)] (.agg (seL (seeP c 0))) ∧ DCall C0 23 [.agg (coL (otherCo w c)), .v (.int .i64 0)] (.agg (seL (seeP (otherCo w c) 0))) ∧ (seeP c 0).ok := fun hb hr =>
    ⟨dSee c 0 (hT.w hb hr), dSee (otherCo w c) 0 ⟨otherCa_ok hT.data, hT.words, by show c.bus.length ≤ _; omega, hT.busr, by show c.retired.length ≤ _; omega, hT.retr⟩, see_ok c 0 hb hr⟩
  obtain ⟨L, hL⟩ : ∃ L, c.data.sets = L := ⟨_, rfl⟩
  have hc : c = withS c L := by subst hL; rfl
  cases L with
  | nil => rw [hL] at hLn hLo; rw [hc] at key ⊢; exact dData0 c w hw hT.ret hT.bus hr1 hLn hLo key
  | cons s0 tl => rw [hL] at hLn hLo; rw [hc] at key ⊢; exact dData1 c w s0 tl hw hT.ret hT.bus hr1 hLn hLo key
end Go.Proofs.Ytckjihpdjefpgaa
