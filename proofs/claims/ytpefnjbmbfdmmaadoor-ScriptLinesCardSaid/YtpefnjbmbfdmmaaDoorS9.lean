/- Joined texts. -/
import Derived.Test.YtpefnjbmbfdmmaaDoorS7
import Derived.Test.YtpefnjbmbfdmmaaDoorS8
namespace Go.Proofs.YtpefnjbmbfdmmaaDoor
set_option maxRecDepth 100000
set_option maxHeartbeats 4000000
open Go.RowKit
structure Cf where
  mode : Int
  width : Int
  rob : Int
  queue : Int
  stores : Int
  slots : Int
  sets : Int
  ways : Int
  lat : List Int
  tables : Bool
  tape : List Nat
def clampI (n lo hi : Int) : Int := if (if n < lo then lo else n) > hi then hi else (if n < lo then lo else n)
def cleanCf (c : Cf) : Cf :=
  { mode := clampI c.mode 0 2, width := clampI c.width 1 2, rob := clampI c.rob 2 8, queue := clampI c.queue 1 4, stores := clampI c.stores 1 4, slots := clampI c.slots 2 6
    sets := if clampI c.sets 1 4 = 3 then 2 else clampI c.sets 1 4, ways := clampI c.ways 1 2
    lat := (c.lat.take 64).map fun n => clampI n 1 8, tables := c.tables, tape := c.tape.take 64 }
abbrev cfL (c : Cf) (cl ct : Bool) : List AV := [.v (.int .i64 c.mode), .v (.int .i64 c.width), .v (.int .i64 c.rob), .v (.int .i64 c.queue), .v (.int .i64 c.stores), .v (.int .i64 c.slots), .v (.int .i64 c.sets), .v (.int .i64 c.ways), .sl 1 (c.lat.map rowI) cl, .v (.bool c.tables), .sl 1 (c.tape.map rowU) ct]
structure Cf.ok (c : Cf) : Prop where
  lat : c.lat.length ≤ 9223372036854775807
  tape : c.tape.length ≤ 9223372036854775807
  tp : ∀ x ∈ c.tape, x ≤ 4294967295
theorem hBring (cells : List AV) (col : Nat) (n lo hi : Int) (hn : nthO cells col = some (.v (.int .i64 n))) (hc : col + 1 ≤ cells.length) (hcl : closedL (putL col [.v (.int .i64 (clampI n lo hi))] cells) = true) :
    HSem C0.P C0.G 39 [.ptr 0 col, .v (.int .i64 lo), .v (.int .i64 hi)] (heapF [(0, .box cells)]) 1 (fun x h' => x = .tup [] ∧ h' = heapF [(0, .box (putL col [.v (.int .i64 (clampI n lo hi))] cells))]) := by
  refine HCall.intro (C := C0) (s := 1) c0Ok.at Tryd.func39 rfl rfl (by kernel_rfl) rfl rfl <| cReg rfl <| oR 3 rfl <| rOk (x := .v (.int .i64 n)) rfl rfl (by show okO (nthO cells col) = _; rw [hn]; rfl) <| oR 1 rfl <| rOk (x := .v (.int .i64 (if lo > n then lo else n))) rfl rfl rfl <| oR 1 rfl <| rOk (x := .v (.int .i64 (if hi < (if lo > n then lo else n) then hi else (if lo > n then lo else n)))) rfl rfl rfl <| oR 1 rfl ?_
  have hb : Nat.ble (col + 1) cells.length = true := Nat.ble_eq_true_of_le hc
  refine rFx0 (p := True) (h' := upd _ 0 (some (.box (putL col [.v (.int .i64 (clampI n lo hi))] cells)))) rfl rfl (by
    show (match Nat.ble (col + 1) cells.length with | true => Res.fx True .any (upd _ 0 (some (.box (putL col [.v (.int .i64 (if hi < (if lo > n then lo else n) then hi else (if lo > n then lo else n)))] cells)))) | false => .bad) = _
    rw [hb]
    rfl) trivial ?_
  refine rE 11 ?_
  exact finH (rs := []) rfl (σ := fun s => s) ⟨rfl, rfl⟩ rfl (weak_ret (fun s => s) rfl rfl ⟨⟨rfl, boxM _ hcl, boxB _ hcl⟩, trivial⟩ rfl)
theorem bringAt {cells cells' : List AV} {b col : Nat} {n lo hi : Int} {K : AH} {s2 : Nat} (hn : nthO cells col = some (.v (.int .i64 n))) (hc : Nat.ble (col + 1) cells.length = true) (he : putL col [.v (.int .i64 (clampI n lo hi))] cells = cells') (hcl : closedL cells = true) (hcl' : closedL cells' = true) (hb : Nat.blt b s2 = true) (hK : K b = some (.box cells)) :
    HSem C0.P C0.G 39 [.ptr b col, .v (.int .i64 lo), .v (.int .i64 hi)] K s2 (fun x h' => x = .tup [] ∧ h' = upd K b (some (.box cells'))) := by
  subst he
  have := (hBring cells col n lo hi hn (Nat.le_of_ble_eq_true hc) hcl').frame1 b K s2 (Nat.le_of_ble_eq_true hb) (boxB 1 hcl) (by rw [hK]; exact boxM _ hcl) rfl
  rw [← boxM (newN (fun _ => b) 1 s2) hcl'] at this
  exact this
theorem hBring2 (rows : List (List AV)) (k : Nat) (n lo hi : Int) (hn : rows[k]? = some [.v (.int .i64 n)]) :
    HSem C0.P C0.G 39 [.ptr2 0 k 0, .v (.int .i64 lo), .v (.int .i64 hi)] (heapF [(0, .arr rows 1)]) 1 (fun x h' => x = .tup [] ∧ h' = heapF [(0, .arr (rows.set k [.v (.int .i64 (clampI n lo hi))]) 1)]) := by
  refine HCall.intro (C := C0) (s := 1) c0Ok.at Tryd.func39 rfl rfl (by kernel_rfl) rfl rfl <| cReg rfl <| oR 3 rfl <| rIdx [.v (.int .i64 n)] (x := .v (.int .i64 n)) rfl rfl rfl ⟨Int.natCast_nonneg _, hn⟩ rfl <| oR 1 rfl <| rOk (x := .v (.int .i64 (if lo > n then lo else n))) rfl rfl rfl <| oR 1 rfl <| rOk (x := .v (.int .i64 (if hi < (if lo > n then lo else n) then hi else (if lo > n then lo else n)))) rfl rfl rfl <| oR 1 rfl <| rIdxFx [.v (.int .i64 n)] (h' := upd _ 0 (some (.arr (rows.set k [.v (.int .i64 (clampI n lo hi))]) 1))) rfl rfl rfl ⟨Int.natCast_nonneg _, hn⟩ rfl <| rE 11 ?_
  exact finH (rs := []) rfl (σ := fun s => s) ⟨rfl, rfl⟩ rfl (weak_ret (fun s => s) rfl rfl wH rfl)
theorem bringAt2 {rows rows' : List (List AV)} {b k : Nat} {n lo hi : Int} {K : AH} {s2 : Nat} (hn : rows[k]? = some [.v (.int .i64 n)]) (he : rows.set k [.v (.int .i64 (clampI n lo hi))] = rows') (hb : Nat.blt b s2 = true) (hK : K b = some (.arr rows 1)) :
    HSem C0.P C0.G 39 [.ptr2 b k 0, .v (.int .i64 lo), .v (.int .i64 hi)] K s2 (fun x h' => x = .tup [] ∧ h' = upd K b (some (.arr rows' 1))) := by
  subst he
  exact (hBring2 rows k n lo hi hn).frame1 b K s2 (Nat.le_of_ble_eq_true hb) rfl hK rfl
theorem copy_rows {α : Type} (f : α → List AV) (l : List α) (z : List AV) (n : Nat) (hn : n = min l.length 64) : (List.replicate n z).take 0 ++ (l.map f).take (min (l.map f).length n) ++ (List.replicate n z).drop (0 + min (l.map f).length n) = (l.take 64).map f := by
  subst hn
  rw [List.length_map, List.take_zero, List.nil_append, List.drop_of_length_le (by rw [List.length_replicate]; omega), List.append_nil, ← List.map_take]
  congr 1
  rcases Nat.le_total l.length 64 with h | h
  · rw [List.take_of_length_le (by omega), List.take_of_length_le (by omega)]
  · congr 1; omega
def latR (c : Cf) (k : Nat) : List (List AV) := ((((c.lat.take 64).take k).map fun n => clampI n 1 8) ++ (c.lat.take 64).drop k).map rowI
theorem latR_end (c : Cf) (k : Nat) (h : (c.lat.take 64).length ≤ k) : latR c k = (cleanCf c).lat.map rowI := by
  unfold latR cleanCf
  rw [List.take_of_length_le h, List.drop_of_length_le h, List.append_nil]
theorem latR_get {c : Cf} {k : Nat} {x : Int} (hx : (c.lat.take 64)[k]? = some x) : (latR c k)[k]? = some (rowI x) := by
  have hk := (List.getElem?_eq_some_iff.1 hx).1
  unfold latR
  rw [List.getElem?_map, List.getElem?_append_right (by simp; omega)]
  simp only [List.length_map, List.length_take]
  rw [List.getElem?_drop, show k + (k - min k (min 64 c.lat.length)) = k by have : k < (c.lat.take 64).length := hk; rw [List.length_take] at this; omega, hx]
  rfl
theorem latR_set {c : Cf} {k : Nat} {x : Int} (hx : (c.lat.take 64)[k]? = some x) : (latR c k).set k [.v (.int .i64 (clampI x 1 8))] = latR c (k + 1) := by
  unfold latR
  generalize c.lat.take 64 = l at hx ⊢
  have hk := (List.getElem?_eq_some_iff.1 hx).1
  have hl : ((l.take k).map fun n => clampI n 1 8).length = k := by rw [List.length_map, List.length_take]; omega
  have hx' : l[k] = x := by rw [List.getElem?_eq_getElem hk] at hx; exact Option.some.inj hx
  rw [show ([.v (.int .i64 (clampI x 1 8))] : List AV) = rowI (clampI x 1 8) from rfl, ← List.map_set, List.set_append_right _ _ (by omega), hl, Nat.sub_self, List.drop_eq_getElem_cons hk, List.set_cons_zero, List.take_add_one, hx]
  simp
theorem latR_len (c : Cf) (k : Nat) (h : k ≤ (c.lat.take 64).length) : (latR c k).length = (c.lat.take 64).length := by
  unfold latR
  simp only [List.length_map, List.length_append, List.length_drop]
  rw [List.length_take_of_le h]
  omega
theorem cp_eq {p : Prop} {x : AV} {h : AH} {b rs : Nat} {r r' : List (List AV)} (e : r = r') : Res.fx p x (upd h b (some (.arr r rs))) = .fx p x (upd h b (some (.arr r' rs))) := by rw [e]
theorem dCleanCf (c : Cf) (cl ct : Bool) (hok : c.ok) : DCall C0 18 [.agg (cfL c cl ct)] (.agg (cfL (cleanCf c) false false)) := by
  refine DCall.intro c0Ok Tryd.func18 rfl rfl (by kernel_rfl) rfl <| cSeq <| cReg rfl <| rAl 0 rfl rfl <| rAl 1 rfl rfl <| rE 2 <| cSeq <| cReg rfl <| oR 1 rfl <| rE 3 <| cSeq <| cReg rfl <| oR 2 rfl <| rHCall (args := [.ptr 0 0, vI 0, vI 2]) (d := 9) _ rfl rfl rfl (bringAt (cells := [vI c.mode, vI c.width, vI c.rob, vI c.queue, vI c.stores, vI c.slots, vI c.sets, vI c.ways, .sl 1 (c.lat.map rowI) cl, vB c.tables, .sl 1 (c.tape.map rowU) ct]) (cells' := [vI (clampI c.mode 0 2), vI c.width, vI c.rob, vI c.queue, vI c.stores, vI c.slots, vI c.sets, vI c.ways, .sl 1 (c.lat.map rowI) cl, vB c.tables, .sl 1 (c.tape.map rowU) ct]) rfl rfl rfl rfl rfl rfl rfl) ?_
  rintro _ _ ⟨rfl, rfl⟩
  refine rE 6 <| cSeq <| cReg rfl <| oR 2 rfl <| rHCall (args := [.ptr 0 1, vI 1, vI 2]) (d := 12) _ rfl rfl rfl (bringAt (cells := [vI (clampI c.mode 0 2), vI c.width, vI c.rob, vI c.queue, vI c.stores, vI c.slots, vI c.sets, vI c.ways, .sl 1 (c.lat.map rowI) cl, vB c.tables, .sl 1 (c.tape.map rowU) ct]) (cells' := [vI (clampI c.mode 0 2), vI (clampI c.width 1 2), vI c.rob, vI c.queue, vI c.stores, vI c.slots, vI c.sets, vI c.ways, .sl 1 (c.lat.map rowI) cl, vB c.tables, .sl 1 (c.tape.map rowU) ct]) rfl rfl rfl rfl rfl rfl rfl) ?_
  rintro _ _ ⟨rfl, rfl⟩
  refine rE 9 <| cSeq <| cReg rfl <| oR 2 rfl <| rHCall (args := [.ptr 0 2, vI 2, vI 8]) (d := 15) _ rfl rfl rfl (bringAt (cells := [vI (clampI c.mode 0 2), vI (clampI c.width 1 2), vI c.rob, vI c.queue, vI c.stores, vI c.slots, vI c.sets, vI c.ways, .sl 1 (c.lat.map rowI) cl, vB c.tables, .sl 1 (c.tape.map rowU) ct]) (cells' := [vI (clampI c.mode 0 2), vI (clampI c.width 1 2), vI (clampI c.rob 2 8), vI c.queue, vI c.stores, vI c.slots, vI c.sets, vI c.ways, .sl 1 (c.lat.map rowI) cl, vB c.tables, .sl 1 (c.tape.map rowU) ct]) rfl rfl rfl rfl rfl rfl rfl) ?_
  rintro _ _ ⟨rfl, rfl⟩
  refine rE 12 <| cSeq <| cReg rfl <| oR 2 rfl <| rHCall (args := [.ptr 0 3, vI 1, vI 4]) (d := 18) _ rfl rfl rfl (bringAt (cells := [vI (clampI c.mode 0 2), vI (clampI c.width 1 2), vI (clampI c.rob 2 8), vI c.queue, vI c.stores, vI c.slots, vI c.sets, vI c.ways, .sl 1 (c.lat.map rowI) cl, vB c.tables, .sl 1 (c.tape.map rowU) ct]) (cells' := [vI (clampI c.mode 0 2), vI (clampI c.width 1 2), vI (clampI c.rob 2 8), vI (clampI c.queue 1 4), vI c.stores, vI c.slots, vI c.sets, vI c.ways, .sl 1 (c.lat.map rowI) cl, vB c.tables, .sl 1 (c.tape.map rowU) ct]) rfl rfl rfl rfl rfl rfl rfl) ?_
  rintro _ _ ⟨rfl, rfl⟩
  refine rE 15 <| cSeq <| cReg rfl <| oR 2 rfl <| rHCall (args := [.ptr 0 4, vI 1, vI 4]) (d := 21) _ rfl rfl rfl (bringAt (cells := [vI (clampI c.mode 0 2), vI (clampI c.width 1 2), vI (clampI c.rob 2 8), vI (clampI c.queue 1 4), vI c.stores, vI c.slots, vI c.sets, vI c.ways, .sl 1 (c.lat.map rowI) cl, vB c.tables, .sl 1 (c.tape.map rowU) ct]) (cells' := [vI (clampI c.mode 0 2), vI (clampI c.width 1 2), vI (clampI c.rob 2 8), vI (clampI c.queue 1 4), vI (clampI c.stores 1 4), vI c.slots, vI c.sets, vI c.ways, .sl 1 (c.lat.map rowI) cl, vB c.tables, .sl 1 (c.tape.map rowU) ct]) rfl rfl rfl rfl rfl rfl rfl) ?_
  rintro _ _ ⟨rfl, rfl⟩
  refine rE 18 <| cSeq <| cReg rfl <| oR 2 rfl <| rHCall (args := [.ptr 0 5, vI 2, vI 6]) (d := 24) _ rfl rfl rfl (bringAt (cells := [vI (clampI c.mode 0 2), vI (clampI c.width 1 2), vI (clampI c.rob 2 8), vI (clampI c.queue 1 4), vI (clampI c.stores 1 4), vI c.slots, vI c.sets, vI c.ways, .sl 1 (c.lat.map rowI) cl, vB c.tables, .sl 1 (c.tape.map rowU) ct]) (cells' := [vI (clampI c.mode 0 2), vI (clampI c.width 1 2), vI (clampI c.rob 2 8), vI (clampI c.queue 1 4), vI (clampI c.stores 1 4), vI (clampI c.slots 2 6), vI c.sets, vI c.ways, .sl 1 (c.lat.map rowI) cl, vB c.tables, .sl 1 (c.tape.map rowU) ct]) rfl rfl rfl rfl rfl rfl rfl) ?_
  rintro _ _ ⟨rfl, rfl⟩
  refine rE 21 <| cSeq <| cReg rfl <| oR 2 rfl <| rHCall (args := [.ptr 0 6, vI 1, vI 4]) (d := 27) _ rfl rfl rfl (bringAt (cells := [vI (clampI c.mode 0 2), vI (clampI c.width 1 2), vI (clampI c.rob 2 8), vI (clampI c.queue 1 4), vI (clampI c.stores 1 4), vI (clampI c.slots 2 6), vI c.sets, vI c.ways, .sl 1 (c.lat.map rowI) cl, vB c.tables, .sl 1 (c.tape.map rowU) ct]) (cells' := [vI (clampI c.mode 0 2), vI (clampI c.width 1 2), vI (clampI c.rob 2 8), vI (clampI c.queue 1 4), vI (clampI c.stores 1 4), vI (clampI c.slots 2 6), vI (clampI c.sets 1 4), vI c.ways, .sl 1 (c.lat.map rowI) cl, vB c.tables, .sl 1 (c.tape.map rowU) ct]) rfl rfl rfl rfl rfl rfl rfl) ?_
  rintro _ _ ⟨rfl, rfl⟩
  refine rE 24 <| cSeq <| cSeq <| cReg rfl <| oR 2 rfl <| rOk (x := vB ((clampI c.sets 1 4) == 3)) rfl rfl rfl <| rE 27 ?_
  refine cCond rfl (fun h1 => ?_) (fun h1 => ?_)
  · refine cReg rfl <| oR 1 rfl <| rSt rfl <| rE 29 <| cSeq <| cReg rfl <| oR 2 rfl <| rHCall (args := [.ptr 0 7, vI 1, vI 2]) (d := 34) _ rfl rfl rfl (bringAt (cells := [vI (clampI c.mode 0 2), vI (clampI c.width 1 2), vI (clampI c.rob 2 8), vI (clampI c.queue 1 4), vI (clampI c.stores 1 4), vI (clampI c.slots 2 6), vI 2, vI c.ways, .sl 1 (c.lat.map rowI) cl, vB c.tables, .sl 1 (c.tape.map rowU) ct]) (cells' := [vI (clampI c.mode 0 2), vI (clampI c.width 1 2), vI (clampI c.rob 2 8), vI (clampI c.queue 1 4), vI (clampI c.stores 1 4), vI (clampI c.slots 2 6), vI 2, vI (clampI c.ways 1 2), .sl 1 (c.lat.map rowI) cl, vB c.tables, .sl 1 (c.tape.map rowU) ct]) rfl rfl rfl rfl rfl rfl rfl) ?_
    rintro _ _ ⟨rfl, rfl⟩
    refine rE 32 <| cSeq <| cReg rfl <| oR 2 rfl <| rOk (x := vN c.lat.length) rfl rfl (lenMap rowI c.lat) <| rOk (x := vN (min c.lat.length 64)) rfl rfl (minN64 c.lat.length 64) <| rFx (x := .osl 36 0 (min c.lat.length 64) false) (h' := upd _ 36 (some (.arr (List.replicate (min c.lat.length 64) [vI 0]) 1))) rfl rfl (rfl) (⟨Int.natCast_nonneg _, Int.le_refl _, by show (((min c.lat.length 64) : Nat) : Int) ≤ 1000000; have := (Nat.le_trans (Nat.min_le_right c.lat.length 64) (Nat.le_refl 64)); omega⟩) <| oR 1 rfl <| rE 38 <| cSeq <| cReg rfl <| oR 3 rfl <| rFx (x := vI ((min (c.lat.map rowI).length (min c.lat.length 64) : Nat) : Int)) (h' := upd _ 36 (some (.arr (latR c 0) 1))) rfl rfl (cp_eq (copy_rows rowI c.lat [.v (.int .i64 0)] _ rfl)) (⟨by simp, trivial⟩) <| rE 42 <| cSeq <| cSeq ?_
    refine cReg rfl <| oR 1 rfl <| rOk (x := vN (min c.lat.length 64)) rfl rfl rfl <| oR 1 rfl <| rE 45 <| cBlock <| cLoop (κ := Nat) (fun k => ⟨slotsF [(1, .ptr 0 0), (2, .ptr 1 0), (3, .clo 39 [] []), (4, .osl 36 0 (min c.lat.length 64) false), (45, vN (min c.lat.length 64)), (46, vN k)], heapF [(0, .box [vI (clampI c.mode 0 2), vI (clampI c.width 1 2), vI (clampI c.rob 2 8), vI (clampI c.queue 1 4), vI (clampI c.stores 1 4), vI (clampI c.slots 2 6), vI 2, vI (clampI c.ways 1 2), .sl 1 (c.lat.map rowI) cl, vB c.tables, .sl 1 (c.tape.map rowU) ct]), (1, .box [vI 0, vI 0, vI 0, vI 0, vI 0, vI 0, vI 0, vI 0, .sl 0 ([]) true, vB false, .sl 0 ([]) true]), (36, .arr (latR c k) 1)], 45⟩) (fun k => k ≤ min c.lat.length 64) (fun k => min c.lat.length 64 - k) 0 (fun s => s) (Weak.of_lists (fun s => s) wT wH rfl) (Nat.zero_le _) ?_
    intro k hk
    have hkB : k ≤ 1000000 := by omega
    refine cSeq <| cReg rfl <| rOk (x := vB (decide (k < (min c.lat.length 64)))) rfl rfl (okB (ltN _ _)) <| rE 46 <| cSeq ?_
    refine cCond rfl (fun h2 => ?_) (fun h2 => ?_)
    · refine cSkip <| cSeq <| cBlock <| cSeq <| cReg rfl <| oR 2 rfl <| rE 48 <| cReg rfl <| oR 3 rfl ?_
      have hkl : k < (c.lat.take 64).length := by have := of_decide_eq_true h2; rw [List.length_take]; omega
      obtain ⟨x, hx⟩ : ∃ x, (c.lat.take 64)[k]? = some x := ⟨_, List.getElem?_eq_getElem hkl⟩
      have hxk : (latR c k)[0 + k]? = some [.v (.int .i64 x)] := by rw [Nat.zero_add]; exact latR_get hx
      refine rNeed (x := .ptr2 36 (0 + k) 0) rfl rfl rfl (⟨Int.natCast_nonneg _, by show ((k : Nat) : Int) < ((min c.lat.length 64 : Nat) : Int); have := of_decide_eq_true h2; omega⟩) <| rHCall (args := [.ptr2 36 (0 + k) 0, vI 1, vI 8]) (d := 53) _ rfl rfl rfl (bringAt2 (rows := latR c k) (rows' := latR c (k + 1)) (k := 0 + k) (n := x) hxk ((Nat.zero_add k).symm ▸ latR_set hx) rfl rfl) ?_
      rintro _ _ ⟨rfl, rfl⟩
      refine rE 53 <| cReg rfl ?_
      have b1 : k + 1 ≤ 1000001 := Nat.add_le_add hkB (Nat.le_refl 1)
      refine rOk (x := vN (k + 1)) rfl rfl (okI (wrapI64 b1 rfl)) <| oR 1 rfl <| rE 55 ?_
      refine ⟨k + 1, fun s => s, Weak.of_lists (fun s => s) wT wH rfl, by have := of_decide_eq_true h2; omega, by have := of_decide_eq_true h2; show min c.lat.length 64 - (k + 1) < min c.lat.length 64 - k; omega⟩
    · refine cExit <| cSeq <| cReg rfl <| oR 2 rfl <| rOk (x := vN c.tape.length) rfl rfl (lenMap rowU c.tape) <| rOk (x := vN (min c.tape.length 64)) rfl rfl (minN64 c.tape.length 64) <| rFx (x := .osl 50 0 (min c.tape.length 64) false) (h' := upd _ 50 (some (.arr (List.replicate (min c.tape.length 64) [.v (.int .u32 0)]) 1))) rfl rfl (rfl) (⟨Int.natCast_nonneg _, Int.le_refl _, by show (((min c.tape.length 64) : Nat) : Int) ≤ 1000000; have := (Nat.le_trans (Nat.min_le_right c.tape.length 64) (Nat.le_refl 64)); omega⟩) <| oR 1 rfl <| rE 52 <| cSeq <| cReg rfl <| oR 3 rfl <| rFx (x := vI ((min (c.tape.map rowU).length (min c.tape.length 64) : Nat) : Int)) (h' := upd _ 50 (some (.arr ((c.tape.take 64).map rowU) 1))) rfl rfl (cp_eq (copy_rows rowU c.tape [.v (.int .u32 0)] _ rfl)) (⟨by simp, trivial⟩) <| rE 56 <| cSeq <| cReg rfl ?_
      refine oR 3 rfl <| rSt rfl <| oR 1 rfl <| rSt rfl <| rE 62 <| cSeq <| cReg rfl <| oR 1 rfl <| rSt rfl <| rE 64 <| cRet ?_
      have hk2 : (c.lat.take 64).length ≤ k := by rw [List.length_take]; have := of_decide_eq_false h2; omega
      have hll := latR_len c k (by rw [List.length_take]; omega)
      have e1 : List.take (min c.lat.length 64) (List.drop 0 (latR c k)) = (cleanCf c).lat.map rowI := by rw [List.drop_zero, List.take_of_length_le (by rw [hll, List.length_take]; omega), latR_end c k hk2]
      have e2 : List.take (min c.tape.length 64) (List.drop 0 ((c.tape.take 64).map rowU)) = (cleanCf c).tape.map rowU := by rw [List.drop_zero, List.take_of_length_le (by rw [List.length_map, List.length_take]; omega)]; rfl
      have e3 : (cleanCf c).sets = 2 := if_pos (by simpa using h1)
      refine finTA rfl ⟨trivial, trivial, trivial, trivial, trivial, trivial, trivial, trivial, by show 0 + min c.lat.length 64 ≤ (latR c k).length; rw [hll, List.length_take]; omega, trivial, by show 0 + min c.tape.length 64 ≤ ((c.tape.take 64).map rowU).length; rw [List.length_map, List.length_take]; omega, trivial⟩ rfl ?_
      show AV.agg [vI (clampI c.mode 0 2), vI (clampI c.width 1 2), vI (clampI c.rob 2 8), vI (clampI c.queue 1 4), vI (clampI c.stores 1 4), vI (clampI c.slots 2 6), vI 2, vI (clampI c.ways 1 2), .sl 1 (List.take (min c.lat.length 64) (List.drop 0 (latR c k))) false, vB c.tables, .sl 1 (List.take (min c.tape.length 64) (List.drop 0 ((c.tape.take 64).map rowU))) false] = AV.agg (cfL (cleanCf c) false false)
      rw [e1, e2]
      show _ = AV.agg [vI (cleanCf c).mode, vI (cleanCf c).width, vI (cleanCf c).rob, vI (cleanCf c).queue, vI (cleanCf c).stores, vI (cleanCf c).slots, vI (cleanCf c).sets, vI (cleanCf c).ways, .sl 1 ((cleanCf c).lat.map rowI) false, vB (cleanCf c).tables, .sl 1 ((cleanCf c).tape.map rowU) false]
      rw [e3]
      rfl
  · refine cSkip <| cSeq <| cReg rfl <| oR 2 rfl <| rHCall (args := [.ptr 0 7, vI 1, vI 2]) (d := 34) _ rfl rfl rfl (bringAt (cells := [vI (clampI c.mode 0 2), vI (clampI c.width 1 2), vI (clampI c.rob 2 8), vI (clampI c.queue 1 4), vI (clampI c.stores 1 4), vI (clampI c.slots 2 6), vI (clampI c.sets 1 4), vI c.ways, .sl 1 (c.lat.map rowI) cl, vB c.tables, .sl 1 (c.tape.map rowU) ct]) (cells' := [vI (clampI c.mode 0 2), vI (clampI c.width 1 2), vI (clampI c.rob 2 8), vI (clampI c.queue 1 4), vI (clampI c.stores 1 4), vI (clampI c.slots 2 6), vI (clampI c.sets 1 4), vI (clampI c.ways 1 2), .sl 1 (c.lat.map rowI) cl, vB c.tables, .sl 1 (c.tape.map rowU) ct]) rfl rfl rfl rfl rfl rfl rfl) ?_
    rintro _ _ ⟨rfl, rfl⟩
    refine rE 30 <| cSeq <| cReg rfl <| oR 2 rfl <| rOk (x := vN c.lat.length) rfl rfl (lenMap rowI c.lat) <| rOk (x := vN (min c.lat.length 64)) rfl rfl (minN64 c.lat.length 64) <| rFx (x := .osl 34 0 (min c.lat.length 64) false) (h' := upd _ 34 (some (.arr (List.replicate (min c.lat.length 64) [vI 0]) 1))) rfl rfl (rfl) (⟨Int.natCast_nonneg _, Int.le_refl _, by show (((min c.lat.length 64) : Nat) : Int) ≤ 1000000; have := (Nat.le_trans (Nat.min_le_right c.lat.length 64) (Nat.le_refl 64)); omega⟩) <| oR 1 rfl <| rE 36 <| cSeq <| cReg rfl <| oR 3 rfl <| rFx (x := vI ((min (c.lat.map rowI).length (min c.lat.length 64) : Nat) : Int)) (h' := upd _ 34 (some (.arr (latR c 0) 1))) rfl rfl (cp_eq (copy_rows rowI c.lat [.v (.int .i64 0)] _ rfl)) (⟨by simp, trivial⟩) <| rE 40 <| cSeq <| cSeq ?_
    refine cReg rfl <| oR 1 rfl <| rOk (x := vN (min c.lat.length 64)) rfl rfl rfl <| oR 1 rfl <| rE 43 <| cBlock <| cLoop (κ := Nat) (fun k => ⟨slotsF [(1, .ptr 0 0), (2, .ptr 1 0), (3, .clo 39 [] []), (4, .osl 34 0 (min c.lat.length 64) false), (45, vN (min c.lat.length 64)), (46, vN k)], heapF [(0, .box [vI (clampI c.mode 0 2), vI (clampI c.width 1 2), vI (clampI c.rob 2 8), vI (clampI c.queue 1 4), vI (clampI c.stores 1 4), vI (clampI c.slots 2 6), vI (clampI c.sets 1 4), vI (clampI c.ways 1 2), .sl 1 (c.lat.map rowI) cl, vB c.tables, .sl 1 (c.tape.map rowU) ct]), (1, .box [vI 0, vI 0, vI 0, vI 0, vI 0, vI 0, vI 0, vI 0, .sl 0 ([]) true, vB false, .sl 0 ([]) true]), (34, .arr (latR c k) 1)], 43⟩) (fun k => k ≤ min c.lat.length 64) (fun k => min c.lat.length 64 - k) 0 (fun s => s) (Weak.of_lists (fun s => s) wT wH rfl) (Nat.zero_le _) ?_
    intro k hk
    have hkB : k ≤ 1000000 := by omega
    refine cSeq <| cReg rfl <| rOk (x := vB (decide (k < (min c.lat.length 64)))) rfl rfl (okB (ltN _ _)) <| rE 44 <| cSeq ?_
    refine cCond rfl (fun h3 => ?_) (fun h3 => ?_)
    · refine cSkip <| cSeq <| cBlock <| cSeq <| cReg rfl <| oR 2 rfl <| rE 46 <| cReg rfl <| oR 3 rfl ?_
      have hkl : k < (c.lat.take 64).length := by have := of_decide_eq_true h3; rw [List.length_take]; omega
      obtain ⟨x, hx⟩ : ∃ x, (c.lat.take 64)[k]? = some x := ⟨_, List.getElem?_eq_getElem hkl⟩
      have hxk : (latR c k)[0 + k]? = some [.v (.int .i64 x)] := by rw [Nat.zero_add]; exact latR_get hx
      refine rNeed (x := .ptr2 34 (0 + k) 0) rfl rfl rfl (⟨Int.natCast_nonneg _, by show ((k : Nat) : Int) < ((min c.lat.length 64 : Nat) : Int); have := of_decide_eq_true h3; omega⟩) <| rHCall (args := [.ptr2 34 (0 + k) 0, vI 1, vI 8]) (d := 53) _ rfl rfl rfl (bringAt2 (rows := latR c k) (rows' := latR c (k + 1)) (k := 0 + k) (n := x) hxk ((Nat.zero_add k).symm ▸ latR_set hx) rfl rfl) ?_
      rintro _ _ ⟨rfl, rfl⟩
      refine rE 51 <| cReg rfl ?_
      have b2 : k + 1 ≤ 1000001 := Nat.add_le_add hkB (Nat.le_refl 1)
      refine rOk (x := vN (k + 1)) rfl rfl (okI (wrapI64 b2 rfl)) <| oR 1 rfl <| rE 53 ?_
      refine ⟨k + 1, fun s => s, Weak.of_lists (fun s => s) wT wH rfl, by have := of_decide_eq_true h3; omega, by have := of_decide_eq_true h3; show min c.lat.length 64 - (k + 1) < min c.lat.length 64 - k; omega⟩
    · refine cExit <| cSeq <| cReg rfl <| oR 2 rfl <| rOk (x := vN c.tape.length) rfl rfl (lenMap rowU c.tape) <| rOk (x := vN (min c.tape.length 64)) rfl rfl (minN64 c.tape.length 64) <| rFx (x := .osl 48 0 (min c.tape.length 64) false) (h' := upd _ 48 (some (.arr (List.replicate (min c.tape.length 64) [.v (.int .u32 0)]) 1))) rfl rfl (rfl) (⟨Int.natCast_nonneg _, Int.le_refl _, by show (((min c.tape.length 64) : Nat) : Int) ≤ 1000000; have := (Nat.le_trans (Nat.min_le_right c.tape.length 64) (Nat.le_refl 64)); omega⟩) <| oR 1 rfl <| rE 50 <| cSeq <| cReg rfl <| oR 3 rfl <| rFx (x := vI ((min (c.tape.map rowU).length (min c.tape.length 64) : Nat) : Int)) (h' := upd _ 48 (some (.arr ((c.tape.take 64).map rowU) 1))) rfl rfl (cp_eq (copy_rows rowU c.tape [.v (.int .u32 0)] _ rfl)) (⟨by simp, trivial⟩) <| rE 54 <| cSeq <| cReg rfl ?_
      refine oR 3 rfl <| rSt rfl <| oR 1 rfl <| rSt rfl <| rE 60 <| cSeq <| cReg rfl <| oR 1 rfl <| rSt rfl <| rE 62 <| cRet ?_
      have hk2 : (c.lat.take 64).length ≤ k := by rw [List.length_take]; have := of_decide_eq_false h3; omega
      have hll := latR_len c k (by rw [List.length_take]; omega)
      have e1 : List.take (min c.lat.length 64) (List.drop 0 (latR c k)) = (cleanCf c).lat.map rowI := by rw [List.drop_zero, List.take_of_length_le (by rw [hll, List.length_take]; omega), latR_end c k hk2]
      have e2 : List.take (min c.tape.length 64) (List.drop 0 ((c.tape.take 64).map rowU)) = (cleanCf c).tape.map rowU := by rw [List.drop_zero, List.take_of_length_le (by rw [List.length_map, List.length_take]; omega)]; rfl
      have e3 : (cleanCf c).sets = clampI c.sets 1 4 := if_neg (by simpa using h1)
      refine finTA rfl ⟨trivial, trivial, trivial, trivial, trivial, trivial, trivial, trivial, by show 0 + min c.lat.length 64 ≤ (latR c k).length; rw [hll, List.length_take]; omega, trivial, by show 0 + min c.tape.length 64 ≤ ((c.tape.take 64).map rowU).length; rw [List.length_map, List.length_take]; omega, trivial⟩ rfl ?_
      show AV.agg [vI (clampI c.mode 0 2), vI (clampI c.width 1 2), vI (clampI c.rob 2 8), vI (clampI c.queue 1 4), vI (clampI c.stores 1 4), vI (clampI c.slots 2 6), vI (clampI c.sets 1 4), vI (clampI c.ways 1 2), .sl 1 (List.take (min c.lat.length 64) (List.drop 0 (latR c k))) false, vB c.tables, .sl 1 (List.take (min c.tape.length 64) (List.drop 0 ((c.tape.take 64).map rowU))) false] = AV.agg (cfL (cleanCf c) false false)
      rw [e1, e2]
      show _ = AV.agg [vI (cleanCf c).mode, vI (cleanCf c).width, vI (cleanCf c).rob, vI (cleanCf c).queue, vI (cleanCf c).stores, vI (cleanCf c).slots, vI (cleanCf c).sets, vI (cleanCf c).ways, .sl 1 ((cleanCf c).lat.map rowI) false, vB (cleanCf c).tables, .sl 1 ((cleanCf c).tape.map rowU) false]
      rw [e3]
      rfl
open Go.RowKit Go.Lib
def cfOf (p : ScPlan) : Cf := ⟨p.mode, p.width, p.rob, p.queue, p.stores, p.slots, p.sets, p.ways, p.lat, p.tables, p.tape⟩
def CfR (c : Cf) : Prop := (0 ≤ c.mode ∧ c.mode ≤ 2) ∧ (1 ≤ c.width ∧ c.width ≤ 2) ∧ (2 ≤ c.rob ∧ c.rob ≤ 8) ∧ (1 ≤ c.queue ∧ c.queue ≤ 4) ∧ (1 ≤ c.stores ∧ c.stores ≤ 4) ∧ (2 ≤ c.slots ∧ c.slots ≤ 6) ∧
  (1 ≤ c.sets ∧ c.sets ≤ 4 ∧ c.sets ≠ 3) ∧ (1 ≤ c.ways ∧ c.ways ≤ 2) ∧ (c.lat.length ≤ 64 ∧ ∀ a ∈ c.lat, 1 ≤ a ∧ a ≤ 8) ∧ c.tape.length ≤ 64
instance (c : Cf) : Decidable (CfR c) := by unfold CfR; infer_instance
def LikeC (a b : Cf) : Prop := a.mode = b.mode ∧ a.width = b.width ∧ a.rob = b.rob ∧ a.queue = b.queue ∧ a.stores = b.stores ∧ a.slots = b.slots ∧ a.sets = b.sets ∧ a.ways = b.ways ∧ a.tables = b.tables ∧ a.lat = b.lat ∧ a.tape = b.tape
instance (a b : Cf) : Decidable (LikeC a b) := by unfold LikeC; infer_instance
def sizeM (n : Nat) : Nat := if n ≤ 16 then 16 else if n ≤ 32 then 32 else if n ≤ 64 then 64 else if n ≤ 128 then 128 else 256
def cleanM (m : W) : W := m.take 256 ++ List.replicate (sizeM (m.take 256).length - (m.take 256).length) 0
def okM (m : W) : Prop := cleanM m = m
instance (m : W) : Decidable (okM m) := by unfold okM; infer_instance
theorem cleanM_len (m : W) : (cleanM m).length ≤ 256 := by
  unfold cleanM
  rw [List.length_append, List.length_replicate, List.length_take]
  unfold sizeM; (repeat' split) <;> omega
theorem okM_len {m : W} (h : okM m) : m.length ≤ 256 := by have := cleanM_len m; rw [h] at this; exact this
theorem size_at {n k : Nat} (hk : k ≤ 4) (h1 : n ≤ 16 * 2 ^ k) (h2 : k ≠ 0 → 16 * 2 ^ (k - 1) < n) : sizeM n = 16 * 2 ^ k := by
  unfold sizeM
  have : k = 0 ∨ k = 1 ∨ k = 2 ∨ k = 3 ∨ k = 4 := by omega
  rcases this with rfl | rfl | rfl | rfl | rfl <;> simp at h1 h2 <;> (repeat' split) <;> omega
theorem cleanM_at {m t : W} {k : Nat} (ht : t = m.take 256) (hk : k ≤ 4) (h1 : t.length ≤ 16 * 2 ^ k) (h2 : k ≠ 0 → 16 * 2 ^ (k - 1) < t.length) : t ++ List.replicate (16 * 2 ^ k - t.length) 0 = cleanM m := by
  unfold cleanM; rw [← ht, size_at hk h1 h2]
theorem cleanM_nil : cleanM [] = List.replicate 16 0 := by unfold cleanM sizeM; rfl
def PlR (p : ScPlan) : Prop := CfR (cfOf p) ∧ p.prog.length ≤ 64 ∧ okM p.mem ∧ 0 ≤ p.cycles ∧ p.cycles ≤ 600
instance (p : ScPlan) : Decidable (PlR p) := by unfold PlR; infer_instance
def rightP (p : ScPlan) : Bool := decide (PlR p)
theorem right_iff {p : ScPlan} (hp : p.ok) : PlR p ↔ RightL okM p := by
  constructor
  · rintro ⟨⟨h0, h1, h2, h3, h4, h5, h6, h7, h9, h10⟩, h11, h12, h13⟩ k
    rcases k with _ | _ | _ | _ | _ | _ | _ | _ | _ | _ | _ | _ | _ | _ | k
    · exact h0
    · exact h1
    · exact h2
    · exact h3
    · exact h4
    · exact h5
    · exact h6
    · exact h7
    · trivial
    · exact h9
    · exact ⟨h10, fun a ha => Nat.lt_succ_of_le (hp.tp a ha)⟩
    · exact ⟨h11, fun a ha => Nat.lt_succ_of_le (hp.pr a ha)⟩
    · exact h12
    · exact h13
    · trivial
  · intro h
    exact ⟨⟨h 0, h 1, h 2, h 3, h 4, h 5, h 6, h 7, h 9, (h 10).1⟩, (h 11).1, h 12, h 13⟩
theorem rightP_iff {p : ScPlan} (hp : p.ok) : rightP p = true ↔ RightL okM p := by unfold rightP; rw [decide_eq_true_eq, right_iff hp]
def cfZ : Cf := ⟨0, 0, 0, 0, 0, 0, 0, 0, [], false, []⟩
def plO : ScPlan := ⟨0, 1, 2, 1, 1, 2, 1, 1, false, [], [], [], List.replicate 16 0, 0⟩
def plZ : ScPlan := ⟨0, 0, 0, 0, 0, 0, 0, 0, false, [], [], [], [], 0⟩
theorem plO_right : RightL okM plO := by
  rw [← right_iff ⟨by decide, by decide, fun x h => absurd h List.not_mem_nil, by decide, fun x h => absurd h List.not_mem_nil, by decide⟩]
  decide
theorem DCall.rmono {C : Ctx} {f : FuncId} {args : List AV} {r r' : AV} (h : DCall C f args r) (hr : ∀ S w v, Rep S w noB r v → Rep S w noB r' v) : DCall C f args r' :=
  ⟨h.1, fun S w vs a b c => (h.2 S w vs a b c).mono fun _ _ ⟨v, h1, h2, h3⟩ => ⟨v, h1, h2, hr _ _ _ h3⟩⟩
theorem rep_nil {S : Nat → Prop} {w : World} {β : Bt} {v : Value} {n : Nat} (h : Rep S w β (.sl 0 [] true) v) : Rep S w β (.sl n [] true) v := by
  cases h with
  | sl rs rows clip A c b o u hc hm hcl hrs hA hw h1 hr => exact .sl n [] true A c b o u hc hm hcl (fun r h => absurd h List.not_mem_nil) hA (fun i row j a h => by simp at h) h1 (fun i row j a h => by simp at h)
theorem rep_nil_agg {S : Nat → Prop} {w : World} {β : Bt} {v : Value} {cs : List AV} {i n : Nat} (h : Rep S w β (.agg cs) v) (hi : cs[i]? = some (.sl 0 [] true)) : Rep S w β (.agg (cs.set i (.sl n [] true))) v := by
  cases h with
  | agg cs vs hl h1 h =>
    refine .agg _ vs (by rw [List.length_set]; exact hl) h1 fun j a u ha hu => ?_
    by_cases hj : i = j
    · subst hj
      rw [List.getElem?_set_self (List.getElem?_eq_some_iff.1 hi).1] at ha
      rw [← Option.some.inj ha]; exact rep_nil (h i _ u hi hu)
    · rw [List.getElem?_set_ne hj] at ha; exact h j a u ha hu
theorem rep_nil_tup {S : Nat → Prop} {w : World} {β : Bt} {v : Value} {cs : List AV} {i n : Nat} (h : Rep S w β (.tup cs) v) (hi : cs[i]? = some (.sl 0 [] true)) : Rep S w β (.tup (cs.set i (.sl n [] true))) v := by
  cases h with
  | tup cs vs hl h =>
    refine .tup _ vs (by rw [List.length_set]; exact hl) fun j a u ha hu => ?_
    by_cases hj : i = j
    · subst hj
      rw [List.getElem?_set_self (List.getElem?_eq_some_iff.1 hi).1] at ha
      rw [← Option.some.inj ha]; exact rep_nil (h i _ u hi hu)
    · rw [List.getElem?_set_ne hj] at ha; exact h j a u ha hu
theorem rows8L : ∀ (l : List UInt8), bytesOfRows (l.map row8) = some l := bytesOfRows_map
theorem own8 {l : List UInt8} {n : Nat} (h : l.length ≤ n) : bytesOfRows (List.take n (List.drop 0 (l.map row8))) = some l := by rw [List.drop_zero, List.take_of_length_le (by rw [List.length_map]; exact h)]; exact rows8L l
theorem ScPlan.ok.cf {p : ScPlan} (hp : p.ok) : (cfOf p).ok := ⟨Nat.le_trans hp.lat (by decide), Nat.le_trans hp.tape (by decide), hp.tp⟩
def LikeP (p q : ScPlan) : Prop := LikeC (cfOf p) (cfOf q) ∧ p.mem = q.mem ∧ p.cycles = q.cycles ∧ p.prog = q.prog
instance (p q : ScPlan) : Decidable (LikeP p q) := by unfold LikeP; infer_instance
theorem split_cons (c : UInt8) (s : W) : ∃ w0 t, splitL c s = w0 :: t := by
  cases h : splitL c s with
  | nil => exact absurd h (split_ne c s)
  | cons w t => exact ⟨w, t, rfl⟩
theorem split_len (c : UInt8) : ∀ (s : W), (splitL c s).length ≤ s.length + 1 ∧ ∀ w ∈ splitL c s, w.length ≤ s.length
  | [] => ⟨Nat.le_refl _, fun w h => by simp [splitL] at h; subst h; exact Nat.le_refl _⟩
  | x :: s => by
    obtain ⟨h1, h2⟩ := split_len c s
    unfold splitL
    split
    · refine ⟨by simp only [List.length_cons]; omega, fun w h => ?_⟩
      rcases List.mem_cons.1 h with h | h
      · rw [h]; exact Nat.zero_le _
      · have := h2 w h; rw [List.length_cons]; omega
    · obtain ⟨w0, t, e⟩ := split_cons c s
      rw [e] at h1 h2 ⊢
      refine ⟨by simp only [List.headD, List.tail, List.length_cons] at *; omega, fun w h => ?_⟩
      rcases List.mem_cons.1 h with h | h
      · rw [h]; have := h2 w0 List.mem_cons_self; simp only [List.headD, List.length_cons] at *; omega
      · have := h2 w (List.mem_cons_of_mem _ h); rw [List.length_cons]; omega
theorem cut_le (c : UInt8) : ∀ (s : W), (cutL c s).1.length ≤ s.length ∧ (cutL c s).2.1.length ≤ s.length
  | [] => ⟨Nat.le_refl _, Nat.le_refl _⟩
  | x :: s => by
    have ih := cut_le c s
    unfold cutL
    split
    · exact ⟨Nat.zero_le _, Nat.le_succ _⟩
    · exact ⟨Nat.succ_le_succ ih.1, Nat.le_succ_of_le ih.2⟩
def fl {α : Type} (j k : Nat) (l : List α) : Bool := decide (j < k) && l.isEmpty
abbrev planF (p : ScPlan) (k : Nat) : List AV := planL p (fl 9 k p.lat) (fl 10 k p.tape) (fl 11 k p.prog)
abbrev planE (p : ScPlan) : List AV := planL p p.lat.isEmpty p.tape.isEmpty p.prog.isEmpty
abbrev plZc : List AV := [vI 0, vI 0, vI 0, vI 0, vI 0, vI 0, vI 0, vI 0, .sl 0 [] true, vB false, .sl 0 [] true, .sl 0 [] true, vS [], vI 0]
def resP0 : ScPlan × Int × Int → AV
  | (p, e, n) => if e = 0 then .tup [.agg (planE p), vI e, vI n] else .tup [.agg plZc, vI e, vI n]
def resP : ScPlan × Int × Int → AV
  | (p, e, n) => .tup [.agg (planE p), vI e, vI n]
theorem rep_zc {S : Nat → Prop} {w : World} {β : Bt} {v : Value} (h : Rep S w β (.agg plZc) v) : Rep S w β (.agg (planE plZ)) v :=
  rep_nil_agg (i := 11) (n := 1) (rep_nil_agg (i := 10) (n := 1) (rep_nil_agg (i := 8) (n := 1) h rfl) rfl) rfl
theorem rep_tup0 {S : Nat → Prop} {w : World} {β : Bt} {v : Value} {a b : AV} {cs : List AV} (h : Rep S w β (.tup (a :: cs)) v) (hr : ∀ v, Rep S w β a v → Rep S w β b v) : Rep S w β (.tup (b :: cs)) v := by
  cases h with
  | tup cs vs hl h =>
    refine .tup _ vs hl fun j x u ha hu => ?_
    cases j with
    | zero =>
      have e : b = x := Option.some.inj ha
      rw [← e]; exact hr u (h 0 a u rfl hu)
    | succ j => exact h (j + 1) x u ha hu
theorem parse_zero {step : ScPlan → Nat → W → Option ScPlan} {p0 : ScPlan} {s : W} {p : ScPlan} {e n : Int} (h : parseG step p0 plZ s = (p, e, n)) (he : e ≠ 0) : p = plZ := by
  unfold parseG at h
  split at h
  · injection h with h1 h; exact h1.symm
  · split at h
    · injection h with _ h; injection h with h; exact absurd h.symm he
    · injection h with h1 h; exact h1.symm
theorem resP_of {f : FuncId} {args : List AV} {step : ScPlan → Nat → W → Option ScPlan} {p0 : ScPlan} {s : W} (h : DCall C0 f args (resP0 (parseG step p0 plZ s))) : DCall C0 f args (resP (parseG step p0 plZ s)) := by
  rcases hE : parseG step p0 plZ s with ⟨p, e, n⟩
  rw [hE] at h
  have h : DCall C0 f args (if e = 0 then .tup [.agg (planE p), vI e, vI n] else .tup [.agg plZc, vI e, vI n]) := h
  show DCall C0 f args (.tup [.agg (planE p), vI e, vI n])
  by_cases he : e = 0
  · rw [if_pos he] at h; exact h
  · rw [if_neg he] at h
    rw [parse_zero hE he]
    exact h.rmono fun S w v hv => rep_tup0 hv fun v => rep_zc
theorem parse_end {step : ScPlan → Nat → W → Option ScPlan} {p0 p : ScPlan} {s : W} (h : goG step p0 s 14 = .ok (p, [])) : parseG step p0 plZ s = (p, 0, 0) := by unfold parseG; rw [h]; rfl
theorem parse_rest {step : ScPlan → Nat → W → Option ScPlan} {p0 p : ScPlan} {s r : W} (h : goG step p0 s 14 = .ok (p, r)) (hr : ¬ r = []) : parseG step p0 plZ s = (plZ, 250, 15) := by unfold parseG; rw [h]; show (if r = [] then _ else _) = _; rw [if_neg hr]
theorem parse_err {step : ScPlan → Nat → W → Option ScPlan} {p0 : ScPlan} {s : W} {k e : Nat} (h : goG step p0 s k = .error e) (hk : k ≤ 14) : parseG step p0 plZ s = (plZ, 250, (e : Int)) := by
  have h2 := go_err h (14 - k)
  rw [show k + (14 - k) = 14 by omega] at h2
  unfold parseG; rw [h2]
theorem go_on {step : ScPlan → Nat → W → Option ScPlan} {p0 p p' : ScPlan} {s r : W} {k : Nat} (h : goG step p0 s k = .ok (p, r)) (hc : (cutL 10 r).2.2 = true) (hs : step p k (cutL 10 r).1 = some p') : goG step p0 s (k + 1) = .ok (p', (cutL 10 r).2.1) := by
  unfold goG; rw [h]
  show (if _ then _ else _) = _
  rw [if_pos hc, hs]
theorem go_bad {step : ScPlan → Nat → W → Option ScPlan} {p0 p : ScPlan} {s r : W} {k : Nat} (h : goG step p0 s k = .ok (p, r)) (hc : (cutL 10 r).2.2 = false ∨ step p k (cutL 10 r).1 = none) : goG step p0 s (k + 1) = .error (k + 1) := by
  unfold goG; rw [h]
  show (if _ then _ else _) = _
  rcases hc with hc | hc
  · rw [if_neg (by rw [hc]; decide)]
  · split
    · rw [hc]
    · rfl
theorem resP0_err {n : Int} : resP0 (plZ, 250, n) = .tup [.agg plZc, vI 250, vI n] := rfl
theorem plO_ok : plO.ok := ⟨by decide, by decide, fun x h => absurd h List.not_mem_nil, by decide, fun x h => absurd h List.not_mem_nil, by decide⟩
theorem repL_one {S : Nat → Prop} {w : World} {β : Bt} {a b : AV} {vs : List Value} (h : RepL S w β [a] vs) (hr : ∀ v, Rep S w β a v → Rep S w β b v) : RepL S w β [b] vs :=
  ⟨h.1, fun i x u hx hu => by
    cases i with
    | zero => have e : b = x := Option.some.inj hx
              rw [← e]; exact hr u (h.2 0 a u rfl hu)
    | succ i => simp at hx⟩
theorem DCall.amono1 {C : Ctx} {f : FuncId} {a b r : AV} (h : DCall C f [b] r) (hr : ∀ S w v, Rep S w noB a v → Rep S w noB b v) : DCall C f [a] r :=
  ⟨h.1, fun S w vs h1 h2 h3 => h.2 S w vs h1 h2 (repL_one h3 (hr S w))⟩
theorem getD_take {w : W} {k : Nat} (h : k < w.length) : w.take (k + 1) = w.take k ++ [w.getD k 0] := by
  rw [List.take_add_one, List.getElem?_eq_getElem h, List.getD_eq_getElem?_getD, List.getElem?_eq_getElem h]; rfl
theorem dName_0  : DCall C0 23 [vI 0] (vS (nameL 0)) := by
  refine DCall.intro c0Ok Tryd.func23 rfl rfl (by kernel_rfl) rfl <| cSeq <| cReg rfl <| oR 1 rfl <| rE 1 <| cSeq <| cReg rfl <| rOk (x := .agg [.v (.string (⟨#[109, 111, 100, 101]⟩ : ByteArray)), .v (.string (⟨#[119, 105, 100, 116, 104]⟩ : ByteArray)), .v (.string (⟨#[114, 111, 98]⟩ : ByteArray)), .v (.string (⟨#[113, 117, 101, 117, 101]⟩ : ByteArray)), .v (.string (⟨#[115, 116, 111, 114, 101, 115]⟩ : ByteArray)), .v (.string (⟨#[115, 108, 111, 116, 115]⟩ : ByteArray)), .v (.string (⟨#[115, 101, 116, 115]⟩ : ByteArray)), .v (.string (⟨#[119, 97, 121, 115]⟩ : ByteArray)), .v (.string (⟨#[103, 117, 101, 115, 115]⟩ : ByteArray)), .v (.string (⟨#[108, 97, 116]⟩ : ByteArray)), .v (.string (⟨#[116, 97, 112, 101]⟩ : ByteArray)), .v (.string (⟨#[112, 114, 111, 103]⟩ : ByteArray)), .v (.string (⟨#[109, 101, 109]⟩ : ByteArray)), .v (.string (⟨#[99, 121, 99, 108, 101, 115]⟩ : ByteArray))]) rfl rfl rfl <| rAl 2 rfl rfl <| rSt rfl <| rE 4 <| cSeq <| cReg rfl <| oR 1 rfl <| rNeed (x := .ptr 2 0) rfl rfl rfl (⟨by decide, by decide⟩) <| oR 2 rfl ?_
  refine rE 8 <| cRet ?_
  exact finTA rfl trivial rfl rfl
theorem dName_1  : DCall C0 23 [vI 1] (vS (nameL 1)) := by
  refine DCall.intro c0Ok Tryd.func23 rfl rfl (by kernel_rfl) rfl <| cSeq <| cReg rfl <| oR 1 rfl <| rE 1 <| cSeq <| cReg rfl <| rOk (x := .agg [.v (.string (⟨#[109, 111, 100, 101]⟩ : ByteArray)), .v (.string (⟨#[119, 105, 100, 116, 104]⟩ : ByteArray)), .v (.string (⟨#[114, 111, 98]⟩ : ByteArray)), .v (.string (⟨#[113, 117, 101, 117, 101]⟩ : ByteArray)), .v (.string (⟨#[115, 116, 111, 114, 101, 115]⟩ : ByteArray)), .v (.string (⟨#[115, 108, 111, 116, 115]⟩ : ByteArray)), .v (.string (⟨#[115, 101, 116, 115]⟩ : ByteArray)), .v (.string (⟨#[119, 97, 121, 115]⟩ : ByteArray)), .v (.string (⟨#[103, 117, 101, 115, 115]⟩ : ByteArray)), .v (.string (⟨#[108, 97, 116]⟩ : ByteArray)), .v (.string (⟨#[116, 97, 112, 101]⟩ : ByteArray)), .v (.string (⟨#[112, 114, 111, 103]⟩ : ByteArray)), .v (.string (⟨#[109, 101, 109]⟩ : ByteArray)), .v (.string (⟨#[99, 121, 99, 108, 101, 115]⟩ : ByteArray))]) rfl rfl rfl <| rAl 2 rfl rfl <| rSt rfl <| rE 4 <| cSeq <| cReg rfl <| oR 1 rfl <| rNeed (x := .ptr 2 1) rfl rfl rfl (⟨by decide, by decide⟩) <| oR 2 rfl ?_
  refine rE 8 <| cRet ?_
  exact finTA rfl trivial rfl rfl
theorem dName_2  : DCall C0 23 [vI 2] (vS (nameL 2)) := by
  refine DCall.intro c0Ok Tryd.func23 rfl rfl (by kernel_rfl) rfl <| cSeq <| cReg rfl <| oR 1 rfl <| rE 1 <| cSeq <| cReg rfl <| rOk (x := .agg [.v (.string (⟨#[109, 111, 100, 101]⟩ : ByteArray)), .v (.string (⟨#[119, 105, 100, 116, 104]⟩ : ByteArray)), .v (.string (⟨#[114, 111, 98]⟩ : ByteArray)), .v (.string (⟨#[113, 117, 101, 117, 101]⟩ : ByteArray)), .v (.string (⟨#[115, 116, 111, 114, 101, 115]⟩ : ByteArray)), .v (.string (⟨#[115, 108, 111, 116, 115]⟩ : ByteArray)), .v (.string (⟨#[115, 101, 116, 115]⟩ : ByteArray)), .v (.string (⟨#[119, 97, 121, 115]⟩ : ByteArray)), .v (.string (⟨#[103, 117, 101, 115, 115]⟩ : ByteArray)), .v (.string (⟨#[108, 97, 116]⟩ : ByteArray)), .v (.string (⟨#[116, 97, 112, 101]⟩ : ByteArray)), .v (.string (⟨#[112, 114, 111, 103]⟩ : ByteArray)), .v (.string (⟨#[109, 101, 109]⟩ : ByteArray)), .v (.string (⟨#[99, 121, 99, 108, 101, 115]⟩ : ByteArray))]) rfl rfl rfl <| rAl 2 rfl rfl <| rSt rfl <| rE 4 <| cSeq <| cReg rfl <| oR 1 rfl <| rNeed (x := .ptr 2 2) rfl rfl rfl (⟨by decide, by decide⟩) <| oR 2 rfl ?_
  refine rE 8 <| cRet ?_
  exact finTA rfl trivial rfl rfl
theorem dName_3  : DCall C0 23 [vI 3] (vS (nameL 3)) := by
  refine DCall.intro c0Ok Tryd.func23 rfl rfl (by kernel_rfl) rfl <| cSeq <| cReg rfl <| oR 1 rfl <| rE 1 <| cSeq <| cReg rfl <| rOk (x := .agg [.v (.string (⟨#[109, 111, 100, 101]⟩ : ByteArray)), .v (.string (⟨#[119, 105, 100, 116, 104]⟩ : ByteArray)), .v (.string (⟨#[114, 111, 98]⟩ : ByteArray)), .v (.string (⟨#[113, 117, 101, 117, 101]⟩ : ByteArray)), .v (.string (⟨#[115, 116, 111, 114, 101, 115]⟩ : ByteArray)), .v (.string (⟨#[115, 108, 111, 116, 115]⟩ : ByteArray)), .v (.string (⟨#[115, 101, 116, 115]⟩ : ByteArray)), .v (.string (⟨#[119, 97, 121, 115]⟩ : ByteArray)), .v (.string (⟨#[103, 117, 101, 115, 115]⟩ : ByteArray)), .v (.string (⟨#[108, 97, 116]⟩ : ByteArray)), .v (.string (⟨#[116, 97, 112, 101]⟩ : ByteArray)), .v (.string (⟨#[112, 114, 111, 103]⟩ : ByteArray)), .v (.string (⟨#[109, 101, 109]⟩ : ByteArray)), .v (.string (⟨#[99, 121, 99, 108, 101, 115]⟩ : ByteArray))]) rfl rfl rfl <| rAl 2 rfl rfl <| rSt rfl <| rE 4 <| cSeq <| cReg rfl <| oR 1 rfl <| rNeed (x := .ptr 2 3) rfl rfl rfl (⟨by decide, by decide⟩) <| oR 2 rfl ?_
  refine rE 8 <| cRet ?_
  exact finTA rfl trivial rfl rfl
theorem dName_4  : DCall C0 23 [vI 4] (vS (nameL 4)) := by
  refine DCall.intro c0Ok Tryd.func23 rfl rfl (by kernel_rfl) rfl <| cSeq <| cReg rfl <| oR 1 rfl <| rE 1 <| cSeq <| cReg rfl <| rOk (x := .agg [.v (.string (⟨#[109, 111, 100, 101]⟩ : ByteArray)), .v (.string (⟨#[119, 105, 100, 116, 104]⟩ : ByteArray)), .v (.string (⟨#[114, 111, 98]⟩ : ByteArray)), .v (.string (⟨#[113, 117, 101, 117, 101]⟩ : ByteArray)), .v (.string (⟨#[115, 116, 111, 114, 101, 115]⟩ : ByteArray)), .v (.string (⟨#[115, 108, 111, 116, 115]⟩ : ByteArray)), .v (.string (⟨#[115, 101, 116, 115]⟩ : ByteArray)), .v (.string (⟨#[119, 97, 121, 115]⟩ : ByteArray)), .v (.string (⟨#[103, 117, 101, 115, 115]⟩ : ByteArray)), .v (.string (⟨#[108, 97, 116]⟩ : ByteArray)), .v (.string (⟨#[116, 97, 112, 101]⟩ : ByteArray)), .v (.string (⟨#[112, 114, 111, 103]⟩ : ByteArray)), .v (.string (⟨#[109, 101, 109]⟩ : ByteArray)), .v (.string (⟨#[99, 121, 99, 108, 101, 115]⟩ : ByteArray))]) rfl rfl rfl <| rAl 2 rfl rfl <| rSt rfl <| rE 4 <| cSeq <| cReg rfl <| oR 1 rfl <| rNeed (x := .ptr 2 4) rfl rfl rfl (⟨by decide, by decide⟩) <| oR 2 rfl ?_
  refine rE 8 <| cRet ?_
  exact finTA rfl trivial rfl rfl
theorem dName_5  : DCall C0 23 [vI 5] (vS (nameL 5)) := by
  refine DCall.intro c0Ok Tryd.func23 rfl rfl (by kernel_rfl) rfl <| cSeq <| cReg rfl <| oR 1 rfl <| rE 1 <| cSeq <| cReg rfl <| rOk (x := .agg [.v (.string (⟨#[109, 111, 100, 101]⟩ : ByteArray)), .v (.string (⟨#[119, 105, 100, 116, 104]⟩ : ByteArray)), .v (.string (⟨#[114, 111, 98]⟩ : ByteArray)), .v (.string (⟨#[113, 117, 101, 117, 101]⟩ : ByteArray)), .v (.string (⟨#[115, 116, 111, 114, 101, 115]⟩ : ByteArray)), .v (.string (⟨#[115, 108, 111, 116, 115]⟩ : ByteArray)), .v (.string (⟨#[115, 101, 116, 115]⟩ : ByteArray)), .v (.string (⟨#[119, 97, 121, 115]⟩ : ByteArray)), .v (.string (⟨#[103, 117, 101, 115, 115]⟩ : ByteArray)), .v (.string (⟨#[108, 97, 116]⟩ : ByteArray)), .v (.string (⟨#[116, 97, 112, 101]⟩ : ByteArray)), .v (.string (⟨#[112, 114, 111, 103]⟩ : ByteArray)), .v (.string (⟨#[109, 101, 109]⟩ : ByteArray)), .v (.string (⟨#[99, 121, 99, 108, 101, 115]⟩ : ByteArray))]) rfl rfl rfl <| rAl 2 rfl rfl <| rSt rfl <| rE 4 <| cSeq <| cReg rfl <| oR 1 rfl <| rNeed (x := .ptr 2 5) rfl rfl rfl (⟨by decide, by decide⟩) <| oR 2 rfl ?_
  refine rE 8 <| cRet ?_
  exact finTA rfl trivial rfl rfl
theorem dName_6  : DCall C0 23 [vI 6] (vS (nameL 6)) := by
  refine DCall.intro c0Ok Tryd.func23 rfl rfl (by kernel_rfl) rfl <| cSeq <| cReg rfl <| oR 1 rfl <| rE 1 <| cSeq <| cReg rfl <| rOk (x := .agg [.v (.string (⟨#[109, 111, 100, 101]⟩ : ByteArray)), .v (.string (⟨#[119, 105, 100, 116, 104]⟩ : ByteArray)), .v (.string (⟨#[114, 111, 98]⟩ : ByteArray)), .v (.string (⟨#[113, 117, 101, 117, 101]⟩ : ByteArray)), .v (.string (⟨#[115, 116, 111, 114, 101, 115]⟩ : ByteArray)), .v (.string (⟨#[115, 108, 111, 116, 115]⟩ : ByteArray)), .v (.string (⟨#[115, 101, 116, 115]⟩ : ByteArray)), .v (.string (⟨#[119, 97, 121, 115]⟩ : ByteArray)), .v (.string (⟨#[103, 117, 101, 115, 115]⟩ : ByteArray)), .v (.string (⟨#[108, 97, 116]⟩ : ByteArray)), .v (.string (⟨#[116, 97, 112, 101]⟩ : ByteArray)), .v (.string (⟨#[112, 114, 111, 103]⟩ : ByteArray)), .v (.string (⟨#[109, 101, 109]⟩ : ByteArray)), .v (.string (⟨#[99, 121, 99, 108, 101, 115]⟩ : ByteArray))]) rfl rfl rfl <| rAl 2 rfl rfl <| rSt rfl <| rE 4 <| cSeq <| cReg rfl <| oR 1 rfl <| rNeed (x := .ptr 2 6) rfl rfl rfl (⟨by decide, by decide⟩) <| oR 2 rfl ?_
  refine rE 8 <| cRet ?_
  exact finTA rfl trivial rfl rfl
theorem dName_7  : DCall C0 23 [vI 7] (vS (nameL 7)) := by
  refine DCall.intro c0Ok Tryd.func23 rfl rfl (by kernel_rfl) rfl <| cSeq <| cReg rfl <| oR 1 rfl <| rE 1 <| cSeq <| cReg rfl <| rOk (x := .agg [.v (.string (⟨#[109, 111, 100, 101]⟩ : ByteArray)), .v (.string (⟨#[119, 105, 100, 116, 104]⟩ : ByteArray)), .v (.string (⟨#[114, 111, 98]⟩ : ByteArray)), .v (.string (⟨#[113, 117, 101, 117, 101]⟩ : ByteArray)), .v (.string (⟨#[115, 116, 111, 114, 101, 115]⟩ : ByteArray)), .v (.string (⟨#[115, 108, 111, 116, 115]⟩ : ByteArray)), .v (.string (⟨#[115, 101, 116, 115]⟩ : ByteArray)), .v (.string (⟨#[119, 97, 121, 115]⟩ : ByteArray)), .v (.string (⟨#[103, 117, 101, 115, 115]⟩ : ByteArray)), .v (.string (⟨#[108, 97, 116]⟩ : ByteArray)), .v (.string (⟨#[116, 97, 112, 101]⟩ : ByteArray)), .v (.string (⟨#[112, 114, 111, 103]⟩ : ByteArray)), .v (.string (⟨#[109, 101, 109]⟩ : ByteArray)), .v (.string (⟨#[99, 121, 99, 108, 101, 115]⟩ : ByteArray))]) rfl rfl rfl <| rAl 2 rfl rfl <| rSt rfl <| rE 4 <| cSeq <| cReg rfl <| oR 1 rfl <| rNeed (x := .ptr 2 7) rfl rfl rfl (⟨by decide, by decide⟩) <| oR 2 rfl ?_
  refine rE 8 <| cRet ?_
  exact finTA rfl trivial rfl rfl
theorem dName_8  : DCall C0 23 [vI 8] (vS (nameL 8)) := by
  refine DCall.intro c0Ok Tryd.func23 rfl rfl (by kernel_rfl) rfl <| cSeq <| cReg rfl <| oR 1 rfl <| rE 1 <| cSeq <| cReg rfl <| rOk (x := .agg [.v (.string (⟨#[109, 111, 100, 101]⟩ : ByteArray)), .v (.string (⟨#[119, 105, 100, 116, 104]⟩ : ByteArray)), .v (.string (⟨#[114, 111, 98]⟩ : ByteArray)), .v (.string (⟨#[113, 117, 101, 117, 101]⟩ : ByteArray)), .v (.string (⟨#[115, 116, 111, 114, 101, 115]⟩ : ByteArray)), .v (.string (⟨#[115, 108, 111, 116, 115]⟩ : ByteArray)), .v (.string (⟨#[115, 101, 116, 115]⟩ : ByteArray)), .v (.string (⟨#[119, 97, 121, 115]⟩ : ByteArray)), .v (.string (⟨#[103, 117, 101, 115, 115]⟩ : ByteArray)), .v (.string (⟨#[108, 97, 116]⟩ : ByteArray)), .v (.string (⟨#[116, 97, 112, 101]⟩ : ByteArray)), .v (.string (⟨#[112, 114, 111, 103]⟩ : ByteArray)), .v (.string (⟨#[109, 101, 109]⟩ : ByteArray)), .v (.string (⟨#[99, 121, 99, 108, 101, 115]⟩ : ByteArray))]) rfl rfl rfl <| rAl 2 rfl rfl <| rSt rfl <| rE 4 <| cSeq <| cReg rfl <| oR 1 rfl <| rNeed (x := .ptr 2 8) rfl rfl rfl (⟨by decide, by decide⟩) <| oR 2 rfl ?_
  refine rE 8 <| cRet ?_
  exact finTA rfl trivial rfl rfl
theorem dName_9  : DCall C0 23 [vI 9] (vS (nameL 9)) := by
  refine DCall.intro c0Ok Tryd.func23 rfl rfl (by kernel_rfl) rfl <| cSeq <| cReg rfl <| oR 1 rfl <| rE 1 <| cSeq <| cReg rfl <| rOk (x := .agg [.v (.string (⟨#[109, 111, 100, 101]⟩ : ByteArray)), .v (.string (⟨#[119, 105, 100, 116, 104]⟩ : ByteArray)), .v (.string (⟨#[114, 111, 98]⟩ : ByteArray)), .v (.string (⟨#[113, 117, 101, 117, 101]⟩ : ByteArray)), .v (.string (⟨#[115, 116, 111, 114, 101, 115]⟩ : ByteArray)), .v (.string (⟨#[115, 108, 111, 116, 115]⟩ : ByteArray)), .v (.string (⟨#[115, 101, 116, 115]⟩ : ByteArray)), .v (.string (⟨#[119, 97, 121, 115]⟩ : ByteArray)), .v (.string (⟨#[103, 117, 101, 115, 115]⟩ : ByteArray)), .v (.string (⟨#[108, 97, 116]⟩ : ByteArray)), .v (.string (⟨#[116, 97, 112, 101]⟩ : ByteArray)), .v (.string (⟨#[112, 114, 111, 103]⟩ : ByteArray)), .v (.string (⟨#[109, 101, 109]⟩ : ByteArray)), .v (.string (⟨#[99, 121, 99, 108, 101, 115]⟩ : ByteArray))]) rfl rfl rfl <| rAl 2 rfl rfl <| rSt rfl <| rE 4 <| cSeq <| cReg rfl <| oR 1 rfl <| rNeed (x := .ptr 2 9) rfl rfl rfl (⟨by decide, by decide⟩) <| oR 2 rfl ?_
  refine rE 8 <| cRet ?_
  exact finTA rfl trivial rfl rfl
theorem dName_10  : DCall C0 23 [vI 10] (vS (nameL 10)) := by
  refine DCall.intro c0Ok Tryd.func23 rfl rfl (by kernel_rfl) rfl <| cSeq <| cReg rfl <| oR 1 rfl <| rE 1 <| cSeq <| cReg rfl <| rOk (x := .agg [.v (.string (⟨#[109, 111, 100, 101]⟩ : ByteArray)), .v (.string (⟨#[119, 105, 100, 116, 104]⟩ : ByteArray)), .v (.string (⟨#[114, 111, 98]⟩ : ByteArray)), .v (.string (⟨#[113, 117, 101, 117, 101]⟩ : ByteArray)), .v (.string (⟨#[115, 116, 111, 114, 101, 115]⟩ : ByteArray)), .v (.string (⟨#[115, 108, 111, 116, 115]⟩ : ByteArray)), .v (.string (⟨#[115, 101, 116, 115]⟩ : ByteArray)), .v (.string (⟨#[119, 97, 121, 115]⟩ : ByteArray)), .v (.string (⟨#[103, 117, 101, 115, 115]⟩ : ByteArray)), .v (.string (⟨#[108, 97, 116]⟩ : ByteArray)), .v (.string (⟨#[116, 97, 112, 101]⟩ : ByteArray)), .v (.string (⟨#[112, 114, 111, 103]⟩ : ByteArray)), .v (.string (⟨#[109, 101, 109]⟩ : ByteArray)), .v (.string (⟨#[99, 121, 99, 108, 101, 115]⟩ : ByteArray))]) rfl rfl rfl <| rAl 2 rfl rfl <| rSt rfl <| rE 4 <| cSeq <| cReg rfl <| oR 1 rfl <| rNeed (x := .ptr 2 10) rfl rfl rfl (⟨by decide, by decide⟩) <| oR 2 rfl ?_
  refine rE 8 <| cRet ?_
  exact finTA rfl trivial rfl rfl
theorem dName_11  : DCall C0 23 [vI 11] (vS (nameL 11)) := by
  refine DCall.intro c0Ok Tryd.func23 rfl rfl (by kernel_rfl) rfl <| cSeq <| cReg rfl <| oR 1 rfl <| rE 1 <| cSeq <| cReg rfl <| rOk (x := .agg [.v (.string (⟨#[109, 111, 100, 101]⟩ : ByteArray)), .v (.string (⟨#[119, 105, 100, 116, 104]⟩ : ByteArray)), .v (.string (⟨#[114, 111, 98]⟩ : ByteArray)), .v (.string (⟨#[113, 117, 101, 117, 101]⟩ : ByteArray)), .v (.string (⟨#[115, 116, 111, 114, 101, 115]⟩ : ByteArray)), .v (.string (⟨#[115, 108, 111, 116, 115]⟩ : ByteArray)), .v (.string (⟨#[115, 101, 116, 115]⟩ : ByteArray)), .v (.string (⟨#[119, 97, 121, 115]⟩ : ByteArray)), .v (.string (⟨#[103, 117, 101, 115, 115]⟩ : ByteArray)), .v (.string (⟨#[108, 97, 116]⟩ : ByteArray)), .v (.string (⟨#[116, 97, 112, 101]⟩ : ByteArray)), .v (.string (⟨#[112, 114, 111, 103]⟩ : ByteArray)), .v (.string (⟨#[109, 101, 109]⟩ : ByteArray)), .v (.string (⟨#[99, 121, 99, 108, 101, 115]⟩ : ByteArray))]) rfl rfl rfl <| rAl 2 rfl rfl <| rSt rfl <| rE 4 <| cSeq <| cReg rfl <| oR 1 rfl <| rNeed (x := .ptr 2 11) rfl rfl rfl (⟨by decide, by decide⟩) <| oR 2 rfl ?_
  refine rE 8 <| cRet ?_
  exact finTA rfl trivial rfl rfl
theorem dName_12  : DCall C0 23 [vI 12] (vS (nameL 12)) := by
  refine DCall.intro c0Ok Tryd.func23 rfl rfl (by kernel_rfl) rfl <| cSeq <| cReg rfl <| oR 1 rfl <| rE 1 <| cSeq <| cReg rfl <| rOk (x := .agg [.v (.string (⟨#[109, 111, 100, 101]⟩ : ByteArray)), .v (.string (⟨#[119, 105, 100, 116, 104]⟩ : ByteArray)), .v (.string (⟨#[114, 111, 98]⟩ : ByteArray)), .v (.string (⟨#[113, 117, 101, 117, 101]⟩ : ByteArray)), .v (.string (⟨#[115, 116, 111, 114, 101, 115]⟩ : ByteArray)), .v (.string (⟨#[115, 108, 111, 116, 115]⟩ : ByteArray)), .v (.string (⟨#[115, 101, 116, 115]⟩ : ByteArray)), .v (.string (⟨#[119, 97, 121, 115]⟩ : ByteArray)), .v (.string (⟨#[103, 117, 101, 115, 115]⟩ : ByteArray)), .v (.string (⟨#[108, 97, 116]⟩ : ByteArray)), .v (.string (⟨#[116, 97, 112, 101]⟩ : ByteArray)), .v (.string (⟨#[112, 114, 111, 103]⟩ : ByteArray)), .v (.string (⟨#[109, 101, 109]⟩ : ByteArray)), .v (.string (⟨#[99, 121, 99, 108, 101, 115]⟩ : ByteArray))]) rfl rfl rfl <| rAl 2 rfl rfl <| rSt rfl <| rE 4 <| cSeq <| cReg rfl <| oR 1 rfl <| rNeed (x := .ptr 2 12) rfl rfl rfl (⟨by decide, by decide⟩) <| oR 2 rfl ?_
  refine rE 8 <| cRet ?_
  exact finTA rfl trivial rfl rfl
theorem dName_13  : DCall C0 23 [vI 13] (vS (nameL 13)) := by
  refine DCall.intro c0Ok Tryd.func23 rfl rfl (by kernel_rfl) rfl <| cSeq <| cReg rfl <| oR 1 rfl <| rE 1 <| cSeq <| cReg rfl <| rOk (x := .agg [.v (.string (⟨#[109, 111, 100, 101]⟩ : ByteArray)), .v (.string (⟨#[119, 105, 100, 116, 104]⟩ : ByteArray)), .v (.string (⟨#[114, 111, 98]⟩ : ByteArray)), .v (.string (⟨#[113, 117, 101, 117, 101]⟩ : ByteArray)), .v (.string (⟨#[115, 116, 111, 114, 101, 115]⟩ : ByteArray)), .v (.string (⟨#[115, 108, 111, 116, 115]⟩ : ByteArray)), .v (.string (⟨#[115, 101, 116, 115]⟩ : ByteArray)), .v (.string (⟨#[119, 97, 121, 115]⟩ : ByteArray)), .v (.string (⟨#[103, 117, 101, 115, 115]⟩ : ByteArray)), .v (.string (⟨#[108, 97, 116]⟩ : ByteArray)), .v (.string (⟨#[116, 97, 112, 101]⟩ : ByteArray)), .v (.string (⟨#[112, 114, 111, 103]⟩ : ByteArray)), .v (.string (⟨#[109, 101, 109]⟩ : ByteArray)), .v (.string (⟨#[99, 121, 99, 108, 101, 115]⟩ : ByteArray))]) rfl rfl rfl <| rAl 2 rfl rfl <| rSt rfl <| rE 4 <| cSeq <| cReg rfl <| oR 1 rfl <| rNeed (x := .ptr 2 13) rfl rfl rfl (⟨by decide, by decide⟩) <| oR 2 rfl ?_
  refine rE 8 <| cRet ?_
  exact finTA rfl trivial rfl rfl
theorem dName (k : Nat) (hk : k < 14) : DCall C0 23 [vN k] (vS (nameL k)) := by
  rcases k with _ | _ | _ | _ | _ | _ | _ | _ | _ | _ | _ | _ | _ | _ | k
  · exact dName_0
  · exact dName_1
  · exact dName_2
  · exact dName_3
  · exact dName_4
  · exact dName_5
  · exact dName_6
  · exact dName_7
  · exact dName_8
  · exact dName_9
  · exact dName_10
  · exact dName_11
  · exact dName_12
  · exact dName_13
  exact absurd hk (by omega)
theorem dMode_0  : DCall C0 46 [vI 0] (vS (modeW 0)) := by
  refine DCall.intro c0Ok Tryd.func46 rfl rfl (by kernel_rfl) rfl <| cSeq <| cReg rfl <| oR 1 rfl <| rE 1 <| cSeq <| cReg rfl <| rOk (x := .agg [.v (.string (⟨#[111, 102, 102]⟩ : ByteArray)), .v (.string (⟨#[116, 97, 105, 110, 116]⟩ : ByteArray)), .v (.string (⟨#[115, 116, 114, 105, 99, 116]⟩ : ByteArray))]) rfl rfl rfl <| rAl 2 rfl rfl <| rSt rfl <| rE 4 <| cSeq <| cReg rfl <| oR 1 rfl <| rNeed (x := .ptr 2 0) rfl rfl rfl (⟨by decide, by decide⟩) <| oR 2 rfl ?_
  refine rE 8 <| cRet ?_
  exact finTA rfl trivial rfl rfl
theorem dMode_1  : DCall C0 46 [vI 1] (vS (modeW 1)) := by
  refine DCall.intro c0Ok Tryd.func46 rfl rfl (by kernel_rfl) rfl <| cSeq <| cReg rfl <| oR 1 rfl <| rE 1 <| cSeq <| cReg rfl <| rOk (x := .agg [.v (.string (⟨#[111, 102, 102]⟩ : ByteArray)), .v (.string (⟨#[116, 97, 105, 110, 116]⟩ : ByteArray)), .v (.string (⟨#[115, 116, 114, 105, 99, 116]⟩ : ByteArray))]) rfl rfl rfl <| rAl 2 rfl rfl <| rSt rfl <| rE 4 <| cSeq <| cReg rfl <| oR 1 rfl <| rNeed (x := .ptr 2 1) rfl rfl rfl (⟨by decide, by decide⟩) <| oR 2 rfl ?_
  refine rE 8 <| cRet ?_
  exact finTA rfl trivial rfl rfl
theorem dMode_2  : DCall C0 46 [vI 2] (vS (modeW 2)) := by
  refine DCall.intro c0Ok Tryd.func46 rfl rfl (by kernel_rfl) rfl <| cSeq <| cReg rfl <| oR 1 rfl <| rE 1 <| cSeq <| cReg rfl <| rOk (x := .agg [.v (.string (⟨#[111, 102, 102]⟩ : ByteArray)), .v (.string (⟨#[116, 97, 105, 110, 116]⟩ : ByteArray)), .v (.string (⟨#[115, 116, 114, 105, 99, 116]⟩ : ByteArray))]) rfl rfl rfl <| rAl 2 rfl rfl <| rSt rfl <| rE 4 <| cSeq <| cReg rfl <| oR 1 rfl <| rNeed (x := .ptr 2 2) rfl rfl rfl (⟨by decide, by decide⟩) <| oR 2 rfl ?_
  refine rE 8 <| cRet ?_
  exact finTA rfl trivial rfl rfl
theorem dMode (a : Int) (h : 0 ≤ a ∧ a ≤ 2) : DCall C0 46 [vI a] (vS (modeW a)) := by
  have : a = 0 ∨ a = 1 ∨ a = 2 := by omega
  rcases this with rfl | rfl | rfl
  · exact dMode_0
  · exact dMode_1
  · exact dMode_2
def digB_ (m w k : Nat) : List UInt8 := List.replicate (m - k) 0 ++ digH w k
theorem digH_cons : ∀ (k w : Nat), digH w (k + 1) = hexD ((w / 2 ^ (4 * k)) % 16) :: digH w k
  | 0, w => by show [] ++ [hexD (w % 16)] = [hexD (w / 1 % 16)]; rw [Nat.div_one]; rfl
  | k + 1, w => by
    show digH (w / 16) (k + 1) ++ [hexD (w % 16)] = _
    rw [digH_cons k (w / 16)]
    show hexD _ :: (digH (w / 16) k ++ [hexD (w % 16)]) = hexD _ :: (digH (w / 16) k ++ [hexD (w % 16)])
    rw [show 4 * (k + 1) = 4 + 4 * k by omega, Nat.pow_add, ← Nat.div_div_eq_div_mul]
theorem digB_len {m w k : Nat} (h : k ≤ m) : (digB_ m w k).length = m := by unfold digB_; rw [List.length_append, List.length_replicate, digH_len]; omega
theorem digB_next {m w k : Nat} (h : k < m) : (digB_ m w k).set (m - 1 - k) (hexD ((w / 2 ^ (4 * k)) % 16)) = digB_ m w (k + 1) := by
  unfold digB_
  rw [digH_cons, show m - k = (m - 1 - k) + 1 by omega, List.replicate_succ', show m - (k + 1) = m - 1 - k by omega, List.append_assoc, List.set_append_right _ _ (by rw [List.length_replicate]; omega), List.length_replicate, Nat.sub_self]; rfl
theorem digB_end (m w : Nat) : digB_ m w m = digH w m := by unfold digB_; rw [Nat.sub_self]; rfl
theorem and15 (x : Nat) : x &&& 15 = x % 16 := Nat.and_two_pow_sub_one_eq_mod x 4
theorem dDig8 (w : Nat) (hw : w ≤ 4294967295) : DCall C0 58 [vU w, vI 8] (vS (digH w 8)) := by
  refine DCall.intro c0Ok Tryd.func58 rfl rfl (by kernel_rfl) rfl <| cSeq <| cReg rfl <| oR 1 rfl <| rE 1 <| cSeq <| cReg rfl <| oR 1 rfl <| rFx (x := .osl 2 0 8 false) (h' := upd _ 2 (some (.arr ((List.replicate 8 0).map row8) 1))) rfl rfl (mk_eq (List.map_replicate (f := row8) (a := 0)).symm) (⟨by decide, by decide, by show ((8 : Nat) : Int) ≤ 1000000; omega⟩) <| oR 1 rfl <| rE 4 <| cSeq <| cSeq <| cReg rfl <| oR 1 rfl <| rOk (x := vN 8) rfl rfl rfl ?_
  refine oR 1 rfl <| rE 7 <| cBlock <| cLoop (κ := Nat) (fun k => ⟨slotsF [(0, vU w), (1, vN 8), (4, .v (.string (⟨#[]⟩ : ByteArray))), (5, .osl 2 0 8 false), (10, vN 8), (11, vN k)], heapF [(2, .arr ((digB_ 8 w k).map row8) 1)], 7⟩) (fun k => k ≤ 8) (fun k => 8 - k) 0 (fun s => s) (Weak.of_lists (fun s => s) wT ⟨⟨rfl, (congrArg (fun z : List UInt8 => some (Blk.arr (z.map row8) 1)) (show List.replicate 8 0 = digB_ 8 w 0 from (List.append_nil _).symm)), rfl⟩, trivial⟩ rfl) (Nat.zero_le _) ?_
  intro k hk
  have hkn : k ≤ 8 := hk
  have hkB : k ≤ 8 := by omega
  have hKl : (digB_ 8 w k).length = 8 := digB_len (by omega)
  refine cSeq <| cReg rfl <| rOk (x := vB (decide (k < 8))) rfl rfl (okB (ltN _ _)) <| rE 8 <| cSeq ?_
  refine cCond rfl (fun h1 => ?_) (fun h1 => ?_)
  · have h1p := of_decide_eq_true h1
    refine cSkip <| cSeq <| cBlock <| cSeq <| cReg rfl <| oR 2 rfl <| rE 10 <| cReg rfl <| oR 2 rfl <| rOk (x := vN 7) rfl rfl rfl <| oR 1 rfl <| rOk (x := vN (7 - k)) rfl rfl (okI (subN64 (a := 7) (b := k) (by omega) (Nat.le_refl 7) rfl)) <| oR 2 rfl ?_
    have b1 : 4 * k ≤ 32 := Nat.mul_le_mul (Nat.le_refl 4) hkB
    refine rOk (x := vN (4 * k)) rfl rfl (okI (wrapI64 b1 rfl)) ?_
    have b2 : w / 2 ^ (4 * k) ≤ 4294967295 := Nat.le_trans (Nat.div_le_self _ _) hw
    refine rNeed (x := vU (w / 2 ^ (4 * k))) rfl rfl (needI (shrI32 (4 * k) hw rfl)) (Int.natCast_nonneg _) ?_
    have b3 : (w / 2 ^ (4 * k)) % 16 ≤ 15 := by omega
    refine rOk (x := vU ((w / 2 ^ (4 * k)) % 16)) rfl rfl (okI (by rw [← and15]; exact andI32 b2 (Nat.le_refl 15) rfl rfl)) <| rNeed (x := .v (.int .u8 (((hexD (((w / 2 ^ (4 * k)) % 16))).toNat : Nat) : Int))) rfl rfl (needI (hx_at (by omega))) (⟨Int.natCast_nonneg _, Int.ofNat_lt.2 (by show (((w / 2 ^ (4 * k)) % 16)) < 16; omega)⟩) <| rNeed (x := .ptr2 2 (0 + (7 - k)) 0) rfl rfl rfl ixT ?_
    obtain ⟨x1, hx1⟩ : ∃ y_, (digB_ 8 w k)[(7 - k)]? = some y_ := ⟨_, List.getElem?_eq_getElem omT⟩
    have hx2 : ((digB_ 8 w k).set (7 - k) (hexD (((w / 2 ^ (4 * k)) % 16))))[(7 - k)]? = some (hexD (((w / 2 ^ (4 * k)) % 16))) := List.getElem?_set_self omT
    refine rIdxFx (row8 x1) (h' := upd _ 2 (some (.arr (((digB_ 8 w k).set (7 - k) (hexD (((w / 2 ^ (4 * k)) % 16)))).map row8) 1))) rfl rfl rfl (⟨Int.natCast_nonneg _, getZ (getM hx1)⟩) (set_eqZ (f := row8) (l := digB_ 8 w k) (k := (7 - k)) (x := (hexD (((w / 2 ^ (4 * k)) % 16))))) <| rE 23 <| cReg rfl ?_
    have b4 : k + 1 ≤ 9 := Nat.add_le_add hkB (Nat.le_refl 1)
    refine rOk (x := vN (k + 1)) rfl rfl (okI (wrapI64 b4 rfl)) <| oR 1 rfl <| rE 25 ?_
    refine ⟨k + 1, fun s => s, Weak.of_lists (fun s => s) wT ⟨⟨rfl, (congrArg (fun z : List UInt8 => some (Blk.arr (z.map row8) 1)) (digB_next (by omega))), rfl⟩, trivial⟩ rfl, by omega, by show 8 - (k + 1) < 8 - k; omega⟩
  · have h1p := of_decide_eq_false h1
    refine cExit <| cSeq <| cReg rfl <| oR 1 rfl <| rStr (digB_ 8 w k) (d := 28) rfl rfl rfl ((by show 0 + 8 ≤ ((digB_ 8 w k).map row8).length; rw [List.length_map, hKl]; omega)) (rows8 hKl) <| oR 1 rfl <| rE 11 <| cRet ?_
    have hk8 : k = 8 := by have := of_decide_eq_false h1; omega
    subst hk8
    exact finTA rfl trivial rfl (congrArg vS (digB_end 8 w))
theorem dDig2 (w : Nat) (hw : w ≤ 4294967295) : DCall C0 58 [vU w, vI 2] (vS (digH w 2)) := by
  refine DCall.intro c0Ok Tryd.func58 rfl rfl (by kernel_rfl) rfl <| cSeq <| cReg rfl <| oR 1 rfl <| rE 1 <| cSeq <| cReg rfl <| oR 1 rfl <| rFx (x := .osl 2 0 2 false) (h' := upd _ 2 (some (.arr ((List.replicate 2 0).map row8) 1))) rfl rfl (mk_eq (List.map_replicate (f := row8) (a := 0)).symm) (⟨by decide, by decide, by show ((2 : Nat) : Int) ≤ 1000000; omega⟩) <| oR 1 rfl <| rE 4 <| cSeq <| cSeq <| cReg rfl <| oR 1 rfl <| rOk (x := vN 2) rfl rfl rfl ?_
  refine oR 1 rfl <| rE 7 <| cBlock <| cLoop (κ := Nat) (fun k => ⟨slotsF [(0, vU w), (1, vN 2), (4, .v (.string (⟨#[]⟩ : ByteArray))), (5, .osl 2 0 2 false), (10, vN 2), (11, vN k)], heapF [(2, .arr ((digB_ 2 w k).map row8) 1)], 7⟩) (fun k => k ≤ 2) (fun k => 2 - k) 0 (fun s => s) (Weak.of_lists (fun s => s) wT ⟨⟨rfl, (congrArg (fun z : List UInt8 => some (Blk.arr (z.map row8) 1)) (show List.replicate 2 0 = digB_ 2 w 0 from (List.append_nil _).symm)), rfl⟩, trivial⟩ rfl) (Nat.zero_le _) ?_
  intro k hk
  have hkn : k ≤ 2 := hk
  have hkB : k ≤ 2 := by omega
  have hKl : (digB_ 2 w k).length = 2 := digB_len (by omega)
  refine cSeq <| cReg rfl <| rOk (x := vB (decide (k < 2))) rfl rfl (okB (ltN _ _)) <| rE 8 <| cSeq ?_
  refine cCond rfl (fun h1 => ?_) (fun h1 => ?_)
  · have h1p := of_decide_eq_true h1
    refine cSkip <| cSeq <| cBlock <| cSeq <| cReg rfl <| oR 2 rfl <| rE 10 <| cReg rfl <| oR 2 rfl <| rOk (x := vN 1) rfl rfl rfl <| oR 1 rfl <| rOk (x := vN (1 - k)) rfl rfl (okI (subN64 (a := 1) (b := k) (by omega) (Nat.le_refl 1) rfl)) <| oR 2 rfl ?_
    have b1 : 4 * k ≤ 8 := Nat.mul_le_mul (Nat.le_refl 4) hkB
    refine rOk (x := vN (4 * k)) rfl rfl (okI (wrapI64 b1 rfl)) ?_
    have b2 : w / 2 ^ (4 * k) ≤ 4294967295 := Nat.le_trans (Nat.div_le_self _ _) hw
    refine rNeed (x := vU (w / 2 ^ (4 * k))) rfl rfl (needI (shrI32 (4 * k) hw rfl)) (Int.natCast_nonneg _) ?_
    have b3 : (w / 2 ^ (4 * k)) % 16 ≤ 15 := by omega
    refine rOk (x := vU ((w / 2 ^ (4 * k)) % 16)) rfl rfl (okI (by rw [← and15]; exact andI32 b2 (Nat.le_refl 15) rfl rfl)) <| rNeed (x := .v (.int .u8 (((hexD (((w / 2 ^ (4 * k)) % 16))).toNat : Nat) : Int))) rfl rfl (needI (hx_at (by omega))) (⟨Int.natCast_nonneg _, Int.ofNat_lt.2 (by show (((w / 2 ^ (4 * k)) % 16)) < 16; omega)⟩) <| rNeed (x := .ptr2 2 (0 + (1 - k)) 0) rfl rfl rfl ixT ?_
    obtain ⟨x1, hx1⟩ : ∃ y_, (digB_ 2 w k)[(1 - k)]? = some y_ := ⟨_, List.getElem?_eq_getElem omT⟩
    have hx2 : ((digB_ 2 w k).set (1 - k) (hexD (((w / 2 ^ (4 * k)) % 16))))[(1 - k)]? = some (hexD (((w / 2 ^ (4 * k)) % 16))) := List.getElem?_set_self omT
    refine rIdxFx (row8 x1) (h' := upd _ 2 (some (.arr (((digB_ 2 w k).set (1 - k) (hexD (((w / 2 ^ (4 * k)) % 16)))).map row8) 1))) rfl rfl rfl (⟨Int.natCast_nonneg _, getZ (getM hx1)⟩) (set_eqZ (f := row8) (l := digB_ 2 w k) (k := (1 - k)) (x := (hexD (((w / 2 ^ (4 * k)) % 16))))) <| rE 23 <| cReg rfl ?_
    have b4 : k + 1 ≤ 3 := Nat.add_le_add hkB (Nat.le_refl 1)
    refine rOk (x := vN (k + 1)) rfl rfl (okI (wrapI64 b4 rfl)) <| oR 1 rfl <| rE 25 ?_
    refine ⟨k + 1, fun s => s, Weak.of_lists (fun s => s) wT ⟨⟨rfl, (congrArg (fun z : List UInt8 => some (Blk.arr (z.map row8) 1)) (digB_next (by omega))), rfl⟩, trivial⟩ rfl, by omega, by show 2 - (k + 1) < 2 - k; omega⟩
  · have h1p := of_decide_eq_false h1
    refine cExit <| cSeq <| cReg rfl <| oR 1 rfl <| rStr (digB_ 2 w k) (d := 28) rfl rfl rfl ((by show 0 + 2 ≤ ((digB_ 2 w k).map row8).length; rw [List.length_map, hKl]; omega)) (rows8 hKl) <| oR 1 rfl <| rE 11 <| cRet ?_
    have hk8 : k = 2 := by have := of_decide_eq_false h1; omega
    subst hk8
    exact finTA rfl trivial rfl (congrArg vS (digB_end 2 w))
def decA (w : W) : AV := match readD w with | some n => .tup [vI n, vB true] | none => .tup [vI 0, vB false]
theorem decA_none {w : W} (h : ¬ (decOk w ∧ w.length ≤ 9)) : AV.tup [vI 0, vB false] = decA w := by unfold decA readD; rw [if_neg h]
theorem decA_some {w : W} (h : decOk w ∧ w.length ≤ 9) : AV.tup [vN (decV w), vB true] = decA w := by unfold decA readD; rw [if_pos h]
theorem head_getD {w : W} {c : UInt8} (h : w ≠ []) : w.head? = some c ↔ w.getD 0 0 = c := by
  cases w with
  | nil => exact absurd rfl h
  | cons x w => exact ⟨fun q => Option.some.inj q, fun q => congrArg some q⟩
theorem digB_iff {x : UInt8} : digB x = true ↔ 48 ≤ x.toNat ∧ x.toNat ≤ 57 := by unfold digB; simp
theorem dig_next {w : W} {k : Nat} (hk : k < w.length) (hP : ∀ x ∈ w.take k, digB x = true) (h : digB (w.getD k 0) = true) : ∀ x ∈ w.take (k + 1), digB x = true := fun x hx => by
  rw [getD_take hk] at hx
  rcases List.mem_append.1 hx with hx | hx
  · exact hP x hx
  · rw [List.mem_singleton.1 hx]; exact h
theorem getD_mem {w : W} {k : Nat} (hk : k < w.length) : w.getD k 0 ∈ w := by
  rw [List.getD_eq_getElem?_getD, List.getElem?_eq_getElem hk]; exact List.getElem_mem hk
theorem decV_next {w : W} {k : Nat} (hk : k < w.length) (h : digB (w.getD k 0) = true) : 10 * decV (w.take k) + ((w.getD k 0).toNat + 256 - 48) % 256 = decV (w.take (k + 1)) := by
  rw [getD_take hk, decV_snoc]
  have := digB_iff.1 h
  omega
theorem decV_lt : ∀ (k : Nat) (w : W), (∀ x ∈ w.take k, digB x = true) → decV (w.take k) < 10 ^ k
  | 0, w, _ => by show 0 < 1; omega
  | k + 1, w, h => by
    by_cases hk : k < w.length
    · rw [getD_take hk, decV_snoc]
      rw [getD_take hk] at h
      have h1 := decV_lt k w (fun x hx => h x (List.mem_append_left _ hx))
      have h2 := digB_iff.1 (h (w.getD k 0) (by simp))
      rw [Nat.pow_succ]; omega
    · have e : w.take (k + 1) = w.take k := by rw [List.take_of_length_le (by omega), List.take_of_length_le (by omega)]
      rw [e] at h ⊢
      have := decV_lt k w h
      rw [Nat.pow_succ]; omega
theorem decK_le {w : W} {k : Nat} (h : ∀ x ∈ w.take k, digB x = true) (hk : k ≤ 9) : decV (w.take k) ≤ 1000000000 := by
  have h1 := decV_lt k w h
  have : 10 ^ k ≤ 10 ^ 9 := Nat.pow_le_pow_right (by decide) hk
  omega
theorem dDecimal (w : List UInt8) (hw : w.length ≤ 900000) : DCall C0 42 [vS w] (decA w) := by
  refine DCall.intro c0Ok Tryd.func42 rfl rfl (by kernel_rfl) rfl <| cSeq <| cReg rfl <| oR 2 rfl <| rE 2 <| cSeq <| cSeq <| cReg rfl <| oR 1 rfl <| rOk (x := vB (decide (w = []))) rfl rfl (okBo (eq_tL w ([]))) <| oR 1 rfl <| gN rfl <| gBS (x := vN w.length) rfl id rfl <| gBS (x := vB (decide (w.length > 9))) rfl id (okB (gtN _ _)) <| rNeed rfl rfl rfl (by simp) <| oR 1 rfl ?_
  refine gN rfl <| gNeedS (x := .v (.int .u8 (((w.getD 0 0).toNat : Nat) : Int))) (g := !(cond2 (decide (w = [])) true (decide (w.length > 9)))) rfl rfl rfl rfl (fun h => h) rfl rfl (fun hg => ⟨by decide, Int.ofNat_lt.2 (by show 0 < w.length; simp only [cOr, Bool.not_eq_true', Bool.or_eq_false_iff, decide_eq_false_iff_not] at hg; exact List.length_pos_iff.2 hg.1)⟩) <| gBS (x := vB (((w.getD 0 0).toNat) == 48)) rfl id (okB (eqN _ _)) <| gS rfl id <| gN rfl <| gBS (x := vB (!decide (w = [48]))) rfl id (okBo (congrArg (!·) (eq_tL w ([48])))) <| gNeedS (x := vB (cond2 (((w.getD 0 0).toNat) == 48) (!decide (w = [48])) false)) (g := !(cond2 (decide (w = [])) true (decide (w.length > 9)))) rfl rfl rfl rfl (fun h => h) rfl rfl (fun hg hc => by first | (rw [hg, hc]; rfl) | simp_all) <| rNeed rfl rfl rfl (by simp) <| rE 18 ?_
  refine cCond rfl (fun h1 => ?_) (fun h1 => ?_)
  · have hB : ¬ (decOk w ∧ w.length ≤ 9) := fun ⟨q1, q2⟩ => by
      have q3 := q1.1
      have q4 := q1.2.2
      rw [head_getD q3] at q4
      simp only [cOr, cAnd, Bool.or_eq_true, Bool.and_eq_true, decide_eq_true_eq, beq_iff_eq, Bool.not_eq_true', decide_eq_false_iff_not] at h1
      rcases h1 with (q | q) | q
      · exact q3 q
      · omega
      · exact q.2 (q4 (u8_eq (by rw [q.1]; rfl)))
    refine cSeq <| cReg rfl <| oR 2 rfl <| rE 20 <| cRet ?_
    exact finTA rfl trivial rfl (decA_none hB)
  · obtain ⟨hw0, hw9, hwz⟩ : w ≠ [] ∧ w.length ≤ 9 ∧ (w.getD 0 0 = 48 → w = [48]) := by
      simp only [cOr, cAnd, Bool.or_eq_false_iff, Bool.and_eq_false_iff, decide_eq_false_iff_not, beq_eq_false_iff_ne, ne_eq, Bool.not_eq_false', decide_eq_true_eq] at h1
      refine ⟨h1.1.1, by have := h1.1.2; omega, fun q => ?_⟩
      rcases h1.2 with z | z
      · exact absurd (by rw [q]; rfl) z
      · exact z
    refine cSkip <| cSeq <| cReg rfl <| oR 1 rfl <| rE 19 <| cSeq <| cSeq <| cReg rfl <| oR 1 rfl <| rOk (x := vN w.length) rfl rfl rfl <| oR 1 rfl <| rE 22 <| cBlock <| cLoop (κ := Nat) (fun k => ⟨slotsF [(0, vS w), (21, vB (cond2 (cond2 (decide (w = [])) true (decide (w.length > 9))) true (cond2 (((w.getD 0 0).toNat) == 48) (!decide (w = [48])) false))), (23, vN w.length), (4, vN (decV (w.take k))), (24, vN k)], heapF [], 22⟩) (fun k => k ≤ w.length ∧ ∀ x ∈ w.take k, digB x = true) (fun k => w.length - k) 0 (fun s => s) (Weak.of_lists (fun s => s) wT trivial rfl) (⟨Nat.zero_le _, (fun x h => absurd h List.not_mem_nil)⟩) ?_
    intro k hk
    have hkn : k ≤ w.length := hk.1
    have hkB : k ≤ 9 := by omega
    refine cSeq <| cReg rfl <| rOk (x := vB (decide (k < w.length))) rfl rfl (okB (ltN _ _)) <| rE 23 <| cSeq ?_
    refine cCond rfl (fun h2 => ?_) (fun h2 => ?_)
    · have h2p := of_decide_eq_true h2
      refine cSkip <| cSeq <| cBlock <| cSeq <| cReg rfl <| oR 2 rfl <| rE 25 <| cSeq <| cSeq <| cReg rfl <| oR 2 rfl <| rNeed (x := .v (.int .u8 (((w.getD k 0).toNat : Nat) : Int))) rfl rfl rfl (⟨Int.natCast_nonneg _, Int.ofNat_lt.2 (by show k < w.length; omega)⟩) <| rOk (x := vB (decide (((w.getD k 0).toNat) < 48))) rfl rfl (okB (ltN _ _)) <| oR 1 rfl <| gN rfl <| gN rfl ?_
      refine gNeedS (x := .v (.int .u8 (((w.getD k 0).toNat : Nat) : Int))) (g := !(decide (((w.getD k 0).toNat) < 48))) rfl rfl rfl rfl (fun h => by first | (simp_all; done) | exact (Bool.and_eq_true_iff.1 h).1 | exact Bool.and_eq_true_iff.2 ⟨h, h⟩) rfl rfl (fun hg => ⟨Int.natCast_nonneg _, Int.ofNat_lt.2 (by show k < w.length; omega)⟩) <| gBS (x := vB (decide (((w.getD k 0).toNat) > 57))) rfl id (okB (gtN _ _)) <| rNeed rfl rfl rfl (by simp) <| rE 35 ?_
      refine cCond rfl (fun h3 => ?_) (fun h3 => ?_)
      · have hB : ¬ (decOk w ∧ w.length ≤ 9) := fun ⟨q1, q2⟩ => by have q3 := digB_iff.1 (q1.2.1 _ (getD_mem (k := k) (by omega))); simp only [cOr, Bool.or_eq_true, decide_eq_true_eq] at h3; omega
        refine cSeq <| cReg rfl <| oR 2 rfl <| rE 37 <| cRet ?_
        exact finTA rfl trivial rfl (decA_none hB)
      · have hD : digB (w.getD k 0) = true := digB_iff.2 (by simp only [cOr, Bool.or_eq_false_iff, decide_eq_false_iff_not] at h3; omega)
        refine cSkip <| cReg rfl <| oR 1 rfl ?_
        have b1 : 10 * (decV (w.take k)) ≤ 10000000000 := Nat.mul_le_mul (Nat.le_refl 10) (decK_le hk.2 (by omega))
        refine rOk (x := vN (10 * (decV (w.take k)))) rfl rfl (okI (wrapI64 b1 rfl)) <| oR 2 rfl <| rNeed (x := .v (.int .u8 (((w.getD k 0).toNat : Nat) : Int))) rfl rfl rfl (⟨Int.natCast_nonneg _, Int.ofNat_lt.2 (by show k < w.length; omega)⟩) ?_
        have b2 : (((w.getD k 0).toNat) + 256 - 48) % 256 ≤ 255 := Nat.le_of_lt_succ (Nat.mod_lt _ (by decide))
        refine rOk (x := .v (.int .u8 (((((w.getD k 0).toNat) + 256 - 48) % 256 : Nat) : Int))) rfl rfl (okI (subI8 (Nat.le_refl 48) rfl)) <| rOk (x := vN ((((w.getD k 0).toNat) + 256 - 48) % 256)) rfl rfl (okI (wrapI64 b2 rfl)) ?_
        have b3 : (10 * (decV (w.take k))) + ((((w.getD k 0).toNat) + 256 - 48) % 256) ≤ 10000000255 := Nat.add_le_add b1 b2
        refine rOk (x := vN ((10 * (decV (w.take k))) + ((((w.getD k 0).toNat) + 256 - 48) % 256))) rfl rfl (okI (wrapI64 b3 rfl)) <| oR 1 rfl <| rE 44 <| cReg rfl ?_
        have b4 : k + 1 ≤ 10 := Nat.add_le_add hkB (Nat.le_refl 1)
        refine rOk (x := vN (k + 1)) rfl rfl (okI (wrapI64 b4 rfl)) <| oR 1 rfl <| rE 46 ?_
        refine ⟨k + 1, fun s => s, Weak.of_lists (fun s => s) ⟨⟨rfl, rfl⟩, ⟨rfl, rfl⟩, ⟨rfl, rfl⟩, ⟨(congrArg vN (decV_next (by omega) hD)), rfl⟩, ⟨rfl, rfl⟩, trivial⟩ trivial rfl, ⟨by omega, dig_next (by omega) hk.2 hD⟩, by show w.length - (k + 1) < w.length - k; omega⟩
    · have h2p := of_decide_eq_false h2
      refine cExit <| cSeq <| cReg rfl <| oR 3 rfl <| rE 26 <| cRet ?_
      have hT : w.take k = w := List.take_of_length_le (by have := of_decide_eq_false h2; omega)
      have hP := hk.2
      rw [hT] at hP
      refine finTA rfl trivial rfl ?_
      show AV.tup [vN (decV (w.take k)), vB true] = _
      rw [hT]; exact decA_some ⟨⟨hw0, hP, fun q => hwz ((head_getD hw0).1 q)⟩, hw9⟩
def hexIx (c : UInt8) : Int := if hexB c = true then (hexN c : Int) else -1
abbrev hexS : ByteArray := ⟨#[48, 49, 50, 51, 52, 53, 54, 55, 56, 57, 97, 98, 99, 100, 101, 102]⟩
def HexIx : Prop := ∀ c : UInt8, DCall C0 65 [.v (.string hexS), .v (.int .u8 ((c.toNat : Nat) : Int))] (vI (hexIx c))
theorem ix_neg {c : UInt8} (h : hexIx c < 0) : ¬ hexB c = true := fun q => by unfold hexIx at h; rw [if_pos q] at h; omega
theorem ix_pos {c : UInt8} (h : ¬ hexIx c < 0) : hexB c = true ∧ hexIx c = (hexN c : Int) := by
  unfold hexIx at h ⊢
  split
  · rename_i q; exact ⟨q, rfl⟩
  · rename_i q; rw [if_neg q] at h; omega
def codA (w : W) : AV := match readC w with | some n => .tup [vU n, vB true] | none => .tup [vU 0, vB false]
theorem codA_none {w : W} (h : ¬ (w.length = 8 ∧ ∀ x ∈ w, hexB x = true)) : AV.tup [vU 0, vB false] = codA w := by unfold codA readC; rw [if_neg h]
theorem codA_some {w : W} (h : w.length = 8 ∧ ∀ x ∈ w, hexB x = true) : AV.tup [vU (codV w), vB true] = codA w := by unfold codA readC; rw [if_pos h]
theorem hex_next {w : W} {k : Nat} (hk : k < w.length) (hP : ∀ x ∈ w.take k, hexB x = true) (h : hexB (w.getD k 0) = true) : ∀ x ∈ w.take (k + 1), hexB x = true := fun x hx => by
  rw [getD_take hk] at hx
  rcases List.mem_append.1 hx with hx | hx
  · exact hP x hx
  · rw [List.mem_singleton.1 hx]; exact h
theorem codV_lt : ∀ (k : Nat) (w : W), (∀ x ∈ w.take k, hexB x = true) → codV (w.take k) < 16 ^ k
  | 0, w, _ => by show 0 < 1; omega
  | k + 1, w, h => by
    by_cases hk : k < w.length
    · rw [getD_take hk, codV_snoc]
      rw [getD_take hk] at h
      have h1 := codV_lt k w (fun x hx => h x (List.mem_append_left _ hx))
      have h2 := (hex_lt (h (w.getD k 0) (by simp))).1
      rw [Nat.pow_succ]; omega
    · have e : w.take (k + 1) = w.take k := by rw [List.take_of_length_le (by omega), List.take_of_length_le (by omega)]
      rw [e] at h ⊢
      have := codV_lt k w h
      rw [Nat.pow_succ]; omega
theorem codK_le {w : W} {k : Nat} (h : ∀ x ∈ w.take k, hexB x = true) (hk : k ≤ 8) : codV (w.take k) ≤ 4294967295 := by
  have h1 := codV_lt k w h
  have : 16 ^ k ≤ 16 ^ 8 := Nat.pow_le_pow_right (by decide) hk
  omega
theorem codK_le7 {w : W} {k : Nat} (h : ∀ x ∈ w.take k, hexB x = true) (hk : k ≤ 7) : 16 * codV (w.take k) ≤ 4294967280 := by
  have h1 := codV_lt k w h
  have : 16 ^ k ≤ 16 ^ 7 := Nat.pow_le_pow_right (by decide) hk
  omega
theorem or16 {a d : Nat} (h : d < 16) : 16 * a ||| d = 16 * a + d := by
  have := Nat.two_pow_add_eq_or_of_lt (i := 4) h a
  show 2 ^ 4 * a ||| d = _
  rw [← this]
theorem shl32 {a : Nat} (h : 16 * a ≤ 4294967280) : IntKind.wrap .u32 ((a : Int) * 2 ^ (min (Int.toNat (4 : Int)) (IntKind.bits .u32))) = ((16 * a : Nat) : Int) := by
  show IntKind.wrap .u32 ((a : Int) * 2 ^ (min 4 32)) = _
  rw [show ((a : Int) * 2 ^ (min 4 32)) = ((16 * a : Nat) : Int) by rw [show min 4 32 = 4 by decide]; omega]
  exact wrap32 (by omega)
theorem codV_next {w : W} {k : Nat} (hk : k < w.length) (h : hexB (w.getD k 0) = true) : (16 * codV (w.take k) ||| hexN (w.getD k 0)) = codV (w.take (k + 1)) := by
  rw [getD_take hk, codV_snoc, or16 (hex_lt h).1]
theorem dCode (hB : HexIx) (w : List UInt8) (hw : w.length ≤ 900000) : DCall C0 44 [vS w] (codA w) := by
  refine DCall.intro c0Ok Tryd.func44 rfl rfl (by kernel_rfl) rfl <| cSeq <| cReg rfl <| oR 2 rfl <| rE 2 <| cSeq <| cSeq <| cReg rfl <| oR 1 rfl <| rOk (x := vN w.length) rfl rfl rfl <| rOk (x := vB (w.length != 8)) rfl rfl (okB (neN _ _)) <| rE 5 ?_
  refine cCond rfl (fun h1 => ?_) (fun h1 => ?_)
  · have h1p := bne_t h1
    refine cSeq <| cReg rfl <| oR 2 rfl <| rE 7 <| cRet ?_
    exact finTA rfl trivial rfl (codA_none (fun q => by have := h1; simp at this; exact this q.1))
  · have h1p := bne_f h1
    have h8 : w.length = 8 := by simpa using h1
    refine cSkip <| cSeq <| cReg rfl <| oR 1 rfl <| rE 6 <| cSeq <| cSeq <| cReg rfl <| oR 1 rfl <| rOk (x := vN w.length) rfl rfl rfl <| oR 1 rfl <| rE 9 <| cBlock <| cLoop (κ := Nat) (fun k => ⟨slotsF [(0, vS w), (9, vB (w.length != 8)), (11, vN w.length), (4, vU (codV (w.take k))), (12, vN k)], heapF [], 9⟩) (fun k => k ≤ w.length ∧ ∀ x ∈ w.take k, hexB x = true) (fun k => w.length - k) 0 (fun s => s) (Weak.of_lists (fun s => s) wT trivial rfl) (⟨Nat.zero_le _, (fun x h => absurd h List.not_mem_nil)⟩) ?_
    intro k hk
    have hkn : k ≤ w.length := hk.1
    have hkB : k ≤ 8 := by omega
    have h16 : k < w.length → 16 * codV (w.take k) ≤ 4294967280 := fun q => codK_le7 hk.2 (by omega)
    refine cSeq <| cReg rfl <| rOk (x := vB (decide (k < w.length))) rfl rfl (okB (ltN _ _)) <| rE 10 <| cSeq ?_
    refine cCond rfl (fun h2 => ?_) (fun h2 => ?_)
    · have h2p := of_decide_eq_true h2
      refine cSkip <| cSeq <| cBlock <| cSeq <| cReg rfl <| oR 2 rfl <| rE 12 <| cSeq <| cReg rfl <| oR 2 rfl <| rNeed (x := .v (.int .u8 (((w.getD k 0).toNat : Nat) : Int))) rfl rfl rfl (⟨Int.natCast_nonneg _, Int.ofNat_lt.2 (by show k < w.length; omega)⟩) <| rCl rfl (.inl rfl) (hB (w.getD k 0)) <| oR 1 rfl <| rE 17 <| cSeq <| cSeq ?_
      refine cReg rfl <| oR 1 rfl <| rOk (x := vB (decide ((hexIx (w.getD k 0)) < 0))) rfl rfl rfl <| rE 19 ?_
      refine cCond rfl (fun h3 => ?_) (fun h3 => ?_)
      · have h3p := of_decide_eq_true h3
        have hN := ix_neg (of_decide_eq_true h3)
        refine cSeq <| cReg rfl <| oR 2 rfl <| rE 21 <| cRet ?_
        exact finTA rfl trivial rfl (codA_none (fun q => hN (q.2 _ (getD_mem (by omega)))))
      · have h3p := of_decide_eq_false h3
        obtain ⟨hH, hX⟩ := ix_pos (of_decide_eq_false h3)
        have hl := (hex_lt hH).1
        refine cSkip <| cReg rfl <| oR 1 rfl <| rNeed (x := vU (16 * codV (w.take k))) rfl rfl (needI (shl32 (h16 (by omega)))) (by decide) <| rOk (x := vN (hexN (w.getD k 0))) rfl rfl (okI hX) <| rOk (x := vU (hexN (w.getD k 0))) rfl rfl (okI (modI (Nat.le_of_lt_succ hl) rfl)) ?_
        have b1 : (16 * codV (w.take k)) ||| (hexN (w.getD k 0)) ≤ 4294967295 := orLe32 (h16 (by omega)) (Nat.le_of_lt_succ hl) rfl rfl
        refine rOk (x := vU ((16 * codV (w.take k)) ||| (hexN (w.getD k 0)))) rfl rfl (okI (orI32 (h16 (by omega)) (Nat.le_of_lt_succ hl) rfl rfl)) <| oR 1 rfl <| rE 25 <| cReg rfl ?_
        have b2 : k + 1 ≤ 9 := Nat.add_le_add hkB (Nat.le_refl 1)
        refine rOk (x := vN (k + 1)) rfl rfl (okI (wrapI64 b2 rfl)) <| oR 1 rfl <| rE 27 ?_
        refine ⟨k + 1, fun s => s, Weak.of_lists (fun s => s) ⟨⟨rfl, rfl⟩, ⟨rfl, rfl⟩, ⟨rfl, rfl⟩, ⟨(congrArg vU (codV_next (by omega) hH)), rfl⟩, ⟨rfl, rfl⟩, trivial⟩ trivial rfl, ⟨by omega, hex_next (by omega) hk.2 hH⟩, by show w.length - (k + 1) < w.length - k; omega⟩
    · have h2p := of_decide_eq_false h2
      refine cExit <| cSeq <| cReg rfl <| oR 3 rfl <| rE 13 <| cRet ?_
      have hT : w.take k = w := List.take_of_length_le (by have := of_decide_eq_false h2; omega)
      have hP := hk.2
      rw [hT] at hP
      refine finTA rfl trivial rfl ?_
      show AV.tup [vU (codV (w.take k)), vB true] = _
      rw [hT]; exact codA_some ⟨h8, hP⟩
def bytA (w : W) : AV := match pairL w with | some b => .tup [vS b, vB true] | none => .tup [vS [], vB false]
theorem bytA_none {w : W} (h : pairL w = none) : AV.tup [vS [], vB false] = bytA w := by unfold bytA; rw [h]
theorem bytA_some {w b : W} (h : pairL w = some b) : AV.tup [vS b, vB true] = bytA w := by unfold bytA; rw [h]
def pairK (w : W) (k : Nat) : W := (List.range k).map fun i => UInt8.ofNat (16 * hexN (w.getD (2 * i) 0) + hexN (w.getD (2 * i + 1) 0))
theorem pairK_next (w : W) (k : Nat) : pairK w k ++ [UInt8.ofNat (16 * hexN (w.getD (2 * k) 0) + hexN (w.getD (2 * k + 1) 0))] = pairK w (k + 1) := by unfold pairK; rw [List.range_succ, List.map_append]; rfl
theorem pairK_len (w : W) (k : Nat) : (pairK w k).length = k := by unfold pairK; rw [List.length_map, List.length_range]
def PairP (w : W) (k : Nat) : Prop := ∀ i, i < k → hexB (w.getD (2 * i) 0) = true ∧ hexB (w.getD (2 * i + 1) 0) = true
theorem pair_odd : ∀ (k : Nat) (w : W), w.length = 2 * k + 1 → pairL w = none
  | 0, [x], _ => rfl
  | k + 1, x :: y :: t, h => by
    unfold pairL; rw [pair_odd k t (by simp at h; omega)]; split <;> rfl
  | 0, [], h => by simp at h
  | 0, _ :: _ :: _, h => by simp at h
  | k + 1, [], h => by simp at h
  | k + 1, [_], h => by simp at h
theorem pairP_cons {x y : UInt8} {t : W} {k : Nat} : PairP (x :: y :: t) (k + 1) ↔ (hexB x = true ∧ hexB y = true) ∧ PairP t k := by
  constructor
  · intro h
    exact ⟨h 0 (by omega), fun i hi => h (i + 1) (by omega)⟩
  · rintro ⟨h1, h2⟩ i hi
    cases i with
    | zero => exact h1
    | succ i => exact h2 i (by omega)
theorem pair_yes : ∀ (k : Nat) (w : W), w.length = 2 * k → PairP w k → pairL w = some (pairK w k)
  | 0, [], _, _ => rfl
  | 0, _ :: _, h, _ => by simp at h
  | k + 1, [], h, _ => by simp at h
  | k + 1, [_], h, _ => by simp at h; omega
  | k + 1, x :: y :: t, h, hp => by
    obtain ⟨h1, h2⟩ := pairP_cons.1 hp
    unfold pairL; rw [if_pos h1, pair_yes k t (by simp at h; omega) h2]
    unfold pairK
    rw [List.range_succ_eq_map, List.map_cons, List.map_map]; rfl
theorem pair_no : ∀ (k : Nat) (w : W), w.length = 2 * k → ¬ PairP w k → pairL w = none
  | 0, w, _, hp => absurd (fun i hi => absurd hi (Nat.not_lt_zero _)) hp
  | k + 1, [], h, _ => by simp at h
  | k + 1, [_], h, _ => by simp at h; omega
  | k + 1, x :: y :: t, h, hp => by
    unfold pairL
    split
    · rename_i h1
      rw [pair_no k t (by simp at h; omega) (fun q => hp (pairP_cons.2 ⟨h1, q⟩))]; rfl
    · rfl
theorem shl64 {a : Nat} (h : a ≤ 15) : IntKind.wrap .i64 ((a : Int) * 2 ^ (min (Int.toNat (4 : Int)) (IntKind.bits .i64))) = ((16 * a : Nat) : Int) := by
  show IntKind.wrap .i64 ((a : Int) * 2 ^ (min 4 64)) = _
  rw [show ((a : Int) * 2 ^ (min 4 64)) = ((16 * a : Nat) : Int) by rw [show min 4 64 = 4 by decide]; omega]
  exact wrap_i64 (by omega) (by omega)
theorem or64 {a d : Nat} (h : a ≤ 15) (h2 : d ≤ 15) : IntKind.wrap .i64 (BitVec.ofInt (IntKind.bits .i64) ((16 * a : Nat) : Int) ||| BitVec.ofInt (IntKind.bits .i64) (d : Int)).toNat = ((16 * a + d : Nat) : Int) := by
  show IntKind.wrap .i64 (BitVec.ofInt 64 ((16 * a : Nat) : Int) ||| BitVec.ofInt 64 (d : Int)).toNat = _
  have e : ∀ x : Nat, x ≤ 255 → (BitVec.ofInt 64 (x : Int)).toNat = x := fun x hx => by rw [BitVec.toNat_ofInt]; omega
  rw [BitVec.toNat_or, e _ (by omega), e _ (by omega), or16 (by omega)]
  exact wrap_i64 (by omega) (by omega)
theorem cvt8 (a : Nat) : IntKind.wrap .u8 (a : Int) = (((UInt8.ofNat a).toNat : Nat) : Int) := by
  have e : (UInt8.ofNat a).toNat = a % 256 := rfl
  rw [e]
  simp only [IntKind.wrap, IntKind.signed, IntKind.bits]
  simp
theorem dBytes (hB : HexIx) (w : List UInt8) (hw : w.length ≤ 900000) : DCall C0 47 [vS w] (bytA w) := by
  refine DCall.intro c0Ok Tryd.func47 rfl rfl (by kernel_rfl) rfl <| cSeq <| cReg rfl <| oR 2 rfl <| rE 2 <| cSeq <| cSeq <| cReg rfl <| oR 1 rfl <| rOk (x := vN w.length) rfl rfl rfl ?_
  have b1 : w.length % 2 ≤ 900000 := Nat.le_trans (Nat.mod_le _ _) hw
  refine rNeed (x := vN (w.length % 2)) rfl rfl (needI (tmodN _ _)) omT <| rOk (x := vB ((w.length % 2) != 0)) rfl rfl (okB (neN _ _)) <| rE 6 ?_
  refine cCond rfl (fun h1 => ?_) (fun h1 => ?_)
  · have h1p := bne_t h1
    refine cSeq <| cReg rfl <| oR 2 rfl <| rE 8 <| cRet ?_
    exact finTA rfl trivial rfl (bytA_none (pair_odd (w.length / 2) w (by have := h1p; omega)))
  · have h1p := bne_f h1
    have hev : w.length % 2 = 0 := by simpa using h1
    refine cSkip <| cSeq <| cReg rfl <| oR 1 rfl <| rOk (x := vN w.length) rfl rfl rfl ?_
    have b2 : w.length / 2 ≤ 450000 := by omega
    refine rNeed (x := vN (w.length / 2)) rfl rfl (needI (by rw [show Int.tdiv ((w.length : Nat) : Int) 2 = ((w.length / 2 : Nat) : Int) from rfl]; exact wrap_i64 (by omega) (by omega))) (by decide) <| rFx (x := .osl 9 0 0 false) (h' := upd _ 9 (some (.arr (([] : List UInt8).map row8) 1))) rfl rfl (rfl) (⟨by decide, Int.ofNat_le.2 omT, by show (((w.length / 2) : Nat) : Int) ≤ 1000000; omega⟩) <| oR 1 rfl <| rE 11 <| cSeq <| cSeq <| cReg rfl <| oR 1 rfl <| rE 12 <| cBlock <| cLoop (κ := Nat) (fun k => ⟨slotsF [(0, vS w), (2, .v (.string (⟨#[]⟩ : ByteArray))), (3, vB false), (4, .osl 12 0 k false), (5, vN (2 * k))], heapF [(12, .arr ((pairK w k).map row8) 1)], 13⟩) (fun k => 2 * k ≤ w.length ∧ PairP w k) (fun k => w.length - 2 * k) 0 (fun i => match i with | 12 => 9 | i => i) (Weak.of_lists (fun i => match i with | 12 => 9 | i => i) wT wH rfl) (⟨Nat.zero_le _, fun i hi => absurd hi (Nat.not_lt_zero _)⟩) ?_
    intro k hk
    have hkk : 2 * k ≤ w.length := hk.1
    have hkB : k ≤ 900000 := by omega
    have hkC : 2 * k ≤ 1800000 := by omega
    have hKl := pairK_len w k
    refine cSeq <| cSeq <| cReg rfl <| oR 2 rfl <| rOk (x := vN w.length) rfl rfl rfl <| rOk (x := vB (decide ((2 * k) < w.length))) rfl rfl (okB (ltN _ _)) <| rE 17 ?_
    refine cCond rfl (fun h2 => ?_) (fun h2 => ?_)
    · have h2p := of_decide_eq_true h2
      refine cSkip <| cSeq <| cBlock <| cSeq <| cReg rfl <| oR 2 rfl <| rNeed (x := .v (.int .u8 (((w.getD (2 * k) 0).toNat : Nat) : Int))) rfl rfl rfl (⟨Int.natCast_nonneg _, Int.ofNat_lt.2 (by show (2 * k) < w.length; omega)⟩) <| rCl rfl (.inl rfl) (hB (w.getD (2 * k) 0)) <| oR 1 rfl <| rE 22 <| cSeq <| cReg rfl <| oR 2 rfl ?_
      have b3 : (2 * k) + 1 ≤ 1800001 := Nat.add_le_add hkC (Nat.le_refl 1)
      refine rOk (x := vN ((2 * k) + 1)) rfl rfl (okI (wrapI64 b3 rfl)) <| rNeed (x := .v (.int .u8 (((w.getD ((2 * k) + 1) 0).toNat : Nat) : Int))) rfl rfl rfl (⟨Int.natCast_nonneg _, Int.ofNat_lt.2 (by show ((2 * k) + 1) < w.length; omega)⟩) <| rCl rfl (.inl rfl) (hB (w.getD ((2 * k) + 1) 0)) <| oR 1 rfl <| rE 28 <| cSeq <| cSeq <| cReg rfl <| oR 1 rfl <| rOk (x := vB (decide ((hexIx (w.getD (2 * k) 0)) < 0))) rfl rfl rfl <| oR 1 rfl <| gN rfl <| gBS (x := vB (decide ((hexIx (w.getD ((2 * k) + 1) 0)) < 0))) rfl id rfl <| rNeed rfl rfl rfl (by simp) <| rE 34 ?_
      refine cCond rfl (fun h3 => ?_) (fun h3 => ?_)
      · have hN : ¬ PairP w (w.length / 2) := fun q => by have q2 := q k (by omega); simp only [cOr, Bool.or_eq_true, decide_eq_true_eq] at h3; rcases h3 with z | z; exact ix_neg z q2.1; exact ix_neg z q2.2
        refine cSeq <| cReg rfl <| oR 2 rfl <| rE 36 <| cRet ?_
        exact finTA rfl trivial rfl (bytA_none (pair_no (w.length / 2) w (by omega) hN))
      · simp only [cOr, Bool.or_eq_false_iff, decide_eq_false_iff_not] at h3
        obtain ⟨hH, hX⟩ := ix_pos h3.1
        obtain ⟨hH2, hX2⟩ := ix_pos h3.2
        have hl := Nat.le_of_lt_succ (hex_lt hH).1
        have hl2 := Nat.le_of_lt_succ (hex_lt hH2).1
        refine cSkip <| cReg rfl <| oR 1 rfl <| rOk (x := vN (hexN (w.getD (2 * k) 0))) rfl rfl (okI hX) <| rNeed (x := vN (16 * hexN (w.getD (2 * k) 0))) rfl rfl (needI (shl64 hl)) (by decide) <| rOk (x := vN (hexN (w.getD (2 * k + 1) 0))) rfl rfl (okI hX2) <| rOk (x := vN (16 * hexN (w.getD (2 * k) 0) + hexN (w.getD (2 * k + 1) 0))) rfl rfl (okI (or64 hl hl2)) <| rOk (x := .v (.int .u8 (((UInt8.ofNat (16 * hexN (w.getD (2 * k) 0) + hexN (w.getD (2 * k + 1) 0))).toNat : Nat) : Int))) rfl rfl (okI (cvt8 _)) <| rOk (x := .sl 1 ([[.v (.int .u8 (((UInt8.ofNat (16 * hexN (w.getD (2 * k) 0) + hexN (w.getD (2 * k + 1) 0))).toNat : Nat) : Int))]]) true) rfl rfl rfl <| rFx (x := .osl 41 0 (k + 1) false) (h' := upd (upd _ 12 none) 41 (some (.arr (((pairK w k) ++ ([(UInt8.ofNat (16 * hexN (w.getD (2 * k) 0) + hexN (w.getD (2 * k + 1) 0)))])).map row8) 1))) rfl rfl (app_own row8 (pairK w k) ([(UInt8.ofNat (16 * hexN (w.getD (2 * k) 0) + hexN (w.getD (2 * k + 1) 0)))]) omT omT) (⟨by exact omT, by exact omT, trivial⟩) <| oR 1 rfl <| rE 43 <| cReg rfl <| oR 1 rfl ?_
        have b4 : (2 * k) + 2 ≤ 1800002 := Nat.add_le_add hkC (Nat.le_refl 2)
        refine rOk (x := vN ((2 * k) + 2)) rfl rfl (okI (wrapI64 b4 rfl)) <| oR 1 rfl <| rE 46 ?_
        refine ⟨k + 1, fun i => match i with | 12 => 41 | i => i, Weak.of_lists (fun i => match i with | 12 => 41 | i => i) ⟨⟨rfl, rfl⟩, ⟨rfl, rfl⟩, ⟨rfl, rfl⟩, ⟨(show AV.osl 41 0 (k + 1) false = AV.osl 41 0 (k + 1) false from rfl), rfl⟩, ⟨rfl, rfl⟩, trivial⟩ ⟨⟨rfl, (congrArg (fun z : List UInt8 => some (Blk.arr (z.map row8) 1)) (pairK_next w k)), rfl⟩, trivial⟩ rfl, ⟨by omega, fun i hi => by rcases Nat.lt_or_ge i k with q | q; exact hk.2 i q; obtain rfl : i = k := (by omega); exact ⟨hH, hH2⟩⟩, by show w.length - 2 * (k + 1) < w.length - 2 * k; omega⟩
    · have h2p := of_decide_eq_false h2
      refine cExit <| cSeq <| cReg rfl <| oR 1 rfl <| rStr (pairK w k) (d := 46) rfl rfl rfl ((by show 0 + k ≤ ((pairK w k).map row8).length; rw [List.length_map, pairK_len]; omega)) (own8 (by rw [pairK_len]; omega)) <| oR 2 rfl <| rE 21 <| cRet ?_
      exact finTA rfl trivial rfl (bytA_some (pair_yes k w (by have := of_decide_eq_false h2; omega) hk.2))
theorem dDecimal2 (w : W) (hw : w.length ≤ 900000) : DCall C0 42 [vS w] (.tup [vI ((readD w).getD 0), vB (readD w).isSome]) := by
  have h := dDecimal w hw
  unfold decA at h
  cases hr : readD w with
  | none => rw [hr] at h; exact h
  | some n => rw [hr] at h; exact h
theorem dCode2 (hB : HexIx) (w : W) (hw : w.length ≤ 900000) : DCall C0 44 [vS w] (.tup [vU ((readC w).getD 0), vB (readC w).isSome]) := by
  have h := dCode hB w hw
  unfold codA at h
  cases hr : readC w with
  | none => rw [hr] at h; exact h
  | some n => rw [hr] at h; exact h
theorem dBytes2 (hB : HexIx) (w : W) (hw : w.length ≤ 900000) : DCall C0 47 [vS w] (.tup [vS ((pairL w).getD []), vB (pairL w).isSome]) := by
  have h := dBytes hB w hw
  unfold bytA at h
  cases hr : pairL w with
  | none => rw [hr] at h; exact h
  | some n => rw [hr] at h; exact h
theorem readC_le (w : W) : (readC w).getD 0 ≤ 4294967295 := by
  unfold readC
  split
  · rename_i h
    show codV w ≤ _
    have := codK_le (w := w) (k := 8) (by rw [List.take_of_length_le (by omega)]; exact h.2) (Nat.le_refl _)
    rwa [List.take_of_length_le (by omega)] at this
  · decide
theorem prt_next {α : Type} {g : W → α} {t : List W} {k : Nat} {x : W} (h : t[k]? = some x) : (t.take k).map g ++ [g x] = (t.take (k + 1)).map g := by rw [List.take_add_one, h, List.map_append]; rfl
theorem prt_P {p : W → Bool} {t : List W} {k : Nat} {x : W} (h : t[k]? = some x) (hP : ∀ w ∈ t.take k, p w = true) (hx : p x = true) : ∀ w ∈ t.take (k + 1), p w = true := fun w hw => by
  rw [List.take_add_one, h] at hw
  rcases List.mem_append.1 hw with hw | hw
  · exact hP w hw
  · rw [List.mem_singleton.1 hw]; exact hx
theorem parts_yes {α : Type} {rd : W → Option α} {z : α} : ∀ {t : List W}, (∀ w ∈ t, (rd w).isSome = true) → partsL rd t = some (t.map fun w => (rd w).getD z)
  | [], _ => rfl
  | w :: t, h => by
    have h1 := h w List.mem_cons_self
    unfold partsL
    cases hr : rd w with
    | none => rw [hr] at h1; cases h1
    | some a =>
      show (partsL rd t).map (a :: ·) = _
      rw [parts_yes (z := z) (fun v hv => h v (List.mem_cons_of_mem _ hv)), List.map_cons, hr]; rfl
theorem parts_no {α : Type} {rd : W → Option α} {x : W} : ∀ {t : List W}, x ∈ t → rd x = none → partsL rd t = none
  | [], h, _ => absurd h List.not_mem_nil
  | w :: t, h, hx => by
    unfold partsL
    cases hr : rd w with
    | none => rfl
    | some a =>
      rcases List.mem_cons.1 h with e | e
      · rw [← e, hx] at hr; cases hr
      · show (partsL rd t).map (a :: ·) = _
        rw [parts_no e hx]; rfl
def prtA {α : Type} (row : α → List AV) : Option (List α) → AV
  | some l => .tup [.sl 1 (l.map row) false, vB true]
  | none => .tup [.sl 0 [] true, vB false]
def prtB {α : Type} (row : α → List AV) : Option (List α) → AV
  | some l => .tup [.sl 1 (l.map row) l.isEmpty, vB true]
  | none => .tup [.sl 1 [] true, vB false]
theorem dPartsIE (t : List W) (ck : Bool) (ht : t.length ≤ 900000) (hT : t.length = 0) : DCall C0 41 [.sl 1 (t.map rowS) ck, .clo 42 [] []] (.tup [.sl 0 [] true, vB true]) := by
  refine DCall.intro c0Ok Tryd.func41 rfl rfl (by kernel_rfl) rfl <| cSeq <| cReg rfl <| oR 2 rfl <| rE 2 <| cSeq <| cReg rfl <| oR 1 rfl <| rE 3 <| cSeq <| cSeq <| cReg rfl <| oR 1 rfl <| rOk (x := vN t.length) rfl rfl (lenMap rowS t) <| oR 1 rfl <| rE 6 ?_
  refine cBlock <| cLoop (κ := Nat) (fun k => ⟨slotsF [(1, .clo 42 [] []), (11, .sl 1 (t.map rowS) ck), (12, vN t.length), (6, .sl 0 ([]) true), (13, vN k)], heapF [], 6⟩) (fun k => k ≤ t.length) (fun k => t.length - k) 0 (fun s => s) (Weak.of_lists (fun s => s) wT trivial rfl) (Nat.zero_le _) ?_
  intro k hk
  have hkn : k ≤ t.length := hk
  have hkB : k ≤ 900000 := by omega
  refine cSeq <| cReg rfl <| rOk (x := vB (decide (k < t.length))) rfl rfl (okB (ltN _ _)) <| rE 7 <| cSeq ?_
  refine cCond rfl (fun h1 => by exact absurd (of_decide_eq_true h1) (by omega)) (fun _ => ?_)
  refine cExit <| cSeq <| cReg rfl <| oR 3 rfl <| rE 10 <| cRet ?_
  exact finTA rfl trivial rfl rfl
theorem dPartsIO (t : List W) (ck : Bool) (ht : t.length ≤ 900000) (hw : ∀ x ∈ t, x.length ≤ 900000) (hT : ¬ t.length = 0) : DCall C0 41 [.sl 1 (t.map rowS) ck, .clo 42 [] []] (prtA rowI (partsL readD t)) := by
  refine DCall.intro c0Ok Tryd.func41 rfl rfl (by kernel_rfl) rfl <| cSeq <| cReg rfl <| oR 2 rfl <| rE 2 <| cSeq <| cReg rfl <| oR 1 rfl <| rE 3 <| cSeq <| cSeq <| cReg rfl <| oR 1 rfl <| rOk (x := vN t.length) rfl rfl (lenMap rowS t) <| oR 1 rfl <| rE 6 ?_
  refine cBlock <| cLoop (κ := Nat × Bool) (fun z_ => match z_ with | (k, false) => ⟨slotsF [(1, .clo 42 [] []), (11, .sl 1 (t.map rowS) ck), (12, vN t.length), (13, vN k), (6, .sl 0 ([]) true)], heapF [], 7⟩ | (k, true) => ⟨slotsF [(1, .clo 42 [] []), (11, .sl 1 (t.map rowS) ck), (12, vN t.length), (13, vN k), (6, .osl 6 0 (((t.take k).map (fun w => (readD w).getD 0)).length) false)], heapF [(6, .arr (((t.take k).map (fun w => (readD w).getD 0)).map rowI) 1)], 7⟩) (fun z_ => match z_ with | (k, false) => (k ≤ t.length ∧ (t.take k).map (fun w => (readD w).getD 0) = [] ∧ ∀ w ∈ t.take k, (readD w).isSome = true) | (k, true) => (k ≤ t.length ∧ ∀ w ∈ t.take k, (readD w).isSome = true)) (fun z_ => t.length - z_.1) (0, false) (fun s => s) (Weak.of_lists (fun s => s) wT trivial rfl) (⟨Nat.zero_le _, (show (t.take 0).map (fun w => (readD w).getD 0) = [] from rfl), (fun x h => absurd h List.not_mem_nil)⟩) ?_
  intro z_ hk
  obtain ⟨k, b_⟩ := z_; cases b_
  · have hk_ := hk
    have hnn : k ≤ t.length := hk_.1
    have hkB : k ≤ 1000000 := by omega
    have hNk : (t.take k).map (fun w => (readD w).getD 0) = [] := hk_.2.1
    have hPk : ∀ w ∈ t.take k, (readD w).isSome = true := hk_.2.2
    refine cSeq <| cReg rfl <| rOk (x := vB (decide (k < t.length))) rfl rfl (okB (ltN _ _)) <| rE 8 <| cSeq ?_
    refine cCond rfl (fun h1 => ?_) (fun h1 => ?_)
    · have h1p := of_decide_eq_true h1
      refine cSkip <| cSeq <| cBlock <| cSeq <| cReg rfl ?_
      obtain ⟨x, hx⟩ : ∃ y_, t[k]? = some y_ := ⟨_, List.getElem?_eq_getElem omT⟩
      have hxo := hw x (List.mem_of_getElem? hx)
      refine rIdx (rowS x) (x := .dp 1 0 (rowS x)) rfl rfl rfl (⟨Int.natCast_nonneg _, getM hx⟩) rfl <| oR 2 rfl <| rE 11 <| cSeq <| cReg rfl <| oR 2 rfl <| rCl rfl (.inl rfl) (dDecimal2 x hxo) <| oR 5 rfl <| rE 19 <| cSeq <| cSeq <| cReg rfl <| oR 2 rfl <| rE 21 ?_
      refine cCond rfl (fun h2 => ?_) (fun h2 => ?_)
      · refine cSeq <| cReg rfl <| oR 2 rfl <| rE 23 <| cRet <| finTA rfl (by repeat' (first | exact trivial | constructor)) rfl ?_
        rw [parts_no (x := x) (List.mem_of_getElem? hx) (by simpa using h2)]; rfl
      · refine cSkip <| cReg rfl <| oR 2 rfl <| rOk (x := .sl 1 ([[vI ((readD x).getD 0)]]) true) rfl rfl rfl <| rFx (x := .osl 24 0 1 false) (h' := upd _ 24 (some (.arr (([((readD x).getD 0 : Int)]).map rowI) 1))) rfl rfl (app_nil omT) (⟨rfl, by exact omT, by exact omT, trivial⟩) <| oR 1 rfl <| rE 26 <| cReg rfl ?_
        have b1 : k + 1 ≤ 1000001 := Nat.add_le_add hkB (Nat.le_refl 1)
        refine rOk (x := vN (k + 1)) rfl rfl (okI (wrapI64 b1 rfl)) <| oR 1 rfl <| rE 28 ?_
        refine ⟨(k + 1, true), fun i => match i with | 6 => 24 | i => i, Weak.of_lists (fun i => match i with | 6 => 24 | i => i) ⟨⟨rfl, rfl⟩, ⟨rfl, rfl⟩, ⟨rfl, rfl⟩, ⟨rfl, rfl⟩, ⟨(show AV.osl 24 0 (1) false = AV.osl 24 0 ((t.take (k + 1)).map (fun w => (readD w).getD 0)).length false from by rw [← (show [((readD x).getD 0 : Int)] = (t.take (k + 1)).map (fun w => (readD w).getD 0) from (by rw [← (prt_next hx), hNk]; rfl))]; first | done | rfl | (congr 1 <;> (first | exact omT | simp))), rfl⟩, trivial⟩ ⟨⟨rfl, (congrArg (fun z : List Int => some (Blk.arr (z.map rowI) 1)) (show [((readD x).getD 0 : Int)] = (t.take (k + 1)).map (fun w => (readD w).getD 0) from (by rw [← (prt_next hx), hNk]; rfl))), rfl⟩, trivial⟩ rfl, ⟨by omega, prt_P hx hPk (by simpa using h2)⟩, by show t.length - (k + 1) < t.length - k; omega⟩
    · have h1p := of_decide_eq_false h1
      refine cExit <| cSeq <| cReg rfl <| oR 3 rfl <| rE 11 <| cRet ?_
      exact absurd (by have q := congrArg List.length hNk; rw [List.length_map, List.length_take] at q; have q2 : min k t.length = 0 := q; omega : t.length = 0) hT
  · have hk_ := hk
    have hnn : k ≤ t.length := hk_.1
    have hkB : k ≤ 1000000 := by omega
    have hPk : ∀ w ∈ t.take k, (readD w).isSome = true := hk_.2
    have habk : ((t.take k).map (fun w => (readD w).getD 0)).length ≤ 900000 := (by rw [List.length_map, List.length_take]; omega)
    refine cSeq <| cReg rfl <| rOk (x := vB (decide (k < t.length))) rfl rfl (okB (ltN _ _)) <| rE 8 <| cSeq ?_
    refine cCond rfl (fun h3 => ?_) (fun h3 => ?_)
    · have h3p := of_decide_eq_true h3
      refine cSkip <| cSeq <| cBlock <| cSeq <| cReg rfl ?_
      obtain ⟨x, hx⟩ : ∃ y_, t[k]? = some y_ := ⟨_, List.getElem?_eq_getElem omT⟩
      have hxo := hw x (List.mem_of_getElem? hx)
      refine rIdx (rowS x) (x := .dp 1 0 (rowS x)) rfl rfl rfl (⟨Int.natCast_nonneg _, getM hx⟩) rfl <| oR 2 rfl <| rE 11 <| cSeq <| cReg rfl <| oR 2 rfl <| rCl rfl (.inl rfl) (dDecimal2 x hxo) <| oR 5 rfl <| rE 19 <| cSeq <| cSeq <| cReg rfl <| oR 2 rfl <| rE 21 ?_
      refine cCond rfl (fun h4 => ?_) (fun h4 => ?_)
      · refine cSeq <| cReg rfl <| oR 2 rfl <| rE 23 <| cRet <| finTA rfl (by repeat' (first | exact trivial | constructor)) rfl ?_
        rw [parts_no (x := x) (List.mem_of_getElem? hx) (by simpa using h4)]; rfl
      · refine cSkip <| cReg rfl <| oR 2 rfl <| rOk (x := .sl 1 ([[vI ((readD x).getD 0)]]) true) rfl rfl rfl <| rFx (x := .osl 24 0 (((t.take k).map (fun w => (readD w).getD 0)).length + 1) false) (h' := upd (upd _ 6 none) 24 (some (.arr ((((t.take k).map (fun w => (readD w).getD 0)) ++ ([((readD x).getD 0 : Int)])).map rowI) 1))) rfl rfl (app_own rowI ((t.take k).map (fun w => (readD w).getD 0)) ([((readD x).getD 0 : Int)]) omT omT) (⟨by exact omT, by exact omT, trivial⟩) <| oR 1 rfl <| rE 26 <| cReg rfl ?_
        have b2 : k + 1 ≤ 1000001 := Nat.add_le_add hkB (Nat.le_refl 1)
        refine rOk (x := vN (k + 1)) rfl rfl (okI (wrapI64 b2 rfl)) <| oR 1 rfl <| rE 28 ?_
        refine ⟨(k + 1, true), fun i => match i with | 6 => 24 | i => i, Weak.of_lists (fun i => match i with | 6 => 24 | i => i) ⟨⟨rfl, rfl⟩, ⟨rfl, rfl⟩, ⟨rfl, rfl⟩, ⟨rfl, rfl⟩, ⟨(show AV.osl 24 0 (((t.take k).map (fun w => (readD w).getD 0)).length + 1) false = AV.osl 24 0 ((t.take (k + 1)).map (fun w => (readD w).getD 0)).length false from by rw [← (show ((t.take k).map (fun w => (readD w).getD 0)) ++ ([((readD x).getD 0 : Int)]) = (t.take (k + 1)).map (fun w => (readD w).getD 0) from prt_next hx)]; first | done | rfl | (congr 1 <;> (first | exact omT | simp))), rfl⟩, trivial⟩ ⟨⟨rfl, (congrArg (fun z : List Int => some (Blk.arr (z.map rowI) 1)) (show ((t.take k).map (fun w => (readD w).getD 0)) ++ ([((readD x).getD 0 : Int)]) = (t.take (k + 1)).map (fun w => (readD w).getD 0) from prt_next hx)), rfl⟩, trivial⟩ rfl, ⟨by omega, prt_P hx hPk (by simpa using h4)⟩, by show t.length - (k + 1) < t.length - k; omega⟩
    · have h3p := of_decide_eq_false h3
      refine cExit <| cSeq <| cReg rfl <| oR 3 rfl <| rE 11 <| cRet ?_
      have hT2 : t.take k = t := List.take_of_length_le (by omega)
      have hY := hPk
      rw [hT2] at hY
      refine finTA rfl ⟨(by show 0 + (((t.take k).map (fun w => (readD w).getD 0)).length) ≤ (((t.take k).map (fun w => (readD w).getD 0)).map rowI).length; exact omT), trivial, trivial⟩ rfl ?_
      show AV.tup [.sl 1 (List.take (((t.take k).map (fun w => (readD w).getD 0)).length) (List.drop 0 (((t.take k).map (fun w => (readD w).getD 0)).map rowI))) false, vB true] = _
      rw [List.drop_zero, List.take_of_length_le (by simp), hT2, parts_yes (z := 0) hY]; rfl
theorem dPartsI (t : List W) (ck : Bool) (ht : t.length ≤ 900000) (hw : ∀ x ∈ t, x.length ≤ 900000) : DCall C0 41 [.sl 1 (t.map rowS) ck, .clo 42 [] []] (prtB rowI (partsL readD t)) := by
  cases t with
  | nil => exact (dPartsIE [] ck ht rfl).rmono fun S w v h => rep_nil_tup (i := 0) (n := 1) h rfl
  | cons x t =>
    have h := dPartsIO (x :: t) ck ht hw (by simp)
    have hl : ∀ l, partsL readD (x :: t) = some l → l.isEmpty = false := fun l hl => by
      unfold partsL at hl
      split at hl
      · cases hl
      · obtain ⟨q, _, rfl⟩ := Option.map_eq_some_iff.1 hl; rfl
    cases hp : partsL readD (x :: t) with
    | none => rw [hp] at h; exact h.rmono fun S w v h => rep_nil_tup (i := 0) (n := 1) h rfl
    | some l => rw [hp] at h; show DCall C0 _ _ (.tup [.sl 1 (l.map _) l.isEmpty, vB true]); rw [hl l hp]; exact h
theorem dPartsUE (t : List W) (ck : Bool) (ht : t.length ≤ 900000) (hT : t.length = 0) : DCall C0 43 [.sl 1 (t.map rowS) ck, .clo 44 [] []] (.tup [.sl 0 [] true, vB true]) := by
  refine DCall.intro c0Ok Tryd.func43 rfl rfl (by kernel_rfl) rfl <| cSeq <| cReg rfl <| oR 2 rfl <| rE 2 <| cSeq <| cReg rfl <| oR 1 rfl <| rE 3 <| cSeq <| cSeq <| cReg rfl <| oR 1 rfl <| rOk (x := vN t.length) rfl rfl (lenMap rowS t) <| oR 1 rfl <| rE 6 ?_
  refine cBlock <| cLoop (κ := Nat) (fun k => ⟨slotsF [(1, .clo 44 [] []), (11, .sl 1 (t.map rowS) ck), (12, vN t.length), (6, .sl 0 ([]) true), (13, vN k)], heapF [], 6⟩) (fun k => k ≤ t.length) (fun k => t.length - k) 0 (fun s => s) (Weak.of_lists (fun s => s) wT trivial rfl) (Nat.zero_le _) ?_
  intro k hk
  have hkn : k ≤ t.length := hk
  have hkB : k ≤ 900000 := by omega
  refine cSeq <| cReg rfl <| rOk (x := vB (decide (k < t.length))) rfl rfl (okB (ltN _ _)) <| rE 7 <| cSeq ?_
  refine cCond rfl (fun h1 => by exact absurd (of_decide_eq_true h1) (by omega)) (fun _ => ?_)
  refine cExit <| cSeq <| cReg rfl <| oR 3 rfl <| rE 10 <| cRet ?_
  exact finTA rfl trivial rfl rfl
theorem dPartsUO (hB : HexIx) (t : List W) (ck : Bool) (ht : t.length ≤ 900000) (hw : ∀ x ∈ t, x.length ≤ 900000) (hT : ¬ t.length = 0) : DCall C0 43 [.sl 1 (t.map rowS) ck, .clo 44 [] []] (prtA rowU (partsL readC t)) := by
  refine DCall.intro c0Ok Tryd.func43 rfl rfl (by kernel_rfl) rfl <| cSeq <| cReg rfl <| oR 2 rfl <| rE 2 <| cSeq <| cReg rfl <| oR 1 rfl <| rE 3 <| cSeq <| cSeq <| cReg rfl <| oR 1 rfl <| rOk (x := vN t.length) rfl rfl (lenMap rowS t) <| oR 1 rfl <| rE 6 ?_
  refine cBlock <| cLoop (κ := Nat × Bool) (fun z_ => match z_ with | (k, false) => ⟨slotsF [(1, .clo 44 [] []), (11, .sl 1 (t.map rowS) ck), (12, vN t.length), (13, vN k), (6, .sl 0 ([]) true)], heapF [], 7⟩ | (k, true) => ⟨slotsF [(1, .clo 44 [] []), (11, .sl 1 (t.map rowS) ck), (12, vN t.length), (13, vN k), (6, .osl 6 0 (((t.take k).map (fun w => (readC w).getD 0)).length) false)], heapF [(6, .arr (((t.take k).map (fun w => (readC w).getD 0)).map rowU) 1)], 7⟩) (fun z_ => match z_ with | (k, false) => (k ≤ t.length ∧ (t.take k).map (fun w => (readC w).getD 0) = [] ∧ ∀ w ∈ t.take k, (readC w).isSome = true) | (k, true) => (k ≤ t.length ∧ ∀ w ∈ t.take k, (readC w).isSome = true)) (fun z_ => t.length - z_.1) (0, false) (fun s => s) (Weak.of_lists (fun s => s) wT trivial rfl) (⟨Nat.zero_le _, (show (t.take 0).map (fun w => (readC w).getD 0) = [] from rfl), (fun x h => absurd h List.not_mem_nil)⟩) ?_
  intro z_ hk
  obtain ⟨k, b_⟩ := z_; cases b_
  · have hk_ := hk
    have hnn : k ≤ t.length := hk_.1
    have hkB : k ≤ 1000000 := by omega
    have hNk : (t.take k).map (fun w => (readC w).getD 0) = [] := hk_.2.1
    have hPk : ∀ w ∈ t.take k, (readC w).isSome = true := hk_.2.2
    refine cSeq <| cReg rfl <| rOk (x := vB (decide (k < t.length))) rfl rfl (okB (ltN _ _)) <| rE 8 <| cSeq ?_
    refine cCond rfl (fun h1 => ?_) (fun h1 => ?_)
    · have h1p := of_decide_eq_true h1
      refine cSkip <| cSeq <| cBlock <| cSeq <| cReg rfl ?_
      obtain ⟨x, hx⟩ : ∃ y_, t[k]? = some y_ := ⟨_, List.getElem?_eq_getElem omT⟩
      have hxo := hw x (List.mem_of_getElem? hx)
      refine rIdx (rowS x) (x := .dp 1 0 (rowS x)) rfl rfl rfl (⟨Int.natCast_nonneg _, getM hx⟩) rfl <| oR 2 rfl <| rE 11 <| cSeq <| cReg rfl <| oR 2 rfl <| rCl rfl (.inl rfl) (dCode2 hB x hxo) <| oR 5 rfl <| rE 19 <| cSeq <| cSeq <| cReg rfl <| oR 2 rfl <| rE 21 ?_
      refine cCond rfl (fun h2 => ?_) (fun h2 => ?_)
      · refine cSeq <| cReg rfl <| oR 2 rfl <| rE 23 <| cRet <| finTA rfl (by repeat' (first | exact trivial | constructor)) rfl ?_
        rw [parts_no (x := x) (List.mem_of_getElem? hx) (by simpa using h2)]; rfl
      · refine cSkip <| cReg rfl <| oR 2 rfl <| rOk (x := .sl 1 ([[vU ((readC x).getD 0)]]) true) rfl rfl rfl <| rFx (x := .osl 24 0 1 false) (h' := upd _ 24 (some (.arr (([(readC x).getD 0]).map rowU) 1))) rfl rfl (app_nil omT) (⟨rfl, by exact omT, by exact omT, trivial⟩) <| oR 1 rfl <| rE 26 <| cReg rfl ?_
        have b1 : k + 1 ≤ 1000001 := Nat.add_le_add hkB (Nat.le_refl 1)
        refine rOk (x := vN (k + 1)) rfl rfl (okI (wrapI64 b1 rfl)) <| oR 1 rfl <| rE 28 ?_
        refine ⟨(k + 1, true), fun i => match i with | 6 => 24 | i => i, Weak.of_lists (fun i => match i with | 6 => 24 | i => i) ⟨⟨rfl, rfl⟩, ⟨rfl, rfl⟩, ⟨rfl, rfl⟩, ⟨rfl, rfl⟩, ⟨(show AV.osl 24 0 (1) false = AV.osl 24 0 ((t.take (k + 1)).map (fun w => (readC w).getD 0)).length false from by rw [← (show [(readC x).getD 0] = (t.take (k + 1)).map (fun w => (readC w).getD 0) from (by rw [← (prt_next hx), hNk]; rfl))]; first | done | rfl | (congr 1 <;> (first | exact omT | simp))), rfl⟩, trivial⟩ ⟨⟨rfl, (congrArg (fun z : List Nat => some (Blk.arr (z.map rowU) 1)) (show [(readC x).getD 0] = (t.take (k + 1)).map (fun w => (readC w).getD 0) from (by rw [← (prt_next hx), hNk]; rfl))), rfl⟩, trivial⟩ rfl, ⟨by omega, prt_P hx hPk (by simpa using h2)⟩, by show t.length - (k + 1) < t.length - k; omega⟩
    · have h1p := of_decide_eq_false h1
      refine cExit <| cSeq <| cReg rfl <| oR 3 rfl <| rE 11 <| cRet ?_
      exact absurd (by have q := congrArg List.length hNk; rw [List.length_map, List.length_take] at q; have q2 : min k t.length = 0 := q; omega : t.length = 0) hT
  · have hk_ := hk
    have hnn : k ≤ t.length := hk_.1
    have hkB : k ≤ 1000000 := by omega
    have hPk : ∀ w ∈ t.take k, (readC w).isSome = true := hk_.2
    have habk : ((t.take k).map (fun w => (readC w).getD 0)).length ≤ 900000 := (by rw [List.length_map, List.length_take]; omega)
    refine cSeq <| cReg rfl <| rOk (x := vB (decide (k < t.length))) rfl rfl (okB (ltN _ _)) <| rE 8 <| cSeq ?_
    refine cCond rfl (fun h3 => ?_) (fun h3 => ?_)
    · have h3p := of_decide_eq_true h3
      refine cSkip <| cSeq <| cBlock <| cSeq <| cReg rfl ?_
      obtain ⟨x, hx⟩ : ∃ y_, t[k]? = some y_ := ⟨_, List.getElem?_eq_getElem omT⟩
      have hxo := hw x (List.mem_of_getElem? hx)
      refine rIdx (rowS x) (x := .dp 1 0 (rowS x)) rfl rfl rfl (⟨Int.natCast_nonneg _, getM hx⟩) rfl <| oR 2 rfl <| rE 11 <| cSeq <| cReg rfl <| oR 2 rfl <| rCl rfl (.inl rfl) (dCode2 hB x hxo) <| oR 5 rfl <| rE 19 <| cSeq <| cSeq <| cReg rfl <| oR 2 rfl <| rE 21 ?_
      refine cCond rfl (fun h4 => ?_) (fun h4 => ?_)
      · refine cSeq <| cReg rfl <| oR 2 rfl <| rE 23 <| cRet <| finTA rfl (by repeat' (first | exact trivial | constructor)) rfl ?_
        rw [parts_no (x := x) (List.mem_of_getElem? hx) (by simpa using h4)]; rfl
      · refine cSkip <| cReg rfl <| oR 2 rfl <| rOk (x := .sl 1 ([[vU ((readC x).getD 0)]]) true) rfl rfl rfl <| rFx (x := .osl 24 0 (((t.take k).map (fun w => (readC w).getD 0)).length + 1) false) (h' := upd (upd _ 6 none) 24 (some (.arr ((((t.take k).map (fun w => (readC w).getD 0)) ++ ([(readC x).getD 0])).map rowU) 1))) rfl rfl (app_own rowU ((t.take k).map (fun w => (readC w).getD 0)) ([(readC x).getD 0]) omT omT) (⟨by exact omT, by exact omT, trivial⟩) <| oR 1 rfl <| rE 26 <| cReg rfl ?_
        have b2 : k + 1 ≤ 1000001 := Nat.add_le_add hkB (Nat.le_refl 1)
        refine rOk (x := vN (k + 1)) rfl rfl (okI (wrapI64 b2 rfl)) <| oR 1 rfl <| rE 28 ?_
        refine ⟨(k + 1, true), fun i => match i with | 6 => 24 | i => i, Weak.of_lists (fun i => match i with | 6 => 24 | i => i) ⟨⟨rfl, rfl⟩, ⟨rfl, rfl⟩, ⟨rfl, rfl⟩, ⟨rfl, rfl⟩, ⟨(show AV.osl 24 0 (((t.take k).map (fun w => (readC w).getD 0)).length + 1) false = AV.osl 24 0 ((t.take (k + 1)).map (fun w => (readC w).getD 0)).length false from by rw [← (show ((t.take k).map (fun w => (readC w).getD 0)) ++ ([(readC x).getD 0]) = (t.take (k + 1)).map (fun w => (readC w).getD 0) from prt_next hx)]; first | done | rfl | (congr 1 <;> (first | exact omT | simp))), rfl⟩, trivial⟩ ⟨⟨rfl, (congrArg (fun z : List Nat => some (Blk.arr (z.map rowU) 1)) (show ((t.take k).map (fun w => (readC w).getD 0)) ++ ([(readC x).getD 0]) = (t.take (k + 1)).map (fun w => (readC w).getD 0) from prt_next hx)), rfl⟩, trivial⟩ rfl, ⟨by omega, prt_P hx hPk (by simpa using h4)⟩, by show t.length - (k + 1) < t.length - k; omega⟩
    · have h3p := of_decide_eq_false h3
      refine cExit <| cSeq <| cReg rfl <| oR 3 rfl <| rE 11 <| cRet ?_
      have hT2 : t.take k = t := List.take_of_length_le (by omega)
      have hY := hPk
      rw [hT2] at hY
      refine finTA rfl ⟨(by show 0 + (((t.take k).map (fun w => (readC w).getD 0)).length) ≤ (((t.take k).map (fun w => (readC w).getD 0)).map rowU).length; exact omT), trivial, trivial⟩ rfl ?_
      show AV.tup [.sl 1 (List.take (((t.take k).map (fun w => (readC w).getD 0)).length) (List.drop 0 (((t.take k).map (fun w => (readC w).getD 0)).map rowU))) false, vB true] = _
      rw [List.drop_zero, List.take_of_length_le (by simp), hT2, parts_yes (z := 0) hY]; rfl
theorem dPartsU (hB : HexIx) (t : List W) (ck : Bool) (ht : t.length ≤ 900000) (hw : ∀ x ∈ t, x.length ≤ 900000) : DCall C0 43 [.sl 1 (t.map rowS) ck, .clo 44 [] []] (prtB rowU (partsL readC t)) := by
  cases t with
  | nil => exact (dPartsUE [] ck ht rfl).rmono fun S w v h => rep_nil_tup (i := 0) (n := 1) h rfl
  | cons x t =>
    have h := dPartsUO hB (x :: t) ck ht hw (by simp)
    have hl : ∀ l, partsL readC (x :: t) = some l → l.isEmpty = false := fun l hl => by
      unfold partsL at hl
      split at hl
      · cases hl
      · obtain ⟨q, _, rfl⟩ := Option.map_eq_some_iff.1 hl; rfl
    cases hp : partsL readC (x :: t) with
    | none => rw [hp] at h; exact h.rmono fun S w v h => rep_nil_tup (i := 0) (n := 1) h rfl
    | some l => rw [hp] at h; show DCall C0 _ _ (.tup [.sl 1 (l.map _) l.isEmpty, vB true]); rw [hl l hp]; exact h
end Go.Proofs.YtpefnjbmbfdmmaaDoor
