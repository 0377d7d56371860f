/- Package conf, for plans: walks on the second machine. -/
import Derived.Test.YtpefnjbmbfdmmaaDoorAbsT
import Derived.Test.YtpefnjbmbfdmmaaDoorRef25
namespace Go.Proofs.YtpefnjbmbfdmmaaDoor
set_option maxRecDepth 100000
set_option maxHeartbeats 4000000
open Go.RowKit

structure Cf where
  mode : Int
  width : Int
  rob : Int
  queue : Int
  stores : Int
  slots : Int
  sets : Int
  ways : Int
  lat : List Int
  tables : Bool
  tape : List Nat
def clampI (n lo hi : Int) : Int := if (if n < lo then lo else n) > hi then hi else (if n < lo then lo else n)
def cleanCf (c : Cf) : Cf :=
  { mode := clampI c.mode 0 2, width := clampI c.width 1 2, rob := clampI c.rob 2 8, queue := clampI c.queue 1 4, stores := clampI c.stores 1 4, slots := clampI c.slots 2 6
    sets := if clampI c.sets 1 4 = 3 then 2 else clampI c.sets 1 4, ways := clampI c.ways 1 2
    lat := (c.lat.take 64).map fun n => clampI n 1 8, tables := c.tables, tape := c.tape.take 64 }
abbrev cfL (c : Cf) (cl ct : Bool) : List AV := [.v (.int .i64 c.mode), .v (.int .i64 c.width), .v (.int .i64 c.rob), .v (.int .i64 c.queue), .v (.int .i64 c.stores), .v (.int .i64 c.slots), .v (.int .i64 c.sets), .v (.int .i64 c.ways), .sl 1 (c.lat.map rowI) cl, .v (.bool c.tables), .sl 1 (c.tape.map rowU) ct]
/-- A shape's numbers are numbers of a machine. -/
structure Cf.ok (c : Cf) : Prop where
  lat : c.lat.length ≤ 9223372036854775807
  tape : c.tape.length ≤ 9223372036854775807
  tp : ∀ x ∈ c.tape, x ≤ 4294967295

/-! ### conf.Clean$1 brings a number between two others -/
theorem hBring (cells : List AV) (col : Nat) (n lo hi : Int) (hn : nthO cells col = some (.v (.int .i64 n))) (hc : col + 1 ≤ cells.length) (hcl : closedL (putL col [.v (.int .i64 (clampI n lo hi))] cells) = true) :
    HSem C0.P C0.G 39 [.ptr 0 col, .v (.int .i64 lo), .v (.int .i64 hi)] (heapF [(0, .box cells)]) 1 (fun x h' => x = .tup [] ∧ h' = heapF [(0, .box (putL col [.v (.int .i64 (clampI n lo hi))] cells))]) := by
  refine HCall.intro (C := C0) (s := 1) c0Ok.at Tryd.func39 rfl rfl (by kernel_rfl) rfl rfl <| cReg rfl <| oR 3 rfl <| rOk (x := .v (.int .i64 n)) rfl rfl (by show okO (nthO cells col) = _; rw [hn]; rfl) <| oR 1 rfl <| rOk (x := .v (.int .i64 (if lo > n then lo else n))) rfl rfl rfl <| oR 1 rfl <| rOk (x := .v (.int .i64 (if hi < (if lo > n then lo else n) then hi else (if lo > n then lo else n)))) rfl rfl rfl <| oR 1 rfl ?_
  have hb : Nat.ble (col + 1) cells.length = true := Nat.ble_eq_true_of_le hc
  refine rFx0 (p := True) (h' := upd _ 0 (some (.box (putL col [.v (.int .i64 (clampI n lo hi))] cells)))) rfl rfl (by
    show (match Nat.ble (col + 1) cells.length with | true => Res.fx True .any (upd _ 0 (some (.box (putL col [.v (.int .i64 (if hi < (if lo > n then lo else n) then hi else (if lo > n then lo else n)))] cells)))) | false => .bad) = _
    rw [hb]
    rfl) trivial ?_
  refine rE 11 ?_
  exact finH (rs := []) rfl (σ := fun s => s) ⟨rfl, rfl⟩ rfl (weak_ret (fun s => s) rfl rfl ⟨⟨rfl, boxM _ hcl, boxB _ hcl⟩, trivial⟩ rfl)


theorem bringAt {cells cells' : List AV} {b col : Nat} {n lo hi : Int} {K : AH} {s2 : Nat} (hn : nthO cells col = some (.v (.int .i64 n))) (hc : Nat.ble (col + 1) cells.length = true) (he : putL col [.v (.int .i64 (clampI n lo hi))] cells = cells') (hcl : closedL cells = true) (hcl' : closedL cells' = true) (hb : Nat.blt b s2 = true) (hK : K b = some (.box cells)) :
    HSem C0.P C0.G 39 [.ptr b col, .v (.int .i64 lo), .v (.int .i64 hi)] K s2 (fun x h' => x = .tup [] ∧ h' = upd K b (some (.box cells'))) := by
  subst he
  have := (hBring cells col n lo hi hn (Nat.le_of_ble_eq_true hc) hcl').frame1 b K s2 (Nat.le_of_ble_eq_true hb) (boxB 1 hcl) (by rw [hK]; exact boxM _ hcl) rfl
  rw [← boxM (newN (fun _ => b) 1 s2) hcl'] at this
  exact this
theorem hBring2 (rows : List (List AV)) (k : Nat) (n lo hi : Int) (hn : rows[k]? = some [.v (.int .i64 n)]) :
    HSem C0.P C0.G 39 [.ptr2 0 k 0, .v (.int .i64 lo), .v (.int .i64 hi)] (heapF [(0, .arr rows 1)]) 1 (fun x h' => x = .tup [] ∧ h' = heapF [(0, .arr (rows.set k [.v (.int .i64 (clampI n lo hi))]) 1)]) := by
  refine HCall.intro (C := C0) (s := 1) c0Ok.at Tryd.func39 rfl rfl (by kernel_rfl) rfl rfl <| cReg rfl <| oR 3 rfl <| rIdx [.v (.int .i64 n)] (x := .v (.int .i64 n)) rfl rfl rfl ⟨Int.natCast_nonneg _, hn⟩ rfl <| oR 1 rfl <| rOk (x := .v (.int .i64 (if lo > n then lo else n))) rfl rfl rfl <| oR 1 rfl <| rOk (x := .v (.int .i64 (if hi < (if lo > n then lo else n) then hi else (if lo > n then lo else n)))) rfl rfl rfl <| oR 1 rfl <| rIdxFx [.v (.int .i64 n)] (h' := upd _ 0 (some (.arr (rows.set k [.v (.int .i64 (clampI n lo hi))]) 1))) rfl rfl rfl ⟨Int.natCast_nonneg _, hn⟩ rfl <| rE 11 ?_
  exact finH (rs := []) rfl (σ := fun s => s) ⟨rfl, rfl⟩ rfl (weak_ret (fun s => s) rfl rfl wH rfl)
theorem bringAt2 {rows rows' : List (List AV)} {b k : Nat} {n lo hi : Int} {K : AH} {s2 : Nat} (hn : rows[k]? = some [.v (.int .i64 n)]) (he : rows.set k [.v (.int .i64 (clampI n lo hi))] = rows') (hb : Nat.blt b s2 = true) (hK : K b = some (.arr rows 1)) :
    HSem C0.P C0.G 39 [.ptr2 b k 0, .v (.int .i64 lo), .v (.int .i64 hi)] K s2 (fun x h' => x = .tup [] ∧ h' = upd K b (some (.arr rows' 1))) := by
  subst he
  exact (hBring2 rows k n lo hi hn).frame1 b K s2 (Nat.le_of_ble_eq_true hb) rfl hK rfl
theorem copy_rows {α : Type} (f : α → List AV) (l : List α) (z : List AV) (n : Nat) (hn : n = min l.length 64) : (List.replicate n z).take 0 ++ (l.map f).take (min (l.map f).length n) ++ (List.replicate n z).drop (0 + min (l.map f).length n) = (l.take 64).map f := by
  subst hn
  rw [List.length_map, List.take_zero, List.nil_append, List.drop_of_length_le (by rw [List.length_replicate]; omega), List.append_nil, ← List.map_take]
  congr 1
  rcases Nat.le_total l.length 64 with h | h
  · rw [List.take_of_length_le (by omega), List.take_of_length_le (by omega)]
  · congr 1; omega


def latR (c : Cf) (k : Nat) : List (List AV) := ((((c.lat.take 64).take k).map fun n => clampI n 1 8) ++ (c.lat.take 64).drop k).map rowI
theorem latR_zero (c : Cf) : latR c 0 = (c.lat.take 64).map rowI := rfl
theorem latR_end (c : Cf) (k : Nat) (h : (c.lat.take 64).length ≤ k) : latR c k = (cleanCf c).lat.map rowI := by
  unfold latR cleanCf
  rw [List.take_of_length_le h, List.drop_of_length_le h, List.append_nil]
theorem latR_get {c : Cf} {k : Nat} {x : Int} (hx : (c.lat.take 64)[k]? = some x) : (latR c k)[k]? = some (rowI x) := by
  have hk := (List.getElem?_eq_some_iff.1 hx).1
  unfold latR
  rw [List.getElem?_map, List.getElem?_append_right (by simp; omega)]
  simp only [List.length_map, List.length_take]
  rw [List.getElem?_drop, show k + (k - min k (min 64 c.lat.length)) = k by have : k < (c.lat.take 64).length := hk; rw [List.length_take] at this; omega, hx]
  rfl
theorem latR_set {c : Cf} {k : Nat} {x : Int} (hx : (c.lat.take 64)[k]? = some x) : (latR c k).set k [.v (.int .i64 (clampI x 1 8))] = latR c (k + 1) := by
  unfold latR
  generalize c.lat.take 64 = l at hx ⊢
  have hk := (List.getElem?_eq_some_iff.1 hx).1
  have hl : ((l.take k).map fun n => clampI n 1 8).length = k := by rw [List.length_map, List.length_take]; omega
  have hx' : l[k] = x := by rw [List.getElem?_eq_getElem hk] at hx; exact Option.some.inj hx
  rw [show ([.v (.int .i64 (clampI x 1 8))] : List AV) = rowI (clampI x 1 8) from rfl, ← List.map_set, List.set_append_right _ _ (by omega), hl, Nat.sub_self, List.drop_eq_getElem_cons hk, List.set_cons_zero, List.take_add_one, hx]
  simp
theorem latR_len (c : Cf) (k : Nat) (h : k ≤ (c.lat.take 64).length) : (latR c k).length = (c.lat.take 64).length := by
  unfold latR
  simp only [List.length_map, List.length_append, List.length_drop]
  rw [List.length_take_of_le h]
  omega


theorem cp_eq {p : Prop} {x : AV} {h : AH} {b rs : Nat} {r r' : List (List AV)} (e : r = r') : Res.fx p x (upd h b (some (.arr r rs))) = .fx p x (upd h b (some (.arr r' rs))) := by rw [e]

theorem dCleanCf (c : Cf) (cl ct : Bool) (hok : c.ok) : DCall C0 18 [.agg (cfL c cl ct)] (.agg (cfL (cleanCf c) false false)) := by
  refine DCall.intro c0Ok Tryd.func18 rfl rfl (by kernel_rfl) rfl <| cSeq <| cReg rfl <| rAl 0 rfl rfl <| rAl 1 rfl rfl <| rE 2 <| cSeq <| cReg rfl <| oR 1 rfl <| rE 3 <| cSeq <| cReg rfl <| oR 2 rfl <| rHCall (args := [.ptr 0 0, vI 0, vI 2]) (d := 9) _ rfl rfl rfl (bringAt (cells := [vI c.mode, vI c.width, vI c.rob, vI c.queue, vI c.stores, vI c.slots, vI c.sets, vI c.ways, .sl 1 (c.lat.map rowI) cl, vB c.tables, .sl 1 (c.tape.map rowU) ct]) (cells' := [vI (clampI c.mode 0 2), vI c.width, vI c.rob, vI c.queue, vI c.stores, vI c.slots, vI c.sets, vI c.ways, .sl 1 (c.lat.map rowI) cl, vB c.tables, .sl 1 (c.tape.map rowU) ct]) rfl rfl rfl rfl rfl rfl rfl) ?_
  rintro _ _ ⟨rfl, rfl⟩
  refine rE 6 <| cSeq <| cReg rfl <| oR 2 rfl <| rHCall (args := [.ptr 0 1, vI 1, vI 2]) (d := 12) _ rfl rfl rfl (bringAt (cells := [vI (clampI c.mode 0 2), vI c.width, vI c.rob, vI c.queue, vI c.stores, vI c.slots, vI c.sets, vI c.ways, .sl 1 (c.lat.map rowI) cl, vB c.tables, .sl 1 (c.tape.map rowU) ct]) (cells' := [vI (clampI c.mode 0 2), vI (clampI c.width 1 2), vI c.rob, vI c.queue, vI c.stores, vI c.slots, vI c.sets, vI c.ways, .sl 1 (c.lat.map rowI) cl, vB c.tables, .sl 1 (c.tape.map rowU) ct]) rfl rfl rfl rfl rfl rfl rfl) ?_
  rintro _ _ ⟨rfl, rfl⟩
  refine rE 9 <| cSeq <| cReg rfl <| oR 2 rfl <| rHCall (args := [.ptr 0 2, vI 2, vI 8]) (d := 15) _ rfl rfl rfl (bringAt (cells := [vI (clampI c.mode 0 2), vI (clampI c.width 1 2), vI c.rob, vI c.queue, vI c.stores, vI c.slots, vI c.sets, vI c.ways, .sl 1 (c.lat.map rowI) cl, vB c.tables, .sl 1 (c.tape.map rowU) ct]) (cells' := [vI (clampI c.mode 0 2), vI (clampI c.width 1 2), vI (clampI c.rob 2 8), vI c.queue, vI c.stores, vI c.slots, vI c.sets, vI c.ways, .sl 1 (c.lat.map rowI) cl, vB c.tables, .sl 1 (c.tape.map rowU) ct]) rfl rfl rfl rfl rfl rfl rfl) ?_
  rintro _ _ ⟨rfl, rfl⟩
  refine rE 12 <| cSeq <| cReg rfl <| oR 2 rfl <| rHCall (args := [.ptr 0 3, vI 1, vI 4]) (d := 18) _ rfl rfl rfl (bringAt (cells := [vI (clampI c.mode 0 2), vI (clampI c.width 1 2), vI (clampI c.rob 2 8), vI c.queue, vI c.stores, vI c.slots, vI c.sets, vI c.ways, .sl 1 (c.lat.map rowI) cl, vB c.tables, .sl 1 (c.tape.map rowU) ct]) (cells' := [vI (clampI c.mode 0 2), vI (clampI c.width 1 2), vI (clampI c.rob 2 8), vI (clampI c.queue 1 4), vI c.stores, vI c.slots, vI c.sets, vI c.ways, .sl 1 (c.lat.map rowI) cl, vB c.tables, .sl 1 (c.tape.map rowU) ct]) rfl rfl rfl rfl rfl rfl rfl) ?_
  rintro _ _ ⟨rfl, rfl⟩
  refine rE 15 <| cSeq <| cReg rfl <| oR 2 rfl <| rHCall (args := [.ptr 0 4, vI 1, vI 4]) (d := 21) _ rfl rfl rfl (bringAt (cells := [vI (clampI c.mode 0 2), vI (clampI c.width 1 2), vI (clampI c.rob 2 8), vI (clampI c.queue 1 4), vI c.stores, vI c.slots, vI c.sets, vI c.ways, .sl 1 (c.lat.map rowI) cl, vB c.tables, .sl 1 (c.tape.map rowU) ct]) (cells' := [vI (clampI c.mode 0 2), vI (clampI c.width 1 2), vI (clampI c.rob 2 8), vI (clampI c.queue 1 4), vI (clampI c.stores 1 4), vI c.slots, vI c.sets, vI c.ways, .sl 1 (c.lat.map rowI) cl, vB c.tables, .sl 1 (c.tape.map rowU) ct]) rfl rfl rfl rfl rfl rfl rfl) ?_
  rintro _ _ ⟨rfl, rfl⟩
  refine rE 18 <| cSeq <| cReg rfl <| oR 2 rfl <| rHCall (args := [.ptr 0 5, vI 2, vI 6]) (d := 24) _ rfl rfl rfl (bringAt (cells := [vI (clampI c.mode 0 2), vI (clampI c.width 1 2), vI (clampI c.rob 2 8), vI (clampI c.queue 1 4), vI (clampI c.stores 1 4), vI c.slots, vI c.sets, vI c.ways, .sl 1 (c.lat.map rowI) cl, vB c.tables, .sl 1 (c.tape.map rowU) ct]) (cells' := [vI (clampI c.mode 0 2), vI (clampI c.width 1 2), vI (clampI c.rob 2 8), vI (clampI c.queue 1 4), vI (clampI c.stores 1 4), vI (clampI c.slots 2 6), vI c.sets, vI c.ways, .sl 1 (c.lat.map rowI) cl, vB c.tables, .sl 1 (c.tape.map rowU) ct]) rfl rfl rfl rfl rfl rfl rfl) ?_
  rintro _ _ ⟨rfl, rfl⟩
  refine rE 21 <| cSeq <| cReg rfl <| oR 2 rfl <| rHCall (args := [.ptr 0 6, vI 1, vI 4]) (d := 27) _ rfl rfl rfl (bringAt (cells := [vI (clampI c.mode 0 2), vI (clampI c.width 1 2), vI (clampI c.rob 2 8), vI (clampI c.queue 1 4), vI (clampI c.stores 1 4), vI (clampI c.slots 2 6), vI c.sets, vI c.ways, .sl 1 (c.lat.map rowI) cl, vB c.tables, .sl 1 (c.tape.map rowU) ct]) (cells' := [vI (clampI c.mode 0 2), vI (clampI c.width 1 2), vI (clampI c.rob 2 8), vI (clampI c.queue 1 4), vI (clampI c.stores 1 4), vI (clampI c.slots 2 6), vI (clampI c.sets 1 4), vI c.ways, .sl 1 (c.lat.map rowI) cl, vB c.tables, .sl 1 (c.tape.map rowU) ct]) rfl rfl rfl rfl rfl rfl rfl) ?_
  rintro _ _ ⟨rfl, rfl⟩
  refine rE 24 <| cSeq <| cSeq <| cReg rfl <| oR 2 rfl <| rOk (x := vB ((clampI c.sets 1 4) == 3)) rfl rfl rfl <| rE 27 ?_
  refine cCond rfl (fun h1 => ?_) (fun h1 => ?_)
  · refine cReg rfl <| oR 1 rfl <| rSt rfl <| rE 29 <| cSeq <| cReg rfl <| oR 2 rfl <| rHCall (args := [.ptr 0 7, vI 1, vI 2]) (d := 34) _ rfl rfl rfl (bringAt (cells := [vI (clampI c.mode 0 2), vI (clampI c.width 1 2), vI (clampI c.rob 2 8), vI (clampI c.queue 1 4), vI (clampI c.stores 1 4), vI (clampI c.slots 2 6), vI 2, vI c.ways, .sl 1 (c.lat.map rowI) cl, vB c.tables, .sl 1 (c.tape.map rowU) ct]) (cells' := [vI (clampI c.mode 0 2), vI (clampI c.width 1 2), vI (clampI c.rob 2 8), vI (clampI c.queue 1 4), vI (clampI c.stores 1 4), vI (clampI c.slots 2 6), vI 2, vI (clampI c.ways 1 2), .sl 1 (c.lat.map rowI) cl, vB c.tables, .sl 1 (c.tape.map rowU) ct]) rfl rfl rfl rfl rfl rfl rfl) ?_
    rintro _ _ ⟨rfl, rfl⟩
    refine rE 32 <| cSeq <| cReg rfl <| oR 2 rfl <| rOk (x := vN c.lat.length) rfl rfl (lenMap rowI c.lat) <| rOk (x := vN (min c.lat.length 64)) rfl rfl (minN64 c.lat.length 64) <| rFx (x := .osl 36 0 (min c.lat.length 64) false) (h' := upd _ 36 (some (.arr (List.replicate (min c.lat.length 64) [vI 0]) 1))) rfl rfl (rfl) (⟨Int.natCast_nonneg _, Int.le_refl _, by show (((min c.lat.length 64) : Nat) : Int) ≤ 1000000; have := (Nat.le_trans (Nat.min_le_right c.lat.length 64) (Nat.le_refl 64)); omega⟩) <| oR 1 rfl <| rE 38 <| cSeq <| cReg rfl <| oR 3 rfl <| rFx (x := vI ((min (c.lat.map rowI).length (min c.lat.length 64) : Nat) : Int)) (h' := upd _ 36 (some (.arr (latR c 0) 1))) rfl rfl (cp_eq (copy_rows rowI c.lat [.v (.int .i64 0)] _ rfl)) (⟨by simp, trivial⟩) <| rE 42 <| cSeq <| cSeq ?_
    refine cReg rfl <| oR 1 rfl <| rOk (x := vN (min c.lat.length 64)) rfl rfl rfl <| oR 1 rfl <| rE 45 <| cBlock <| cLoop (κ := Nat) (fun k => ⟨slotsF [(1, .ptr 0 0), (2, .ptr 1 0), (3, .clo 39 [] []), (4, .osl 36 0 (min c.lat.length 64) false), (45, vN (min c.lat.length 64)), (46, vN k)], heapF [(0, .box [vI (clampI c.mode 0 2), vI (clampI c.width 1 2), vI (clampI c.rob 2 8), vI (clampI c.queue 1 4), vI (clampI c.stores 1 4), vI (clampI c.slots 2 6), vI 2, vI (clampI c.ways 1 2), .sl 1 (c.lat.map rowI) cl, vB c.tables, .sl 1 (c.tape.map rowU) ct]), (1, .box [vI 0, vI 0, vI 0, vI 0, vI 0, vI 0, vI 0, vI 0, .sl 0 ([]) true, vB false, .sl 0 ([]) true]), (36, .arr (latR c k) 1)], 45⟩) (fun k => k ≤ min c.lat.length 64) (fun k => min c.lat.length 64 - k) 0 (fun s => s) (Weak.of_lists (fun s => s) wT wH rfl) (Nat.zero_le _) ?_
    intro k hk
    have hkB : k ≤ 1000000 := by omega
    refine cSeq <| cReg rfl <| rOk (x := vB (decide (k < (min c.lat.length 64)))) rfl rfl (okB (ltN _ _)) <| rE 46 <| cSeq ?_
    refine cCond rfl (fun h2 => ?_) (fun h2 => ?_)
    · refine cSkip <| cSeq <| cBlock <| cSeq <| cReg rfl <| oR 2 rfl <| rE 48 <| cReg rfl <| oR 3 rfl ?_
      have hkl : k < (c.lat.take 64).length := by have := of_decide_eq_true h2; rw [List.length_take]; omega
      obtain ⟨x, hx⟩ : ∃ x, (c.lat.take 64)[k]? = some x := ⟨_, List.getElem?_eq_getElem hkl⟩
      have hxk : (latR c k)[0 + k]? = some [.v (.int .i64 x)] := by rw [Nat.zero_add]; exact latR_get hx
      refine rNeed (x := .ptr2 36 (0 + k) 0) rfl rfl rfl (⟨Int.natCast_nonneg _, by show ((k : Nat) : Int) < ((min c.lat.length 64 : Nat) : Int); have := of_decide_eq_true h2; omega⟩) <| rHCall (args := [.ptr2 36 (0 + k) 0, vI 1, vI 8]) (d := 53) _ rfl rfl rfl (bringAt2 (rows := latR c k) (rows' := latR c (k + 1)) (k := 0 + k) (n := x) hxk ((Nat.zero_add k).symm ▸ latR_set hx) rfl rfl) ?_
      rintro _ _ ⟨rfl, rfl⟩
      refine rE 53 <| cReg rfl ?_
      have b1 : k + 1 ≤ 1000001 := Nat.add_le_add hkB (Nat.le_refl 1)
      refine rOk (x := vN (k + 1)) rfl rfl (okI (wrapI64 b1 rfl)) <| oR 1 rfl <| rE 55 ?_
      refine ⟨k + 1, fun s => s, Weak.of_lists (fun s => s) wT wH rfl, by have := of_decide_eq_true h2; omega, by have := of_decide_eq_true h2; show min c.lat.length 64 - (k + 1) < min c.lat.length 64 - k; omega⟩
    · refine cExit <| cSeq <| cReg rfl <| oR 2 rfl <| rOk (x := vN c.tape.length) rfl rfl (lenMap rowU c.tape) <| rOk (x := vN (min c.tape.length 64)) rfl rfl (minN64 c.tape.length 64) <| rFx (x := .osl 50 0 (min c.tape.length 64) false) (h' := upd _ 50 (some (.arr (List.replicate (min c.tape.length 64) [.v (.int .u32 0)]) 1))) rfl rfl (rfl) (⟨Int.natCast_nonneg _, Int.le_refl _, by show (((min c.tape.length 64) : Nat) : Int) ≤ 1000000; have := (Nat.le_trans (Nat.min_le_right c.tape.length 64) (Nat.le_refl 64)); omega⟩) <| oR 1 rfl <| rE 52 <| cSeq <| cReg rfl <| oR 3 rfl <| rFx (x := vI ((min (c.tape.map rowU).length (min c.tape.length 64) : Nat) : Int)) (h' := upd _ 50 (some (.arr ((c.tape.take 64).map rowU) 1))) rfl rfl (cp_eq (copy_rows rowU c.tape [.v (.int .u32 0)] _ rfl)) (⟨by simp, trivial⟩) <| rE 56 <| cSeq <| cReg rfl ?_
      refine oR 3 rfl <| rSt rfl <| oR 1 rfl <| rSt rfl <| rE 62 <| cSeq <| cReg rfl <| oR 1 rfl <| rSt rfl <| rE 64 <| cRet ?_
      have hk2 : (c.lat.take 64).length ≤ k := by rw [List.length_take]; have := of_decide_eq_false h2; omega
      have hll := latR_len c k (by rw [List.length_take]; omega)
      have e1 : List.take (min c.lat.length 64) (List.drop 0 (latR c k)) = (cleanCf c).lat.map rowI := by rw [List.drop_zero, List.take_of_length_le (by rw [hll, List.length_take]; omega), latR_end c k hk2]
      have e2 : List.take (min c.tape.length 64) (List.drop 0 ((c.tape.take 64).map rowU)) = (cleanCf c).tape.map rowU := by rw [List.drop_zero, List.take_of_length_le (by rw [List.length_map, List.length_take]; omega)]; rfl
      have e3 : (cleanCf c).sets = 2 := if_pos (by simpa using h1)
      refine finTA rfl ⟨trivial, trivial, trivial, trivial, trivial, trivial, trivial, trivial, by show 0 + min c.lat.length 64 ≤ (latR c k).length; rw [hll, List.length_take]; omega, trivial, by show 0 + min c.tape.length 64 ≤ ((c.tape.take 64).map rowU).length; rw [List.length_map, List.length_take]; omega, trivial⟩ rfl ?_
      show AV.agg [vI (clampI c.mode 0 2), vI (clampI c.width 1 2), vI (clampI c.rob 2 8), vI (clampI c.queue 1 4), vI (clampI c.stores 1 4), vI (clampI c.slots 2 6), vI 2, vI (clampI c.ways 1 2), .sl 1 (List.take (min c.lat.length 64) (List.drop 0 (latR c k))) false, vB c.tables, .sl 1 (List.take (min c.tape.length 64) (List.drop 0 ((c.tape.take 64).map rowU))) false] = AV.agg (cfL (cleanCf c) false false)
      rw [e1, e2]
      show _ = AV.agg [vI (cleanCf c).mode, vI (cleanCf c).width, vI (cleanCf c).rob, vI (cleanCf c).queue, vI (cleanCf c).stores, vI (cleanCf c).slots, vI (cleanCf c).sets, vI (cleanCf c).ways, .sl 1 ((cleanCf c).lat.map rowI) false, vB (cleanCf c).tables, .sl 1 ((cleanCf c).tape.map rowU) false]
      rw [e3]
      rfl
  · refine cSkip <| cSeq <| cReg rfl <| oR 2 rfl <| rHCall (args := [.ptr 0 7, vI 1, vI 2]) (d := 34) _ rfl rfl rfl (bringAt (cells := [vI (clampI c.mode 0 2), vI (clampI c.width 1 2), vI (clampI c.rob 2 8), vI (clampI c.queue 1 4), vI (clampI c.stores 1 4), vI (clampI c.slots 2 6), vI (clampI c.sets 1 4), vI c.ways, .sl 1 (c.lat.map rowI) cl, vB c.tables, .sl 1 (c.tape.map rowU) ct]) (cells' := [vI (clampI c.mode 0 2), vI (clampI c.width 1 2), vI (clampI c.rob 2 8), vI (clampI c.queue 1 4), vI (clampI c.stores 1 4), vI (clampI c.slots 2 6), vI (clampI c.sets 1 4), vI (clampI c.ways 1 2), .sl 1 (c.lat.map rowI) cl, vB c.tables, .sl 1 (c.tape.map rowU) ct]) rfl rfl rfl rfl rfl rfl rfl) ?_
    rintro _ _ ⟨rfl, rfl⟩
    refine rE 30 <| cSeq <| cReg rfl <| oR 2 rfl <| rOk (x := vN c.lat.length) rfl rfl (lenMap rowI c.lat) <| rOk (x := vN (min c.lat.length 64)) rfl rfl (minN64 c.lat.length 64) <| rFx (x := .osl 34 0 (min c.lat.length 64) false) (h' := upd _ 34 (some (.arr (List.replicate (min c.lat.length 64) [vI 0]) 1))) rfl rfl (rfl) (⟨Int.natCast_nonneg _, Int.le_refl _, by show (((min c.lat.length 64) : Nat) : Int) ≤ 1000000; have := (Nat.le_trans (Nat.min_le_right c.lat.length 64) (Nat.le_refl 64)); omega⟩) <| oR 1 rfl <| rE 36 <| cSeq <| cReg rfl <| oR 3 rfl <| rFx (x := vI ((min (c.lat.map rowI).length (min c.lat.length 64) : Nat) : Int)) (h' := upd _ 34 (some (.arr (latR c 0) 1))) rfl rfl (cp_eq (copy_rows rowI c.lat [.v (.int .i64 0)] _ rfl)) (⟨by simp, trivial⟩) <| rE 40 <| cSeq <| cSeq ?_
    refine cReg rfl <| oR 1 rfl <| rOk (x := vN (min c.lat.length 64)) rfl rfl rfl <| oR 1 rfl <| rE 43 <| cBlock <| cLoop (κ := Nat) (fun k => ⟨slotsF [(1, .ptr 0 0), (2, .ptr 1 0), (3, .clo 39 [] []), (4, .osl 34 0 (min c.lat.length 64) false), (45, vN (min c.lat.length 64)), (46, vN k)], heapF [(0, .box [vI (clampI c.mode 0 2), vI (clampI c.width 1 2), vI (clampI c.rob 2 8), vI (clampI c.queue 1 4), vI (clampI c.stores 1 4), vI (clampI c.slots 2 6), vI (clampI c.sets 1 4), vI (clampI c.ways 1 2), .sl 1 (c.lat.map rowI) cl, vB c.tables, .sl 1 (c.tape.map rowU) ct]), (1, .box [vI 0, vI 0, vI 0, vI 0, vI 0, vI 0, vI 0, vI 0, .sl 0 ([]) true, vB false, .sl 0 ([]) true]), (34, .arr (latR c k) 1)], 43⟩) (fun k => k ≤ min c.lat.length 64) (fun k => min c.lat.length 64 - k) 0 (fun s => s) (Weak.of_lists (fun s => s) wT wH rfl) (Nat.zero_le _) ?_
    intro k hk
    have hkB : k ≤ 1000000 := by omega
    refine cSeq <| cReg rfl <| rOk (x := vB (decide (k < (min c.lat.length 64)))) rfl rfl (okB (ltN _ _)) <| rE 44 <| cSeq ?_
    refine cCond rfl (fun h3 => ?_) (fun h3 => ?_)
    · refine cSkip <| cSeq <| cBlock <| cSeq <| cReg rfl <| oR 2 rfl <| rE 46 <| cReg rfl <| oR 3 rfl ?_
      have hkl : k < (c.lat.take 64).length := by have := of_decide_eq_true h3; rw [List.length_take]; omega
      obtain ⟨x, hx⟩ : ∃ x, (c.lat.take 64)[k]? = some x := ⟨_, List.getElem?_eq_getElem hkl⟩
      have hxk : (latR c k)[0 + k]? = some [.v (.int .i64 x)] := by rw [Nat.zero_add]; exact latR_get hx
      refine rNeed (x := .ptr2 34 (0 + k) 0) rfl rfl rfl (⟨Int.natCast_nonneg _, by show ((k : Nat) : Int) < ((min c.lat.length 64 : Nat) : Int); have := of_decide_eq_true h3; omega⟩) <| rHCall (args := [.ptr2 34 (0 + k) 0, vI 1, vI 8]) (d := 53) _ rfl rfl rfl (bringAt2 (rows := latR c k) (rows' := latR c (k + 1)) (k := 0 + k) (n := x) hxk ((Nat.zero_add k).symm ▸ latR_set hx) rfl rfl) ?_
      rintro _ _ ⟨rfl, rfl⟩
      refine rE 51 <| cReg rfl ?_
      have b2 : k + 1 ≤ 1000001 := Nat.add_le_add hkB (Nat.le_refl 1)
      refine rOk (x := vN (k + 1)) rfl rfl (okI (wrapI64 b2 rfl)) <| oR 1 rfl <| rE 53 ?_
      refine ⟨k + 1, fun s => s, Weak.of_lists (fun s => s) wT wH rfl, by have := of_decide_eq_true h3; omega, by have := of_decide_eq_true h3; show min c.lat.length 64 - (k + 1) < min c.lat.length 64 - k; omega⟩
    · refine cExit <| cSeq <| cReg rfl <| oR 2 rfl <| rOk (x := vN c.tape.length) rfl rfl (lenMap rowU c.tape) <| rOk (x := vN (min c.tape.length 64)) rfl rfl (minN64 c.tape.length 64) <| rFx (x := .osl 48 0 (min c.tape.length 64) false) (h' := upd _ 48 (some (.arr (List.replicate (min c.tape.length 64) [.v (.int .u32 0)]) 1))) rfl rfl (rfl) (⟨Int.natCast_nonneg _, Int.le_refl _, by show (((min c.tape.length 64) : Nat) : Int) ≤ 1000000; have := (Nat.le_trans (Nat.min_le_right c.tape.length 64) (Nat.le_refl 64)); omega⟩) <| oR 1 rfl <| rE 50 <| cSeq <| cReg rfl <| oR 3 rfl <| rFx (x := vI ((min (c.tape.map rowU).length (min c.tape.length 64) : Nat) : Int)) (h' := upd _ 48 (some (.arr ((c.tape.take 64).map rowU) 1))) rfl rfl (cp_eq (copy_rows rowU c.tape [.v (.int .u32 0)] _ rfl)) (⟨by simp, trivial⟩) <| rE 54 <| cSeq <| cReg rfl ?_
      refine oR 3 rfl <| rSt rfl <| oR 1 rfl <| rSt rfl <| rE 60 <| cSeq <| cReg rfl <| oR 1 rfl <| rSt rfl <| rE 62 <| cRet ?_
      have hk2 : (c.lat.take 64).length ≤ k := by rw [List.length_take]; have := of_decide_eq_false h3; omega
      have hll := latR_len c k (by rw [List.length_take]; omega)
      have e1 : List.take (min c.lat.length 64) (List.drop 0 (latR c k)) = (cleanCf c).lat.map rowI := by rw [List.drop_zero, List.take_of_length_le (by rw [hll, List.length_take]; omega), latR_end c k hk2]
      have e2 : List.take (min c.tape.length 64) (List.drop 0 ((c.tape.take 64).map rowU)) = (cleanCf c).tape.map rowU := by rw [List.drop_zero, List.take_of_length_le (by rw [List.length_map, List.length_take]; omega)]; rfl
      have e3 : (cleanCf c).sets = clampI c.sets 1 4 := if_neg (by simpa using h1)
      refine finTA rfl ⟨trivial, trivial, trivial, trivial, trivial, trivial, trivial, trivial, by show 0 + min c.lat.length 64 ≤ (latR c k).length; rw [hll, List.length_take]; omega, trivial, by show 0 + min c.tape.length 64 ≤ ((c.tape.take 64).map rowU).length; rw [List.length_map, List.length_take]; omega, trivial⟩ rfl ?_
      show AV.agg [vI (clampI c.mode 0 2), vI (clampI c.width 1 2), vI (clampI c.rob 2 8), vI (clampI c.queue 1 4), vI (clampI c.stores 1 4), vI (clampI c.slots 2 6), vI (clampI c.sets 1 4), vI (clampI c.ways 1 2), .sl 1 (List.take (min c.lat.length 64) (List.drop 0 (latR c k))) false, vB c.tables, .sl 1 (List.take (min c.tape.length 64) (List.drop 0 ((c.tape.take 64).map rowU))) false] = AV.agg (cfL (cleanCf c) false false)
      rw [e1, e2]
      show _ = AV.agg [vI (cleanCf c).mode, vI (cleanCf c).width, vI (cleanCf c).rob, vI (cleanCf c).queue, vI (cleanCf c).stores, vI (cleanCf c).slots, vI (cleanCf c).sets, vI (cleanCf c).ways, .sl 1 ((cleanCf c).lat.map rowI) false, vB (cleanCf c).tables, .sl 1 ((cleanCf c).tape.map rowU) false]
      rw [e3]
      rfl
end Go.Proofs.YtpefnjbmbfdmmaaDoor

