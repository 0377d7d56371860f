/- Package conf: walks on the second machine. -/
import Derived.Test.YtckjihpdjefpgaaCoreM
import Derived.Test.YtckjihpdjefpgaaAbsF
import Derived.Test.YtckjihpdjefpgaaAbsH
import Derived.Test.YtckjihpdjefpgaaSeqW
namespace Go.Proofs.Ytckjihpdjefpgaa
open Go.RowKit

abbrev rowI (n : Int) : List AV := [.v (.int .i64 n)]
abbrev cfL (c : Cf) (cl ct : Bool) : List AV := [.v (.int .i64 c.mode), .v (.int .i64 c.width), .v (.int .i64 c.rob), .v (.int .i64 c.queue), .v (.int .i64 c.stores), .v (.int .i64 c.slots), .v (.int .i64 c.sets), .v (.int .i64 c.ways), .sl 1 (c.lat.map rowI) cl, .v (.bool c.tables), .sl 1 (c.tape.map rowU) ct]
/-- A shape's numbers are numbers of a machine. -/
structure Cf.ok (c : Cf) : Prop where
  lat : c.lat.length ≤ 9223372036854775807
  tape : c.tape.length ≤ 9223372036854775807
  tp : ∀ x ∈ c.tape, x ≤ 4294967295

mutual
theorem mapA_closed (σ : Nat → Nat) : ∀ (a : AV), closedA a = true → mapA σ a = a
  | .v _, _ | .sl _ _ _, _ | .dp _ _ _, _ => by simp [mapA]
  | .agg cs, h => by simp only [mapA, mapL_closed σ cs (by simpa [closedA] using h)]
  | .tup cs, h => by simp only [mapA, mapL_closed σ cs (by simpa [closedA] using h)]
  | .clo f a b, h => by
    simp only [closedA] at h
    split at h
    · rename_i ha; simp only [mapA, mapL_closed σ a ha, mapL_closed σ b h]
    · cases h
  | .ptr _ _, h | .ptr2 _ _ _, h | .osl _ _ _ _, h | .opt _ _, h | .any, h => by cases h
theorem mapL_closed (σ : Nat → Nat) : ∀ (cs : List AV), closedL cs = true → mapL σ cs = cs
  | [], _ => by simp [mapL]
  | c :: cs, h => by
    simp only [closedL] at h
    split at h
    · rename_i hc; simp only [mapL, mapA_closed σ c hc, mapL_closed σ cs h]
    · cases h
end
mutual
theorem belowA_closed (n : Nat) : ∀ (a : AV), closedA a = true → belowA n a = true
  | .v _, _ | .sl _ _ _, _ | .dp _ _ _, _ => by simp [belowA]
  | .agg cs, h => by simp only [belowA, belowL_closed n cs (by simpa [closedA] using h)]
  | .tup cs, h => by simp only [belowA, belowL_closed n cs (by simpa [closedA] using h)]
  | .clo f a b, h => by
    simp only [closedA] at h
    split at h
    · rename_i ha; simp only [belowA, belowL_closed n a ha, belowL_closed n b h]
    · cases h
  | .ptr _ _, h | .ptr2 _ _ _, h | .osl _ _ _ _, h | .opt _ _, h | .any, h => by cases h
theorem belowL_closed (n : Nat) : ∀ (cs : List AV), closedL cs = true → belowL n cs = true
  | [], _ => by simp [belowL]
  | c :: cs, h => by
    simp only [closedL] at h
    split at h
    · rename_i hc; simp only [belowL, belowA_closed n c hc, belowL_closed n cs h]
    · cases h
end
theorem boxM (σ : Nat → Nat) {cs : List AV} (h : closedL cs = true) : some (Blk.box cs) = some (mapB σ (.box cs)) := by simp only [mapB, mapL_closed σ cs h]
theorem boxB (n : Nat) {cs : List AV} (h : closedL cs = true) : belowB n (.box cs) = true := by simp only [belowB, belowL_closed n cs h]

/-! ### conf.Clean$1 brings a number between two others -/
theorem hBring (cells : List AV) (col : Nat) (n lo hi : Int) (hn : nthO cells col = some (.v (.int .i64 n))) (hc : col + 1 ≤ cells.length) (hcl : closedL (putL col [.v (.int .i64 (clampI n lo hi))] cells) = true) :
    HSem C0.P C0.G 108 [.ptr 0 col, .v (.int .i64 lo), .v (.int .i64 hi)] (heapF [(0, .box cells)]) 1 (fun x h' => x = .tup [] ∧ h' = heapF [(0, .box (putL col [.v (.int .i64 (clampI n lo hi))] cells))]) := by
  refine HCall.intro (C := C0) (s := 1) c0Ok.at Try.func108 rfl rfl (by kernel_rfl) rfl rfl ?_
  refine cReg rfl ?_
  refine rOk (d := 6) (x := .ptr 0 col) rfl rfl rfl ?_
  refine rOk (d := 7) (x := .ptr 0 col) rfl rfl rfl ?_
  refine rOk (d := 8) (x := .ptr 0 col) rfl rfl rfl ?_
  refine rOk (d := 9) (x := .v (.int .i64 n)) rfl rfl (by show okO (nthO cells col) = _; rw [hn]; rfl) ?_
  refine rOk (d := 10) (x := .v (.int .i64 lo)) rfl rfl rfl ?_
  refine rOk (d := 11) (x := .v (.int .i64 (if lo > n then lo else n))) rfl rfl rfl ?_
  refine rOk (d := 12) (x := .v (.int .i64 hi)) rfl rfl rfl ?_
  refine rOk (d := 13) (x := .v (.int .i64 (if hi < (if lo > n then lo else n) then hi else (if lo > n then lo else n)))) rfl rfl rfl ?_
  refine rOk (d := 14) (x := .ptr 0 col) rfl rfl rfl ?_
  have hb : Nat.ble (col + 1) cells.length = true := Nat.ble_eq_true_of_le hc
  refine rFx0 (p := True) (h' := upd _ 0 (some (.box (putL col [.v (.int .i64 (clampI n lo hi))] cells)))) rfl rfl (by
    show (match Nat.ble (col + 1) cells.length with | true => Res.fx True .any (upd _ 0 (some (.box (putL col [.v (.int .i64 (if hi < (if lo > n then lo else n) then hi else (if lo > n then lo else n)))] cells)))) | false => .bad) = _
    rw [hb]
    rfl) trivial ?_
  refine rEnd (n' := 11) rfl ?_
  exact finH (rs := []) rfl (σ := fun s => s) ⟨rfl, rfl⟩ rfl (weak_ret (fun s => s) rfl rfl ⟨⟨rfl, boxM _ hcl, boxB _ hcl⟩, trivial⟩ rfl)


theorem bringAt {cells cells' : List AV} {b col : Nat} {n lo hi : Int} {K : AH} {s2 : Nat} (hn : nthO cells col = some (.v (.int .i64 n))) (hc : Nat.ble (col + 1) cells.length = true) (he : putL col [.v (.int .i64 (clampI n lo hi))] cells = cells') (hcl : closedL cells = true) (hcl' : closedL cells' = true) (hb : Nat.blt b s2 = true) (hK : K b = some (.box cells)) :
    HSem C0.P C0.G 108 [.ptr b col, .v (.int .i64 lo), .v (.int .i64 hi)] K s2 (fun x h' => x = .tup [] ∧ h' = upd K b (some (.box cells'))) := by
  subst he
  have := (hBring cells col n lo hi hn (Nat.le_of_ble_eq_true hc) hcl').frame1 b K s2 (Nat.le_of_ble_eq_true hb) (boxB 1 hcl) (by rw [hK]; exact boxM _ hcl) rfl
  rw [← boxM (newN (fun _ => b) 1 s2) hcl'] at this
  exact this
theorem hBring2 (rows : List (List AV)) (k : Nat) (n lo hi : Int) (hn : rows[k]? = some [.v (.int .i64 n)]) :
    HSem C0.P C0.G 108 [.ptr2 0 k 0, .v (.int .i64 lo), .v (.int .i64 hi)] (heapF [(0, .arr rows 1)]) 1 (fun x h' => x = .tup [] ∧ h' = heapF [(0, .arr (rows.set k [.v (.int .i64 (clampI n lo hi))]) 1)]) := by
  refine HCall.intro (C := C0) (s := 1) c0Ok.at Try.func108 rfl rfl (by kernel_rfl) rfl rfl ?_
  refine cReg rfl ?_
  refine rOk (d := 6) (x := .ptr2 0 k 0) rfl rfl rfl ?_
  refine rOk (d := 7) (x := .ptr2 0 k 0) rfl rfl rfl ?_
  refine rOk (d := 8) (x := .ptr2 0 k 0) rfl rfl rfl ?_
  refine rIdx [.v (.int .i64 n)] (d := 9) (x := .v (.int .i64 n)) rfl rfl rfl ⟨Int.natCast_nonneg _, hn⟩ rfl ?_
  refine rOk (d := 10) (x := .v (.int .i64 lo)) rfl rfl rfl ?_
  refine rOk (d := 11) (x := .v (.int .i64 (if lo > n then lo else n))) rfl rfl rfl ?_
  refine rOk (d := 12) (x := .v (.int .i64 hi)) rfl rfl rfl ?_
  refine rOk (d := 13) (x := .v (.int .i64 (if hi < (if lo > n then lo else n) then hi else (if lo > n then lo else n)))) rfl rfl rfl ?_
  refine rOk (d := 14) (x := .ptr2 0 k 0) rfl rfl rfl ?_
  refine rIdxFx [.v (.int .i64 n)] (h' := upd _ 0 (some (.arr (rows.set k [.v (.int .i64 (clampI n lo hi))]) 1))) rfl rfl rfl ⟨Int.natCast_nonneg _, hn⟩ rfl ?_
  refine rEnd (n' := 11) rfl ?_
  exact finH (rs := []) rfl (σ := fun s => s) ⟨rfl, rfl⟩ rfl (weak_ret (fun s => s) rfl rfl ⟨⟨rfl, rfl, rfl⟩, trivial⟩ rfl)
theorem bringAt2 {rows rows' : List (List AV)} {b k : Nat} {n lo hi : Int} {K : AH} {s2 : Nat} (hn : rows[k]? = some [.v (.int .i64 n)]) (he : rows.set k [.v (.int .i64 (clampI n lo hi))] = rows') (hb : Nat.blt b s2 = true) (hK : K b = some (.arr rows 1)) :
    HSem C0.P C0.G 108 [.ptr2 b k 0, .v (.int .i64 lo), .v (.int .i64 hi)] K s2 (fun x h' => x = .tup [] ∧ h' = upd K b (some (.arr rows' 1))) := by
  subst he
  exact (hBring2 rows k n lo hi hn).frame1 b K s2 (Nat.le_of_ble_eq_true hb) rfl hK rfl
theorem minN64 (a b : Nat) : Res.ok (.v (.int .i64 (if (b : Int) < (a : Int) then (b : Int) else (a : Int)))) = .ok (.v (.int .i64 ((min a b : Nat) : Int))) := by congr 3; split <;> omega
theorem copy_rows {α : Type} (f : α → List AV) (l : List α) (z : List AV) (n : Nat) (hn : n = min l.length 64) : (List.replicate n z).take 0 ++ (l.map f).take (min (l.map f).length n) ++ (List.replicate n z).drop (0 + min (l.map f).length n) = (l.take 64).map f := by
  subst hn
  rw [List.length_map, List.take_zero, List.nil_append, List.drop_of_length_le (by rw [List.length_replicate]; omega), List.append_nil, ← List.map_take]
  congr 1
  rcases Nat.le_total l.length 64 with h | h
  · rw [List.take_of_length_le (by omega), List.take_of_length_le (by omega)]
  · congr 1; omega
theorem lenMap {α : Type} (f : α → List AV) (l : List α) : Res.ok (.v (.int .i64 ((l.map f).length : Int))) = .ok (.v (.int .i64 ((l.length : Nat) : Int))) := by rw [List.length_map]


def latR (c : Cf) (k : Nat) : List (List AV) := ((((c.lat.take 64).take k).map fun n => clampI n 1 8) ++ (c.lat.take 64).drop k).map rowI
theorem latR_zero (c : Cf) : latR c 0 = (c.lat.take 64).map rowI := rfl
theorem latR_end (c : Cf) (k : Nat) (h : (c.lat.take 64).length ≤ k) : latR c k = (cleanCf c).lat.map rowI := by
  unfold latR cleanCf
  rw [List.take_of_length_le h, List.drop_of_length_le h, List.append_nil]
theorem latR_get {c : Cf} {k : Nat} {x : Int} (hx : (c.lat.take 64)[k]? = some x) : (latR c k)[k]? = some (rowI x) := by
  have hk := (List.getElem?_eq_some_iff.1 hx).1
  unfold latR
  rw [List.getElem?_map, List.getElem?_append_right (by simp; omega)]
  simp only [List.length_map, List.length_take]
  rw [List.getElem?_drop, show k + (k - min k (min 64 c.lat.length)) = k by have : k < (c.lat.take 64).length := hk; rw [List.length_take] at this; omega, hx]
  rfl
theorem latR_set {c : Cf} {k : Nat} {x : Int} (hx : (c.lat.take 64)[k]? = some x) : (latR c k).set k [.v (.int .i64 (clampI x 1 8))] = latR c (k + 1) := by
  unfold latR
  generalize c.lat.take 64 = l at hx ⊢
  have hk := (List.getElem?_eq_some_iff.1 hx).1
  have hl : ((l.take k).map fun n => clampI n 1 8).length = k := by rw [List.length_map, List.length_take]; omega
  have hx' : l[k] = x := by rw [List.getElem?_eq_getElem hk] at hx; exact Option.some.inj hx
  rw [show ([.v (.int .i64 (clampI x 1 8))] : List AV) = rowI (clampI x 1 8) from rfl, ← List.map_set, List.set_append_right _ _ (by omega), hl, Nat.sub_self, List.drop_eq_getElem_cons hk, List.set_cons_zero, List.take_add_one, hx]
  simp
theorem latR_len (c : Cf) (k : Nat) (h : k ≤ (c.lat.take 64).length) : (latR c k).length = (c.lat.take 64).length := by
  unfold latR
  simp only [List.length_map, List.length_append, List.length_drop]
  rw [List.length_take_of_le h]
  omega


theorem cp_eq {p : Prop} {x : AV} {h : AH} {b rs : Nat} {r r' : List (List AV)} (e : r = r') : Res.fx p x (upd h b (some (.arr r rs))) = .fx p x (upd h b (some (.arr r' rs))) := by rw [e]

set_option maxRecDepth 100000 in
set_option maxHeartbeats 4000000 in
theorem dCleanCf (c : Cf) (cl ct : Bool) (hok : c.ok) : DCall C0 85 [.agg (cfL c cl ct)] (.agg (cfL (cleanCf c) false false)) := by
  refine DCall.intro c0Ok Try.func85 rfl rfl (by kernel_rfl) rfl ?_
  refine cSeq ?_
  refine cReg rfl ?_
  refine rFx (d := 1) (x := .ptr 0 0) (h' := upd _ 0 (some (.box [vI c.mode, vI c.width, vI c.rob, vI c.queue, vI c.stores, vI c.slots, vI c.sets, vI c.ways, .sl 1 (c.lat.map rowI) cl, vB c.tables, .sl 1 (c.tape.map rowU) ct]))) rfl rfl (rfl) (trivial) ?_
  refine rFx (d := 2) (x := .ptr 1 0) (h' := upd _ 1 (some (.box [vI 0, vI 0, vI 0, vI 0, vI 0, vI 0, vI 0, vI 0, .sl 0 ([]) true, vB false, .sl 0 ([]) true]))) rfl rfl (rfl) (trivial) ?_
  refine rEnd (n' := 2) rfl ?_
  refine cSeq ?_
  refine cReg rfl ?_
  refine rOk (d := 3) (x := .clo 108 [] []) rfl rfl rfl ?_
  refine rEnd (n' := 3) rfl ?_
  refine cSeq ?_
  refine cReg rfl ?_
  refine rOk (d := 7) (x := .clo 108 [] []) rfl rfl rfl ?_
  refine rOk (d := 8) (x := .ptr 0 0) rfl rfl rfl ?_
  refine rHCall (args := [.ptr 0 0, vI 0, vI 2]) (d := 9) _ rfl rfl rfl (bringAt (cells := [vI c.mode, vI c.width, vI c.rob, vI c.queue, vI c.stores, vI c.slots, vI c.sets, vI c.ways, .sl 1 (c.lat.map rowI) cl, vB c.tables, .sl 1 (c.tape.map rowU) ct]) (cells' := [vI (clampI c.mode 0 2), vI c.width, vI c.rob, vI c.queue, vI c.stores, vI c.slots, vI c.sets, vI c.ways, .sl 1 (c.lat.map rowI) cl, vB c.tables, .sl 1 (c.tape.map rowU) ct]) rfl rfl rfl rfl rfl rfl rfl) ?_
  rintro _ _ ⟨rfl, rfl⟩
  refine rEnd (n' := 6) rfl ?_
  refine cSeq ?_
  refine cReg rfl ?_
  refine rOk (d := 10) (x := .clo 108 [] []) rfl rfl rfl ?_
  refine rOk (d := 11) (x := .ptr 0 1) rfl rfl rfl ?_
  refine rHCall (args := [.ptr 0 1, vI 1, vI 2]) (d := 12) _ rfl rfl rfl (bringAt (cells := [vI (clampI c.mode 0 2), vI c.width, vI c.rob, vI c.queue, vI c.stores, vI c.slots, vI c.sets, vI c.ways, .sl 1 (c.lat.map rowI) cl, vB c.tables, .sl 1 (c.tape.map rowU) ct]) (cells' := [vI (clampI c.mode 0 2), vI (clampI c.width 1 2), vI c.rob, vI c.queue, vI c.stores, vI c.slots, vI c.sets, vI c.ways, .sl 1 (c.lat.map rowI) cl, vB c.tables, .sl 1 (c.tape.map rowU) ct]) rfl rfl rfl rfl rfl rfl rfl) ?_
  rintro _ _ ⟨rfl, rfl⟩
  refine rEnd (n' := 9) rfl ?_
  refine cSeq ?_
  refine cReg rfl ?_
  refine rOk (d := 13) (x := .clo 108 [] []) rfl rfl rfl ?_
  refine rOk (d := 14) (x := .ptr 0 2) rfl rfl rfl ?_
  refine rHCall (args := [.ptr 0 2, vI 2, vI 8]) (d := 15) _ rfl rfl rfl (bringAt (cells := [vI (clampI c.mode 0 2), vI (clampI c.width 1 2), vI c.rob, vI c.queue, vI c.stores, vI c.slots, vI c.sets, vI c.ways, .sl 1 (c.lat.map rowI) cl, vB c.tables, .sl 1 (c.tape.map rowU) ct]) (cells' := [vI (clampI c.mode 0 2), vI (clampI c.width 1 2), vI (clampI c.rob 2 8), vI c.queue, vI c.stores, vI c.slots, vI c.sets, vI c.ways, .sl 1 (c.lat.map rowI) cl, vB c.tables, .sl 1 (c.tape.map rowU) ct]) rfl rfl rfl rfl rfl rfl rfl) ?_
  rintro _ _ ⟨rfl, rfl⟩
  refine rEnd (n' := 12) rfl ?_
  refine cSeq ?_
  refine cReg rfl ?_
  refine rOk (d := 16) (x := .clo 108 [] []) rfl rfl rfl ?_
  refine rOk (d := 17) (x := .ptr 0 3) rfl rfl rfl ?_
  refine rHCall (args := [.ptr 0 3, vI 1, vI 4]) (d := 18) _ rfl rfl rfl (bringAt (cells := [vI (clampI c.mode 0 2), vI (clampI c.width 1 2), vI (clampI c.rob 2 8), vI c.queue, vI c.stores, vI c.slots, vI c.sets, vI c.ways, .sl 1 (c.lat.map rowI) cl, vB c.tables, .sl 1 (c.tape.map rowU) ct]) (cells' := [vI (clampI c.mode 0 2), vI (clampI c.width 1 2), vI (clampI c.rob 2 8), vI (clampI c.queue 1 4), vI c.stores, vI c.slots, vI c.sets, vI c.ways, .sl 1 (c.lat.map rowI) cl, vB c.tables, .sl 1 (c.tape.map rowU) ct]) rfl rfl rfl rfl rfl rfl rfl) ?_
  rintro _ _ ⟨rfl, rfl⟩
  refine rEnd (n' := 15) rfl ?_
  refine cSeq ?_
  refine cReg rfl ?_
  refine rOk (d := 19) (x := .clo 108 [] []) rfl rfl rfl ?_
  refine rOk (d := 20) (x := .ptr 0 4) rfl rfl rfl ?_
  refine rHCall (args := [.ptr 0 4, vI 1, vI 4]) (d := 21) _ rfl rfl rfl (bringAt (cells := [vI (clampI c.mode 0 2), vI (clampI c.width 1 2), vI (clampI c.rob 2 8), vI (clampI c.queue 1 4), vI c.stores, vI c.slots, vI c.sets, vI c.ways, .sl 1 (c.lat.map rowI) cl, vB c.tables, .sl 1 (c.tape.map rowU) ct]) (cells' := [vI (clampI c.mode 0 2), vI (clampI c.width 1 2), vI (clampI c.rob 2 8), vI (clampI c.queue 1 4), vI (clampI c.stores 1 4), vI c.slots, vI c.sets, vI c.ways, .sl 1 (c.lat.map rowI) cl, vB c.tables, .sl 1 (c.tape.map rowU) ct]) rfl rfl rfl rfl rfl rfl rfl) ?_
  rintro _ _ ⟨rfl, rfl⟩
  refine rEnd (n' := 18) rfl ?_
  refine cSeq ?_
  refine cReg rfl ?_
  refine rOk (d := 22) (x := .clo 108 [] []) rfl rfl rfl ?_
  refine rOk (d := 23) (x := .ptr 0 5) rfl rfl rfl ?_
  refine rHCall (args := [.ptr 0 5, vI 2, vI 6]) (d := 24) _ rfl rfl rfl (bringAt (cells := [vI (clampI c.mode 0 2), vI (clampI c.width 1 2), vI (clampI c.rob 2 8), vI (clampI c.queue 1 4), vI (clampI c.stores 1 4), vI c.slots, vI c.sets, vI c.ways, .sl 1 (c.lat.map rowI) cl, vB c.tables, .sl 1 (c.tape.map rowU) ct]) (cells' := [vI (clampI c.mode 0 2), vI (clampI c.width 1 2), vI (clampI c.rob 2 8), vI (clampI c.queue 1 4), vI (clampI c.stores 1 4), vI (clampI c.slots 2 6), vI c.sets, vI c.ways, .sl 1 (c.lat.map rowI) cl, vB c.tables, .sl 1 (c.tape.map rowU) ct]) rfl rfl rfl rfl rfl rfl rfl) ?_
  rintro _ _ ⟨rfl, rfl⟩
  refine rEnd (n' := 21) rfl ?_
  refine cSeq ?_
  refine cReg rfl ?_
  refine rOk (d := 25) (x := .clo 108 [] []) rfl rfl rfl ?_
  refine rOk (d := 26) (x := .ptr 0 6) rfl rfl rfl ?_
  refine rHCall (args := [.ptr 0 6, vI 1, vI 4]) (d := 27) _ rfl rfl rfl (bringAt (cells := [vI (clampI c.mode 0 2), vI (clampI c.width 1 2), vI (clampI c.rob 2 8), vI (clampI c.queue 1 4), vI (clampI c.stores 1 4), vI (clampI c.slots 2 6), vI c.sets, vI c.ways, .sl 1 (c.lat.map rowI) cl, vB c.tables, .sl 1 (c.tape.map rowU) ct]) (cells' := [vI (clampI c.mode 0 2), vI (clampI c.width 1 2), vI (clampI c.rob 2 8), vI (clampI c.queue 1 4), vI (clampI c.stores 1 4), vI (clampI c.slots 2 6), vI (clampI c.sets 1 4), vI c.ways, .sl 1 (c.lat.map rowI) cl, vB c.tables, .sl 1 (c.tape.map rowU) ct]) rfl rfl rfl rfl rfl rfl rfl) ?_
  rintro _ _ ⟨rfl, rfl⟩
  refine rEnd (n' := 24) rfl ?_
  refine cSeq ?_
  refine cSeq ?_
  refine cReg rfl ?_
  refine rOk (d := 28) (x := .ptr 0 6) rfl rfl rfl ?_
  refine rOk (d := 29) (x := vI (clampI c.sets 1 4)) rfl rfl rfl ?_
  refine rOk (d := 30) (x := vB ((clampI c.sets 1 4) == 3)) rfl rfl rfl ?_
  refine rEnd (n' := 27) rfl ?_
  refine cCond (v := (clampI c.sets 1 4) == 3) rfl (fun h1 => ?_) (fun h1 => ?_)
  · skip
    refine cReg rfl ?_
    refine rOk (d := 31) (x := .ptr 0 6) rfl rfl rfl ?_
    refine rFx0 (h' := upd _ 0 (some (.box [vI (clampI c.mode 0 2), vI (clampI c.width 1 2), vI (clampI c.rob 2 8), vI (clampI c.queue 1 4), vI (clampI c.stores 1 4), vI (clampI c.slots 2 6), vI 2, vI c.ways, .sl 1 (c.lat.map rowI) cl, vB c.tables, .sl 1 (c.tape.map rowU) ct]))) rfl rfl (rfl) (trivial) ?_
    refine rEnd (n' := 29) rfl ?_
    refine cSeq ?_
    refine cReg rfl ?_
    refine rOk (d := 32) (x := .clo 108 [] []) rfl rfl rfl ?_
    refine rOk (d := 33) (x := .ptr 0 7) rfl rfl rfl ?_
    refine rHCall (args := [.ptr 0 7, vI 1, vI 2]) (d := 34) _ rfl rfl rfl (bringAt (cells := [vI (clampI c.mode 0 2), vI (clampI c.width 1 2), vI (clampI c.rob 2 8), vI (clampI c.queue 1 4), vI (clampI c.stores 1 4), vI (clampI c.slots 2 6), vI 2, vI c.ways, .sl 1 (c.lat.map rowI) cl, vB c.tables, .sl 1 (c.tape.map rowU) ct]) (cells' := [vI (clampI c.mode 0 2), vI (clampI c.width 1 2), vI (clampI c.rob 2 8), vI (clampI c.queue 1 4), vI (clampI c.stores 1 4), vI (clampI c.slots 2 6), vI 2, vI (clampI c.ways 1 2), .sl 1 (c.lat.map rowI) cl, vB c.tables, .sl 1 (c.tape.map rowU) ct]) rfl rfl rfl rfl rfl rfl rfl) ?_
    rintro _ _ ⟨rfl, rfl⟩
    refine rEnd (n' := 32) rfl ?_
    refine cSeq ?_
    refine cReg rfl ?_
    refine rOk (d := 35) (x := .ptr 0 8) rfl rfl rfl ?_
    refine rOk (d := 36) (x := .sl 1 (c.lat.map rowI) cl) rfl rfl rfl ?_
    refine rOk (d := 37) (x := vN c.lat.length) rfl rfl (lenMap rowI c.lat) ?_
    refine rOk (d := 38) (x := vN (min c.lat.length 64)) rfl rfl (minN64 c.lat.length 64) ?_
    refine rFx (d := 39) (x := .osl 36 0 (min c.lat.length 64) false) (h' := upd _ 36 (some (.arr (List.replicate (min c.lat.length 64) [vI 0]) 1))) rfl rfl (rfl) (⟨Int.natCast_nonneg _, Int.le_refl _, by (first | show (((min c.lat.length 64) : Nat) : Int) ≤ 2000000 | refine .inl (show (((min c.lat.length 64) : Nat) : Int) ≤ 2000000 from ?_)); have := (Nat.le_trans (Nat.min_le_right c.lat.length 64) (Nat.le_refl 64)); omega⟩) ?_
    refine rOk (d := 4) (x := .osl 36 0 (min c.lat.length 64) false) rfl rfl rfl ?_
    refine rEnd (n' := 38) rfl ?_
    refine cSeq ?_
    refine cReg rfl ?_
    refine rOk (d := 40) (x := .osl 36 0 (min c.lat.length 64) false) rfl rfl rfl ?_
    refine rOk (d := 41) (x := .ptr 0 8) rfl rfl rfl ?_
    refine rOk (d := 42) (x := .sl 1 (c.lat.map rowI) cl) rfl rfl rfl ?_
    refine rFx (d := 43) (x := vI ((min (c.lat.map rowI).length (min c.lat.length 64) : Nat) : Int)) (h' := upd _ 36 (some (.arr (latR c 0) 1))) rfl rfl (cp_eq (copy_rows rowI c.lat [.v (.int .i64 0)] _ rfl)) (⟨by simp, trivial⟩) ?_
    refine rEnd (n' := 42) rfl ?_
    refine cSeq ?_
    refine cSeq ?_
    refine cReg rfl ?_
    refine rOk (d := 44) (x := .osl 36 0 (min c.lat.length 64) false) rfl rfl rfl ?_
    refine rOk (d := 45) (x := vN (min c.lat.length 64)) rfl rfl rfl ?_
    refine rOk (d := 46) (x := vI 0) rfl rfl rfl ?_
    refine rEnd (n' := 45) rfl ?_
    refine cBlock ?_
    refine cLoop (κ := Nat) (fun k => ⟨slotsF [(1, .ptr 0 0), (2, .ptr 1 0), (3, .clo 108 [] []), (4, .osl 36 0 (min c.lat.length 64) false), (45, vN (min c.lat.length 64)), (46, vN k)], heapF [(0, .box [vI (clampI c.mode 0 2), vI (clampI c.width 1 2), vI (clampI c.rob 2 8), vI (clampI c.queue 1 4), vI (clampI c.stores 1 4), vI (clampI c.slots 2 6), vI 2, vI (clampI c.ways 1 2), .sl 1 (c.lat.map rowI) cl, vB c.tables, .sl 1 (c.tape.map rowU) ct]), (1, .box [vI 0, vI 0, vI 0, vI 0, vI 0, vI 0, vI 0, vI 0, .sl 0 ([]) true, vB false, .sl 0 ([]) true]), (36, .arr (latR c k) 1)], 45⟩) (fun k => k ≤ min c.lat.length 64) (fun k => min c.lat.length 64 - k) 0 (fun s => s) (Weak.of_lists (fun s => s) ⟨⟨rfl, rfl⟩, ⟨rfl, rfl⟩, ⟨rfl, rfl⟩, ⟨rfl, rfl⟩, ⟨rfl, rfl⟩, ⟨rfl, rfl⟩, trivial⟩ ⟨⟨rfl, rfl, rfl⟩, ⟨rfl, rfl, rfl⟩, ⟨rfl, rfl, rfl⟩, trivial⟩ rfl) (Nat.zero_le _) ?_
    intro k hk
    have hkB : k ≤ 2000000 := by omega
    refine cSeq ?_
    refine cReg rfl ?_
    refine rOk (d := 47) (x := vB (decide (k < (min c.lat.length 64)))) rfl rfl (okB (ltN _ _)) ?_
    refine rEnd (n' := 46) rfl ?_
    refine cSeq ?_
    refine cCond (v := decide (k < (min c.lat.length 64))) rfl (fun h2 => ?_) (fun h2 => ?_)
    · skip
      refine cSkip ?_
      refine cSeq ?_
      refine cBlock ?_
      refine cSeq ?_
      refine cReg rfl ?_
      refine rOk (d := 48) (x := vN k) rfl rfl rfl ?_
      refine rOk (d := 5) (x := vN k) rfl rfl rfl ?_
      refine rEnd (n' := 48) rfl ?_
      refine cReg rfl ?_
      refine rOk (d := 49) (x := .clo 108 [] []) rfl rfl rfl ?_
      refine rOk (d := 50) (x := .osl 36 0 (min c.lat.length 64) false) rfl rfl rfl ?_
      refine rOk (d := 51) (x := vN k) rfl rfl rfl ?_
      have hkl : k < (c.lat.take 64).length := by have := of_decide_eq_true h2; rw [List.length_take]; omega
      obtain ⟨x, hx⟩ : ∃ x, (c.lat.take 64)[k]? = some x := ⟨_, List.getElem?_eq_getElem hkl⟩
      have hxk : (latR c k)[0 + k]? = some [.v (.int .i64 x)] := by rw [Nat.zero_add]; exact latR_get hx
      refine rNeed (d := 52) (x := .ptr2 36 (0 + k) 0) rfl rfl rfl (⟨Int.natCast_nonneg _, by show ((k : Nat) : Int) < ((min c.lat.length 64 : Nat) : Int); have := of_decide_eq_true h2; omega⟩) ?_
      refine rHCall (args := [.ptr2 36 (0 + k) 0, vI 1, vI 8]) (d := 53) _ rfl rfl rfl (bringAt2 (rows := latR c k) (rows' := latR c (k + 1)) (k := 0 + k) (n := x) hxk ((Nat.zero_add k).symm ▸ latR_set hx) rfl rfl) ?_
      rintro _ _ ⟨rfl, rfl⟩
      refine rEnd (n' := 53) rfl ?_
      refine cReg rfl ?_
      have b1 : k + 1 ≤ 2000001 := Nat.add_le_add hkB (Nat.le_refl 1)
      refine rOk (d := 54) (x := vN (k + 1)) rfl rfl (okI (wrapI64 b1 rfl)) ?_
      refine rOk (d := 46) (x := vN (k + 1)) rfl rfl rfl ?_
      refine rEnd (n' := 55) rfl ?_
      refine ⟨k + 1, fun s => s, Weak.of_lists (fun s => s) ⟨⟨rfl, rfl⟩, ⟨rfl, rfl⟩, ⟨rfl, rfl⟩, ⟨rfl, rfl⟩, ⟨rfl, rfl⟩, ⟨rfl, rfl⟩, trivial⟩ ⟨⟨rfl, rfl, rfl⟩, ⟨rfl, rfl, rfl⟩, ⟨rfl, rfl, rfl⟩, trivial⟩ rfl, by have := of_decide_eq_true h2; omega, by have := of_decide_eq_true h2; show min c.lat.length 64 - (k + 1) < min c.lat.length 64 - k; omega⟩
    · skip
      refine cExit ?_
      refine cSeq ?_
      refine cReg rfl ?_
      refine rOk (d := 55) (x := .ptr 0 10) rfl rfl rfl ?_
      refine rOk (d := 56) (x := .sl 1 (c.tape.map rowU) ct) rfl rfl rfl ?_
      refine rOk (d := 57) (x := vN c.tape.length) rfl rfl (lenMap rowU c.tape) ?_
      refine rOk (d := 58) (x := vN (min c.tape.length 64)) rfl rfl (minN64 c.tape.length 64) ?_
      refine rFx (d := 59) (x := .osl 50 0 (min c.tape.length 64) false) (h' := upd _ 50 (some (.arr (List.replicate (min c.tape.length 64) [.v (.int .u32 0)]) 1))) rfl rfl (rfl) (⟨Int.natCast_nonneg _, Int.le_refl _, by (first | show (((min c.tape.length 64) : Nat) : Int) ≤ 2000000 | refine .inl (show (((min c.tape.length 64) : Nat) : Int) ≤ 2000000 from ?_)); have := (Nat.le_trans (Nat.min_le_right c.tape.length 64) (Nat.le_refl 64)); omega⟩) ?_
      refine rOk (d := 6) (x := .osl 50 0 (min c.tape.length 64) false) rfl rfl rfl ?_
      refine rEnd (n' := 52) rfl ?_
      refine cSeq ?_
      refine cReg rfl ?_
      refine rOk (d := 60) (x := .osl 50 0 (min c.tape.length 64) false) rfl rfl rfl ?_
      refine rOk (d := 61) (x := .ptr 0 10) rfl rfl rfl ?_
      refine rOk (d := 62) (x := .sl 1 (c.tape.map rowU) ct) rfl rfl rfl ?_
      refine rFx (d := 63) (x := vI ((min (c.tape.map rowU).length (min c.tape.length 64) : Nat) : Int)) (h' := upd _ 50 (some (.arr ((c.tape.take 64).map rowU) 1))) rfl rfl (cp_eq (copy_rows rowU c.tape [.v (.int .u32 0)] _ rfl)) (⟨by simp, trivial⟩) ?_
      refine rEnd (n' := 56) rfl ?_
      refine cSeq ?_
      refine cReg rfl ?_
      refine rOk (d := 64) (x := .osl 36 0 (min c.lat.length 64) false) rfl rfl rfl ?_
      refine rOk (d := 65) (x := .osl 50 0 (min c.tape.length 64) false) rfl rfl rfl ?_
      refine rOk (d := 66) (x := .ptr 0 8) rfl rfl rfl ?_
      refine rFx0 (h' := upd _ 0 (some (.box [vI (clampI c.mode 0 2), vI (clampI c.width 1 2), vI (clampI c.rob 2 8), vI (clampI c.queue 1 4), vI (clampI c.stores 1 4), vI (clampI c.slots 2 6), vI 2, vI (clampI c.ways 1 2), .osl 36 0 (min c.lat.length 64) false, vB c.tables, .sl 1 (c.tape.map rowU) ct]))) rfl rfl (rfl) (trivial) ?_
      refine rOk (d := 67) (x := .ptr 0 10) rfl rfl rfl ?_
      refine rFx0 (h' := upd _ 0 (some (.box [vI (clampI c.mode 0 2), vI (clampI c.width 1 2), vI (clampI c.rob 2 8), vI (clampI c.queue 1 4), vI (clampI c.stores 1 4), vI (clampI c.slots 2 6), vI 2, vI (clampI c.ways 1 2), .osl 36 0 (min c.lat.length 64) false, vB c.tables, .osl 50 0 (min c.tape.length 64) false]))) rfl rfl (rfl) (trivial) ?_
      refine rEnd (n' := 62) rfl ?_
      refine cSeq ?_
      refine cReg rfl ?_
      refine rOk (d := 68) (x := .agg [vI (clampI c.mode 0 2), vI (clampI c.width 1 2), vI (clampI c.rob 2 8), vI (clampI c.queue 1 4), vI (clampI c.stores 1 4), vI (clampI c.slots 2 6), vI 2, vI (clampI c.ways 1 2), .osl 36 0 (min c.lat.length 64) false, vB c.tables, .osl 50 0 (min c.tape.length 64) false]) rfl rfl rfl ?_
      refine rFx0 (h' := upd _ 1 (some (.box [vI (clampI c.mode 0 2), vI (clampI c.width 1 2), vI (clampI c.rob 2 8), vI (clampI c.queue 1 4), vI (clampI c.stores 1 4), vI (clampI c.slots 2 6), vI 2, vI (clampI c.ways 1 2), .osl 36 0 (min c.lat.length 64) false, vB c.tables, .osl 50 0 (min c.tape.length 64) false]))) rfl rfl (rfl) (trivial) ?_
      refine rEnd (n' := 64) rfl ?_
      refine cRet ?_
      have hk2 : (c.lat.take 64).length ≤ k := by rw [List.length_take]; have := of_decide_eq_false h2; omega
      have hll := latR_len c k (by rw [List.length_take]; omega)
      have e1 : List.take (min c.lat.length 64) (List.drop 0 (latR c k)) = (cleanCf c).lat.map rowI := by rw [List.drop_zero, List.take_of_length_le (by rw [hll, List.length_take]; omega), latR_end c k hk2]
      have e2 : List.take (min c.tape.length 64) (List.drop 0 ((c.tape.take 64).map rowU)) = (cleanCf c).tape.map rowU := by rw [List.drop_zero, List.take_of_length_le (by rw [List.length_map, List.length_take]; omega)]; rfl
      have e3 : (cleanCf c).sets = 2 := if_pos (by simpa using h1)
      refine finTA rfl ⟨trivial, trivial, trivial, trivial, trivial, trivial, trivial, trivial, by show 0 + min c.lat.length 64 ≤ (latR c k).length; rw [hll, List.length_take]; omega, trivial, by show 0 + min c.tape.length 64 ≤ ((c.tape.take 64).map rowU).length; rw [List.length_map, List.length_take]; omega, trivial⟩ rfl ?_
      show AV.agg [vI (clampI c.mode 0 2), vI (clampI c.width 1 2), vI (clampI c.rob 2 8), vI (clampI c.queue 1 4), vI (clampI c.stores 1 4), vI (clampI c.slots 2 6), vI 2, vI (clampI c.ways 1 2), .sl 1 (List.take (min c.lat.length 64) (List.drop 0 (latR c k))) false, vB c.tables, .sl 1 (List.take (min c.tape.length 64) (List.drop 0 ((c.tape.take 64).map rowU))) false] = AV.agg (cfL (cleanCf c) false false)
      rw [e1, e2]
      show _ = AV.agg [vI (cleanCf c).mode, vI (cleanCf c).width, vI (cleanCf c).rob, vI (cleanCf c).queue, vI (cleanCf c).stores, vI (cleanCf c).slots, vI (cleanCf c).sets, vI (cleanCf c).ways, .sl 1 ((cleanCf c).lat.map rowI) false, vB (cleanCf c).tables, .sl 1 ((cleanCf c).tape.map rowU) false]
      rw [e3]
      rfl
  · skip
    refine cSkip ?_
    refine cSeq ?_
    refine cReg rfl ?_
    refine rOk (d := 32) (x := .clo 108 [] []) rfl rfl rfl ?_
    refine rOk (d := 33) (x := .ptr 0 7) rfl rfl rfl ?_
    refine rHCall (args := [.ptr 0 7, vI 1, vI 2]) (d := 34) _ rfl rfl rfl (bringAt (cells := [vI (clampI c.mode 0 2), vI (clampI c.width 1 2), vI (clampI c.rob 2 8), vI (clampI c.queue 1 4), vI (clampI c.stores 1 4), vI (clampI c.slots 2 6), vI (clampI c.sets 1 4), vI c.ways, .sl 1 (c.lat.map rowI) cl, vB c.tables, .sl 1 (c.tape.map rowU) ct]) (cells' := [vI (clampI c.mode 0 2), vI (clampI c.width 1 2), vI (clampI c.rob 2 8), vI (clampI c.queue 1 4), vI (clampI c.stores 1 4), vI (clampI c.slots 2 6), vI (clampI c.sets 1 4), vI (clampI c.ways 1 2), .sl 1 (c.lat.map rowI) cl, vB c.tables, .sl 1 (c.tape.map rowU) ct]) rfl rfl rfl rfl rfl rfl rfl) ?_
    rintro _ _ ⟨rfl, rfl⟩
    refine rEnd (n' := 30) rfl ?_
    refine cSeq ?_
    refine cReg rfl ?_
    refine rOk (d := 35) (x := .ptr 0 8) rfl rfl rfl ?_
    refine rOk (d := 36) (x := .sl 1 (c.lat.map rowI) cl) rfl rfl rfl ?_
    refine rOk (d := 37) (x := vN c.lat.length) rfl rfl (lenMap rowI c.lat) ?_
    refine rOk (d := 38) (x := vN (min c.lat.length 64)) rfl rfl (minN64 c.lat.length 64) ?_
    refine rFx (d := 39) (x := .osl 34 0 (min c.lat.length 64) false) (h' := upd _ 34 (some (.arr (List.replicate (min c.lat.length 64) [vI 0]) 1))) rfl rfl (rfl) (⟨Int.natCast_nonneg _, Int.le_refl _, by (first | show (((min c.lat.length 64) : Nat) : Int) ≤ 2000000 | refine .inl (show (((min c.lat.length 64) : Nat) : Int) ≤ 2000000 from ?_)); have := (Nat.le_trans (Nat.min_le_right c.lat.length 64) (Nat.le_refl 64)); omega⟩) ?_
    refine rOk (d := 4) (x := .osl 34 0 (min c.lat.length 64) false) rfl rfl rfl ?_
    refine rEnd (n' := 36) rfl ?_
    refine cSeq ?_
    refine cReg rfl ?_
    refine rOk (d := 40) (x := .osl 34 0 (min c.lat.length 64) false) rfl rfl rfl ?_
    refine rOk (d := 41) (x := .ptr 0 8) rfl rfl rfl ?_
    refine rOk (d := 42) (x := .sl 1 (c.lat.map rowI) cl) rfl rfl rfl ?_
    refine rFx (d := 43) (x := vI ((min (c.lat.map rowI).length (min c.lat.length 64) : Nat) : Int)) (h' := upd _ 34 (some (.arr (latR c 0) 1))) rfl rfl (cp_eq (copy_rows rowI c.lat [.v (.int .i64 0)] _ rfl)) (⟨by simp, trivial⟩) ?_
    refine rEnd (n' := 40) rfl ?_
    refine cSeq ?_
    refine cSeq ?_
    refine cReg rfl ?_
    refine rOk (d := 44) (x := .osl 34 0 (min c.lat.length 64) false) rfl rfl rfl ?_
    refine rOk (d := 45) (x := vN (min c.lat.length 64)) rfl rfl rfl ?_
    refine rOk (d := 46) (x := vI 0) rfl rfl rfl ?_
    refine rEnd (n' := 43) rfl ?_
    refine cBlock ?_
    refine cLoop (κ := Nat) (fun k => ⟨slotsF [(1, .ptr 0 0), (2, .ptr 1 0), (3, .clo 108 [] []), (4, .osl 34 0 (min c.lat.length 64) false), (45, vN (min c.lat.length 64)), (46, vN k)], heapF [(0, .box [vI (clampI c.mode 0 2), vI (clampI c.width 1 2), vI (clampI c.rob 2 8), vI (clampI c.queue 1 4), vI (clampI c.stores 1 4), vI (clampI c.slots 2 6), vI (clampI c.sets 1 4), vI (clampI c.ways 1 2), .sl 1 (c.lat.map rowI) cl, vB c.tables, .sl 1 (c.tape.map rowU) ct]), (1, .box [vI 0, vI 0, vI 0, vI 0, vI 0, vI 0, vI 0, vI 0, .sl 0 ([]) true, vB false, .sl 0 ([]) true]), (34, .arr (latR c k) 1)], 43⟩) (fun k => k ≤ min c.lat.length 64) (fun k => min c.lat.length 64 - k) 0 (fun s => s) (Weak.of_lists (fun s => s) ⟨⟨rfl, rfl⟩, ⟨rfl, rfl⟩, ⟨rfl, rfl⟩, ⟨rfl, rfl⟩, ⟨rfl, rfl⟩, ⟨rfl, rfl⟩, trivial⟩ ⟨⟨rfl, rfl, rfl⟩, ⟨rfl, rfl, rfl⟩, ⟨rfl, rfl, rfl⟩, trivial⟩ rfl) (Nat.zero_le _) ?_
    intro k hk
    have hkB : k ≤ 2000000 := by omega
    refine cSeq ?_
    refine cReg rfl ?_
    refine rOk (d := 47) (x := vB (decide (k < (min c.lat.length 64)))) rfl rfl (okB (ltN _ _)) ?_
    refine rEnd (n' := 44) rfl ?_
    refine cSeq ?_
    refine cCond (v := decide (k < (min c.lat.length 64))) rfl (fun h3 => ?_) (fun h3 => ?_)
    · skip
      refine cSkip ?_
      refine cSeq ?_
      refine cBlock ?_
      refine cSeq ?_
      refine cReg rfl ?_
      refine rOk (d := 48) (x := vN k) rfl rfl rfl ?_
      refine rOk (d := 5) (x := vN k) rfl rfl rfl ?_
      refine rEnd (n' := 46) rfl ?_
      refine cReg rfl ?_
      refine rOk (d := 49) (x := .clo 108 [] []) rfl rfl rfl ?_
      refine rOk (d := 50) (x := .osl 34 0 (min c.lat.length 64) false) rfl rfl rfl ?_
      refine rOk (d := 51) (x := vN k) rfl rfl rfl ?_
      have hkl : k < (c.lat.take 64).length := by have := of_decide_eq_true h3; rw [List.length_take]; omega
      obtain ⟨x, hx⟩ : ∃ x, (c.lat.take 64)[k]? = some x := ⟨_, List.getElem?_eq_getElem hkl⟩
      have hxk : (latR c k)[0 + k]? = some [.v (.int .i64 x)] := by rw [Nat.zero_add]; exact latR_get hx
      refine rNeed (d := 52) (x := .ptr2 34 (0 + k) 0) rfl rfl rfl (⟨Int.natCast_nonneg _, by show ((k : Nat) : Int) < ((min c.lat.length 64 : Nat) : Int); have := of_decide_eq_true h3; omega⟩) ?_
      refine rHCall (args := [.ptr2 34 (0 + k) 0, vI 1, vI 8]) (d := 53) _ rfl rfl rfl (bringAt2 (rows := latR c k) (rows' := latR c (k + 1)) (k := 0 + k) (n := x) hxk ((Nat.zero_add k).symm ▸ latR_set hx) rfl rfl) ?_
      rintro _ _ ⟨rfl, rfl⟩
      refine rEnd (n' := 51) rfl ?_
      refine cReg rfl ?_
      have b2 : k + 1 ≤ 2000001 := Nat.add_le_add hkB (Nat.le_refl 1)
      refine rOk (d := 54) (x := vN (k + 1)) rfl rfl (okI (wrapI64 b2 rfl)) ?_
      refine rOk (d := 46) (x := vN (k + 1)) rfl rfl rfl ?_
      refine rEnd (n' := 53) rfl ?_
      refine ⟨k + 1, fun s => s, Weak.of_lists (fun s => s) ⟨⟨rfl, rfl⟩, ⟨rfl, rfl⟩, ⟨rfl, rfl⟩, ⟨rfl, rfl⟩, ⟨rfl, rfl⟩, ⟨rfl, rfl⟩, trivial⟩ ⟨⟨rfl, rfl, rfl⟩, ⟨rfl, rfl, rfl⟩, ⟨rfl, rfl, rfl⟩, trivial⟩ rfl, by have := of_decide_eq_true h3; omega, by have := of_decide_eq_true h3; show min c.lat.length 64 - (k + 1) < min c.lat.length 64 - k; omega⟩
    · skip
      refine cExit ?_
      refine cSeq ?_
      refine cReg rfl ?_
      refine rOk (d := 55) (x := .ptr 0 10) rfl rfl rfl ?_
      refine rOk (d := 56) (x := .sl 1 (c.tape.map rowU) ct) rfl rfl rfl ?_
      refine rOk (d := 57) (x := vN c.tape.length) rfl rfl (lenMap rowU c.tape) ?_
      refine rOk (d := 58) (x := vN (min c.tape.length 64)) rfl rfl (minN64 c.tape.length 64) ?_
      refine rFx (d := 59) (x := .osl 48 0 (min c.tape.length 64) false) (h' := upd _ 48 (some (.arr (List.replicate (min c.tape.length 64) [.v (.int .u32 0)]) 1))) rfl rfl (rfl) (⟨Int.natCast_nonneg _, Int.le_refl _, by (first | show (((min c.tape.length 64) : Nat) : Int) ≤ 2000000 | refine .inl (show (((min c.tape.length 64) : Nat) : Int) ≤ 2000000 from ?_)); have := (Nat.le_trans (Nat.min_le_right c.tape.length 64) (Nat.le_refl 64)); omega⟩) ?_
      refine rOk (d := 6) (x := .osl 48 0 (min c.tape.length 64) false) rfl rfl rfl ?_
      refine rEnd (n' := 50) rfl ?_
      refine cSeq ?_
      refine cReg rfl ?_
      refine rOk (d := 60) (x := .osl 48 0 (min c.tape.length 64) false) rfl rfl rfl ?_
      refine rOk (d := 61) (x := .ptr 0 10) rfl rfl rfl ?_
      refine rOk (d := 62) (x := .sl 1 (c.tape.map rowU) ct) rfl rfl rfl ?_
      refine rFx (d := 63) (x := vI ((min (c.tape.map rowU).length (min c.tape.length 64) : Nat) : Int)) (h' := upd _ 48 (some (.arr ((c.tape.take 64).map rowU) 1))) rfl rfl (cp_eq (copy_rows rowU c.tape [.v (.int .u32 0)] _ rfl)) (⟨by simp, trivial⟩) ?_
      refine rEnd (n' := 54) rfl ?_
      refine cSeq ?_
      refine cReg rfl ?_
      refine rOk (d := 64) (x := .osl 34 0 (min c.lat.length 64) false) rfl rfl rfl ?_
      refine rOk (d := 65) (x := .osl 48 0 (min c.tape.length 64) false) rfl rfl rfl ?_
      refine rOk (d := 66) (x := .ptr 0 8) rfl rfl rfl ?_
      refine rFx0 (h' := upd _ 0 (some (.box [vI (clampI c.mode 0 2), vI (clampI c.width 1 2), vI (clampI c.rob 2 8), vI (clampI c.queue 1 4), vI (clampI c.stores 1 4), vI (clampI c.slots 2 6), vI (clampI c.sets 1 4), vI (clampI c.ways 1 2), .osl 34 0 (min c.lat.length 64) false, vB c.tables, .sl 1 (c.tape.map rowU) ct]))) rfl rfl (rfl) (trivial) ?_
      refine rOk (d := 67) (x := .ptr 0 10) rfl rfl rfl ?_
      refine rFx0 (h' := upd _ 0 (some (.box [vI (clampI c.mode 0 2), vI (clampI c.width 1 2), vI (clampI c.rob 2 8), vI (clampI c.queue 1 4), vI (clampI c.stores 1 4), vI (clampI c.slots 2 6), vI (clampI c.sets 1 4), vI (clampI c.ways 1 2), .osl 34 0 (min c.lat.length 64) false, vB c.tables, .osl 48 0 (min c.tape.length 64) false]))) rfl rfl (rfl) (trivial) ?_
      refine rEnd (n' := 60) rfl ?_
      refine cSeq ?_
      refine cReg rfl ?_
      refine rOk (d := 68) (x := .agg [vI (clampI c.mode 0 2), vI (clampI c.width 1 2), vI (clampI c.rob 2 8), vI (clampI c.queue 1 4), vI (clampI c.stores 1 4), vI (clampI c.slots 2 6), vI (clampI c.sets 1 4), vI (clampI c.ways 1 2), .osl 34 0 (min c.lat.length 64) false, vB c.tables, .osl 48 0 (min c.tape.length 64) false]) rfl rfl rfl ?_
      refine rFx0 (h' := upd _ 1 (some (.box [vI (clampI c.mode 0 2), vI (clampI c.width 1 2), vI (clampI c.rob 2 8), vI (clampI c.queue 1 4), vI (clampI c.stores 1 4), vI (clampI c.slots 2 6), vI (clampI c.sets 1 4), vI (clampI c.ways 1 2), .osl 34 0 (min c.lat.length 64) false, vB c.tables, .osl 48 0 (min c.tape.length 64) false]))) rfl rfl (rfl) (trivial) ?_
      refine rEnd (n' := 62) rfl ?_
      refine cRet ?_
      have hk2 : (c.lat.take 64).length ≤ k := by rw [List.length_take]; have := of_decide_eq_false h3; omega
      have hll := latR_len c k (by rw [List.length_take]; omega)
      have e1 : List.take (min c.lat.length 64) (List.drop 0 (latR c k)) = (cleanCf c).lat.map rowI := by rw [List.drop_zero, List.take_of_length_le (by rw [hll, List.length_take]; omega), latR_end c k hk2]
      have e2 : List.take (min c.tape.length 64) (List.drop 0 ((c.tape.take 64).map rowU)) = (cleanCf c).tape.map rowU := by rw [List.drop_zero, List.take_of_length_le (by rw [List.length_map, List.length_take]; omega)]; rfl
      have e3 : (cleanCf c).sets = clampI c.sets 1 4 := if_neg (by simpa using h1)
      refine finTA rfl ⟨trivial, trivial, trivial, trivial, trivial, trivial, trivial, trivial, by show 0 + min c.lat.length 64 ≤ (latR c k).length; rw [hll, List.length_take]; omega, trivial, by show 0 + min c.tape.length 64 ≤ ((c.tape.take 64).map rowU).length; rw [List.length_map, List.length_take]; omega, trivial⟩ rfl ?_
      show AV.agg [vI (clampI c.mode 0 2), vI (clampI c.width 1 2), vI (clampI c.rob 2 8), vI (clampI c.queue 1 4), vI (clampI c.stores 1 4), vI (clampI c.slots 2 6), vI (clampI c.sets 1 4), vI (clampI c.ways 1 2), .sl 1 (List.take (min c.lat.length 64) (List.drop 0 (latR c k))) false, vB c.tables, .sl 1 (List.take (min c.tape.length 64) (List.drop 0 ((c.tape.take 64).map rowU))) false] = AV.agg (cfL (cleanCf c) false false)
      rw [e1, e2]
      show _ = AV.agg [vI (cleanCf c).mode, vI (cleanCf c).width, vI (cleanCf c).rob, vI (cleanCf c).queue, vI (cleanCf c).stores, vI (cleanCf c).slots, vI (cleanCf c).sets, vI (cleanCf c).ways, .sl 1 ((cleanCf c).lat.map rowI) false, vB (cleanCf c).tables, .sl 1 ((cleanCf c).tape.map rowU) false]
      rw [e3]
      rfl
end Go.Proofs.Ytckjihpdjefpgaa
