/- Typed lists in walks: what an operation makes of rows that a function writes. -/
import Derived.Test.YtckjihpdjefpgaaLaw22W
namespace Go.Proofs.Ytckjihpdjefpgaa
open Go.RowKit

/-- The same machine, with late regions told by places of memory. -/
noncomputable def C1 : Ctx := { C0 with lt := true }
theorem c1Ok : CtxOk C1 := ⟨c0Ok.1, c0Ok.2, c0Ok.3⟩
theorem dc1 {f : FuncId} {args : List AV} {r : AV} (h : DCall C1 f args r) : DCall C0 f args r := h
theorem w64 (x : Int) : IntKind.wrap .i64 x = wrap64 x := by rw [IntKind.wrap_i64]; simp only [wrap64]
theorem cOr (c y : Bool) : cond2 c true y = (c || y) := by cases c <;> rfl
theorem cAnd (c x : Bool) : cond2 c x false = (c && x) := by cases c <;> rfl
theorem beq_t {α : Type} [BEq α] [LawfulBEq α] {a b : α} (h : (a == b) = true) : a = b := eq_of_beq h
theorem beq_f {α : Type} [BEq α] [LawfulBEq α] {a b : α} (h : (a == b) = false) : ¬ a = b := fun e => by rw [e, beq_self_eq_true] at h; cases h
theorem bne_t {α : Type} [BEq α] [LawfulBEq α] {a b : α} (h : (a != b) = true) : ¬ a = b := fun e => by rw [e] at h; simp at h
theorem bne_f {α : Type} [BEq α] [LawfulBEq α] {a b : α} (h : (a != b) = false) : a = b := by simpa using h
theorem lenMapN {α : Type} (f : α → List AV) (l : List α) {n : Nat} (h : l.length = n) : Res.ok (.v (.int .i64 ((l.map f).length : Int))) = .ok (.v (.int .i64 ((n : Nat) : Int))) := by rw [List.length_map, h]
theorem getZ {α : Type} {l : List α} {k : Nat} {x : α} (h : l[k]? = some x) : l[0 + k]? = some x := by rwa [Nat.zero_add]
theorem mk_eq {p : Prop} {x : AV} {h : AH} {b rs : Nat} {r r' : List (List AV)} (e : r = r') : Res.fx p x (upd h b (some (.arr r rs))) = .fx p x (upd h b (some (.arr r' rs))) := by rw [e]
theorem set_eq {α : Type} {f : α → List AV} {l : List α} {k : Nat} {x : α} {h : AH} {b rs : Nat} : some (upd h b (some (.arr ((l.map f).set k (f x)) rs))) = some (upd h b (some (.arr ((l.set k x).map f) rs))) := by rw [List.map_set]
theorem set_eqZ {α : Type} {f : α → List AV} {l : List α} {k : Nat} {x : α} {h : AH} {b rs : Nat} : some (upd h b (some (.arr ((l.map f).set (0 + k) (f x)) rs))) = some (upd h b (some (.arr ((l.set k x).map f) rs))) := by rw [Nat.zero_add, List.map_set]
theorem needS {p : Prop} {rs : Nat} {r r' : List (List AV)} {c : Bool} (e : r = r') : Res.need p (.sl rs r c) = .need p (.sl rs r' c) := by rw [e]
theorem needO {p : Prop} {s lo lo' n n' : Nat} {c : Bool} (e : lo = lo') (e' : n = n') : Res.need p (.osl s lo n c) = .need p (.osl s lo' n' c) := by rw [e, e']
section
variable {α : Type} (f : α → List AV)
section
variable (l : List α)
theorem sliceH (H : Nat) : List.drop 0 (List.take H (l.map f)) = (l.take H).map f := by rw [List.drop_zero, List.map_take]
theorem sliceL (L : Nat) : List.drop L (List.take (l.map f).length (l.map f)) = (l.drop L).map f := by rw [List.take_length, List.map_drop]
theorem sliceN : List.drop 0 (List.take (l.map f).length (l.map f)) = l.map f := by rw [List.take_length, List.drop_zero]
theorem sliceB (L H : Nat) : List.drop L (List.take H (l.map f)) = ((l.take H).drop L).map f := by rw [List.map_drop, List.map_take]
theorem app_nil {p : Prop} {H : AH} {s rs m : Nat} {c : List (List AV)} (hl : c.length = m) : Res.fx p (.osl s 0 c.length false) (upd H s (some (.arr c rs))) = .fx p (.osl s 0 m false) (upd H s (some (.arr c rs))) := by rw [hl]
theorem app_own {p : Prop} {H : AH} {s rs n m : Nat} (B : List α) (h1 : l.length = n) (h2 : l.length + B.length = m) :
    Res.fx p (.osl s 0 ((List.take n (List.drop 0 (l.map f))).length + (B.map f).length) false) (upd H s (some (.arr (List.take n (List.drop 0 (l.map f)) ++ B.map f) rs))) = .fx p (.osl s 0 m false) (upd H s (some (.arr ((l ++ B).map f) rs))) := by
  rw [List.drop_zero, List.take_of_length_le (by rw [List.length_map, h1]; exact Nat.le_refl _), List.length_map, List.length_map, h2, List.map_append]
theorem app_sl {p : Prop} {H : AH} {s rs m : Nat} (B : List α) (h2 : l.length + B.length = m) :
    Res.fx p (.osl s 0 ((l.map f).length + (B.map f).length) false) (upd H s (some (.arr (l.map f ++ B.map f) rs))) = .fx p (.osl s 0 m false) (upd H s (some (.arr ((l ++ B).map f) rs))) := by
  rw [List.length_map, List.length_map, h2, List.map_append]
theorem app_clip {p : Prop} {H : AH} {s rs lo n m : Nat} (B : List α) (h2 : ((l.drop lo).take n).length + B.length = m) :
    Res.fx p (.osl s 0 ((List.take n (List.drop lo (l.map f))).length + (B.map f).length) false) (upd H s (some (.arr (List.take n (List.drop lo (l.map f)) ++ B.map f) rs))) = .fx p (.osl s 0 m false) (upd H s (some (.arr ((((l.drop lo).take n) ++ B).map f) rs))) := by
  rw [← h2, List.map_append, List.map_take, List.map_drop, List.length_map]
  simp only [List.length_take, List.length_drop, List.length_map]
theorem app_clip0 {p : Prop} {H : AH} {s rs n m : Nat} (B : List α) (h2 : (l.take n).length + B.length = m) :
    Res.fx p (.osl s 0 ((List.take n (List.drop 0 (l.map f))).length + (B.map f).length) false) (upd H s (some (.arr (List.take n (List.drop 0 (l.map f)) ++ B.map f) rs))) = .fx p (.osl s 0 m false) (upd H s (some (.arr (((l.take n) ++ B).map f) rs))) := by
  have := app_clip (p := p) (H := H) (s := s) (rs := rs) (lo := 0) (n := n) (m := m) f l B (by rw [List.drop_zero]; exact h2)
  rwa [List.drop_zero (l := l)] at this
end
theorem copy_all {n : Nat} (X : List (List AV)) (B : List α) (hB : B.length = n) (hX : X.length = n) : X.take 0 ++ (B.map f).take (min (B.map f).length n) ++ X.drop (0 + min (B.map f).length n) = B.map f := by
  rw [List.length_map, hB, Nat.min_self, List.take_zero, List.nil_append, List.drop_of_length_le (by omega), List.append_nil, List.take_of_length_le (by rw [List.length_map]; omega)]
section
variable (l : List α)
/-- A slice of the call's own as it lies in its rows. -/
theorem own_rows {lo n : Nat} {M : List α} (h : (l.drop lo).take n = M) : List.take n (List.drop lo (l.map f)) = M.map f := by rw [← h, List.map_take, List.map_drop]
theorem own_all {n : Nat} (h : l.length ≤ n) : List.take n (List.drop 0 (l.map f)) = l.map f := by rw [List.drop_zero, List.take_of_length_le (by rw [List.length_map]; exact h)]
end
end
theorem frz_part {α : Type} {f : α → List AV} {l : List α} {b rs lo n : Nat} {c : Bool} (h : lo + n ≤ l.length) : LeZ (some (b, rs, l.map f)) (.osl b lo n c) (.sl rs (((l.drop lo).take n).map f) false) := by
  have := LeZ.frz (fz := some (b, rs, l.map f)) b rs lo n (l.map f) c false rfl (by rw [List.length_map]; exact h) (fun h => by cases h)
  rw [List.map_take, List.map_drop]
  exact this
theorem frz_allG {α : Type} {f : α → List AV} {l : List α} {b rs n : Nat} {c : Bool} (h : l.length = n) : LeZ (some (b, rs, l.map f)) (.osl b 0 n c) (.sl rs (l.map f) false) := by
  have := frz_part (f := f) (b := b) (rs := rs) (c := c) (l := l) (lo := 0) (n := n) (by omega)
  rwa [List.drop_zero, List.take_of_length_le (by omega)] at this
theorem mem_take {α : Type} {P : α → Prop} {l : List α} {n : Nat} (h : ∀ x ∈ l, P x) : ∀ x ∈ l.take n, P x := fun x hx => h x (List.mem_of_mem_take hx)
theorem mem_drop {α : Type} {P : α → Prop} {l : List α} {n : Nat} (h : ∀ x ∈ l, P x) : ∀ x ∈ l.drop n, P x := fun x hx => h x (List.mem_of_mem_drop hx)
theorem mem_app {α : Type} {P : α → Prop} {l m : List α} (h : ∀ x ∈ l, P x) (h' : ∀ x ∈ m, P x) : ∀ x ∈ l ++ m, P x := fun x hx => (List.mem_append.1 hx).elim (h x) (h' x)
theorem mem_one {α : Type} {P : α → Prop} {y : α} (h : P y) : ∀ x ∈ [y], P x := fun x hx => by rw [List.mem_singleton] at hx; rw [hx]; exact h
theorem mem_set {α : Type} {P : α → Prop} {l : List α} {k : Nat} {y : α} (h : ∀ x ∈ l, P x) (h' : P y) : ∀ x ∈ l.set k y, P x := fun x hx => (List.mem_or_eq_of_mem_set hx).elim (h x) fun e => e ▸ h'

theorem HSem.frame0 {P : Program} {G : Nat → Option (List AV)} {f : FuncId} {args : List AV} {rows : List (List AV)} {rs lo n : Nat} {cl : Bool} (H : HSem P G f args (heapF []) 0 (fun x h' => x = .osl 0 lo n cl ∧ h' = heapF [(0, .arr rows rs)])) (K : AH) (s2 : Nat) (ha : closedL args = true) :
    HSem P G f args K s2 (fun x h' => x = .osl s2 lo n cl ∧ h' = upd K s2 (some (.arr rows rs))) := by
  have := H.frame (fun x => x) K s2 rfl (fun x hx => absurd rfl hx) (fun x blk hx => by cases hx) (fun x y hx => absurd hx (Nat.not_lt_zero _)) (belowL_closed 0 args ha) (fun x h' => x = .osl s2 lo n cl ∧ h' = upd K s2 (some (.arr rows rs))) fun r h' hP => ?_
  · rwa [mapL_closed _ args ha] at this
  · obtain ⟨rfl, rfl⟩ := hP
    refine ⟨_, ⟨by simp [mapA, newN_self], rfl⟩, fun y blk hy => ?_⟩
    by_cases he : y = s2
    · subst he
      rw [upd_same] at hy; injection hy with hy
      exact .inl ⟨0, .arr rows rs, rfl, (newN_self _ _ _).symm, by subst hy; rfl⟩
    · rw [upd_other _ _ he] at hy
      exact .inr ⟨hy, fun x hx => absurd hx (Nat.not_lt_zero _)⟩

/-- One own block, and a new one. -/
theorem HSem.frameO {P : Program} {G : Nat → Option (List AV)} {f : FuncId} {args : List AV} {rows rows2 : List (List AV)} {rs rs2 n : Nat} (H : HSem P G f args (heapF [(0, .arr rows rs)]) 1 (fun x h' => x = .osl 1 0 n false ∧ h' = heapF [(0, .arr rows rs), (1, .arr rows2 rs2)])) (b : Nat) (K : AH) (s2 : Nat) (hb : Nat.blt b s2 = true) (hK : K b = some (.arr rows rs)) (ha : belowL 1 args = true) :
    HSem P G f (mapL (fun _ => b) args) K s2 (fun x h' => x = .osl s2 0 n false ∧ h' = upd K s2 (some (.arr rows2 rs2))) := by
  have hb := Nat.le_of_ble_eq_true hb
  refine H.frame (fun _ => b) K s2 rfl (fun x hx => ?_) (fun x blk0 hx => ?_) (fun x y hx hy _ => by omega) ha _ fun r' h' hP => ?_
  · cases x with
    | zero => omega
    | succ x => exact absurd rfl hx
  · cases x with
    | zero => injection hx with hx; subst hx; exact ⟨hb, rfl, hK⟩
    | succ x => cases hx
  · obtain ⟨rfl, rfl⟩ := hP
    refine ⟨_, ⟨by simp [mapA, newN_self], rfl⟩, fun y blk0 hy => ?_⟩
    by_cases he : y = s2
    · subst he
      rw [upd_same] at hy; injection hy with hy
      exact .inl ⟨1, .arr rows2 rs2, rfl, (newN_self _ _ _).symm, by subst hy; rfl⟩
    · rw [upd_other _ _ he] at hy
      by_cases hyb : y = b
      · subst hyb
        rw [hK] at hy; injection hy with hy
        exact .inl ⟨0, .arr rows rs, rfl, rfl, by subst hy; rfl⟩
      · exact .inr ⟨hy, fun x hx e => hyb e.symm⟩

abbrev rowBo (b : Bool) : List AV := [.v (.bool b)]
structure Ent.ok (e : Ent) : Prop where
  pc : e.pc ≤ 4294967295
  imm : e.i.imm ≤ 4294967295
  guess : e.guess ≤ 4294967295
  value : e.value ≤ 4294967295
  next : e.next ≤ 4294967295
  addr : e.addr ≤ 4294967295
structure Req.ok (x : Req) : Prop where
  line : x.line ≤ 4294967295
structure Pt.ok (x : Pt) : Prop where
  addr : x.addr ≤ 4294967295
structure Ft.ok (x : Ft) : Prop where
  pc : x.pc ≤ 4294967295
  guess : x.guess ≤ 4294967295
structure Gs.ok (x : Gs) : Prop where
  pc : x.pc ≤ 4294967295
  next : x.next ≤ 4294967295
structure Sp.ok (x : Sp) : Prop where
  pc : x.pc ≤ 4294967295
  next : x.next ≤ 4294967295
  value : x.value ≤ 4294967295
  addr : x.addr ≤ 4294967295
theorem subN64 {a b B : Nat} (h : b ≤ a) (h2 : a ≤ B) (hB : Nat.ble B 9223372036854775807 = true) : IntKind.wrap .i64 ((a : Int) - (b : Int)) = ((a - b : Nat) : Int) := by
  have := Nat.le_of_ble_eq_true hB
  rw [wrap_i64 (by omega) (by omega)]; omega
theorem tmodN (a b : Nat) : Int.tmod (a : Int) (b : Int) = ((a % b : Nat) : Int) := Int.ofNat_tmod a b |>.symm
theorem lt32 {a : Nat} (h : a ≤ 4294967295) : a < 4294967296 := Nat.lt_succ_of_le h
theorem ent_eq {e e' : Ent} (h : e = e') : AV.agg (enL e) = .agg (enL e') := by rw [h]
theorem sp_eq {e e' : Sp} (h : e = e') : AV.agg (spL e) = .agg (spL e') := by rw [h]
theorem kind_le (op : Int) : kindOf op ≤ 6 := by unfold kindOf; repeat' (split <;> try omega)
theorem bool_eq {b b' : Bool} (h : b = b') : AV.v (.bool b) = .v (.bool b') := by rw [h]
theorem int_eq {b b' : Int} (h : b = b') : AV.v (.int .i64 b) = .v (.int .i64 b') := by rw [h]
theorem nat_eq {b b' : Nat} (h : b = b') : AV.v (.int .u32 (b : Int)) = .v (.int .u32 (b' : Int)) := by rw [h]
abbrev regL (r : Nat → Nat) : List AV := [.v (.int .u32 (r 0 : Int)), .v (.int .u32 (r 1 : Int)), .v (.int .u32 (r 2 : Int)), .v (.int .u32 (r 3 : Int)), .v (.int .u32 (r 4 : Int)), .v (.int .u32 (r 5 : Int)), .v (.int .u32 (r 6 : Int)), .v (.int .u32 (r 7 : Int)), .v (.int .u32 (r 8 : Int)), .v (.int .u32 (r 9 : Int)), .v (.int .u32 (r 10 : Int)), .v (.int .u32 (r 11 : Int)), .v (.int .u32 (r 12 : Int)), .v (.int .u32 (r 13 : Int)), .v (.int .u32 (r 14 : Int)), .v (.int .u32 (r 15 : Int)), .v (.int .u32 (r 16 : Int)), .v (.int .u32 (r 17 : Int)), .v (.int .u32 (r 18 : Int)), .v (.int .u32 (r 19 : Int)), .v (.int .u32 (r 20 : Int)), .v (.int .u32 (r 21 : Int)), .v (.int .u32 (r 22 : Int)), .v (.int .u32 (r 23 : Int)), .v (.int .u32 (r 24 : Int)), .v (.int .u32 (r 25 : Int)), .v (.int .u32 (r 26 : Int)), .v (.int .u32 (r 27 : Int)), .v (.int .u32 (r 28 : Int)), .v (.int .u32 (r 29 : Int)), .v (.int .u32 (r 30 : Int)), .v (.int .u32 (r 31 : Int))]
theorem ldL (r : Nat → Nat) (n : Nat) (hn : n < 32) : okO (nthO (regL r) (0 + n * 1)) = .ok (.v (.int .u32 (r n : Int))) := by
  have : ∀ (n : _root_.Fin 32), okO (nthO (regL r) (0 + n.1 * 1)) = .ok (.v (.int .u32 (r n.1 : Int))) := by
    intro n
    match n with
    | ⟨0, _⟩ => rfl
    | ⟨1, _⟩ => rfl
    | ⟨2, _⟩ => rfl
    | ⟨3, _⟩ => rfl
    | ⟨4, _⟩ => rfl
    | ⟨5, _⟩ => rfl
    | ⟨6, _⟩ => rfl
    | ⟨7, _⟩ => rfl
    | ⟨8, _⟩ => rfl
    | ⟨9, _⟩ => rfl
    | ⟨10, _⟩ => rfl
    | ⟨11, _⟩ => rfl
    | ⟨12, _⟩ => rfl
    | ⟨13, _⟩ => rfl
    | ⟨14, _⟩ => rfl
    | ⟨15, _⟩ => rfl
    | ⟨16, _⟩ => rfl
    | ⟨17, _⟩ => rfl
    | ⟨18, _⟩ => rfl
    | ⟨19, _⟩ => rfl
    | ⟨20, _⟩ => rfl
    | ⟨21, _⟩ => rfl
    | ⟨22, _⟩ => rfl
    | ⟨23, _⟩ => rfl
    | ⟨24, _⟩ => rfl
    | ⟨25, _⟩ => rfl
    | ⟨26, _⟩ => rfl
    | ⟨27, _⟩ => rfl
    | ⟨28, _⟩ => rfl
    | ⟨29, _⟩ => rfl
    | ⟨30, _⟩ => rfl
    | ⟨31, _⟩ => rfl
    | ⟨k + 32, h⟩ => exact absurd h (by omega)
  exact this ⟨n, hn⟩
theorem putRL (r : Nat → Nat) (n v : Nat) (hn : n < 32) : putL (0 + n * 1) [.v (.int .u32 (v : Int))] (regL r) = regL (setR r n v) := by
  have : ∀ (n : _root_.Fin 32), putL (0 + n.1 * 1) [.v (.int .u32 (v : Int))] (regL r) = regL (setR r n.1 v) := by
    intro n
    match n with
    | ⟨0, _⟩ => rfl
    | ⟨1, _⟩ => rfl
    | ⟨2, _⟩ => rfl
    | ⟨3, _⟩ => rfl
    | ⟨4, _⟩ => rfl
    | ⟨5, _⟩ => rfl
    | ⟨6, _⟩ => rfl
    | ⟨7, _⟩ => rfl
    | ⟨8, _⟩ => rfl
    | ⟨9, _⟩ => rfl
    | ⟨10, _⟩ => rfl
    | ⟨11, _⟩ => rfl
    | ⟨12, _⟩ => rfl
    | ⟨13, _⟩ => rfl
    | ⟨14, _⟩ => rfl
    | ⟨15, _⟩ => rfl
    | ⟨16, _⟩ => rfl
    | ⟨17, _⟩ => rfl
    | ⟨18, _⟩ => rfl
    | ⟨19, _⟩ => rfl
    | ⟨20, _⟩ => rfl
    | ⟨21, _⟩ => rfl
    | ⟨22, _⟩ => rfl
    | ⟨23, _⟩ => rfl
    | ⟨24, _⟩ => rfl
    | ⟨25, _⟩ => rfl
    | ⟨26, _⟩ => rfl
    | ⟨27, _⟩ => rfl
    | ⟨28, _⟩ => rfl
    | ⟨29, _⟩ => rfl
    | ⟨30, _⟩ => rfl
    | ⟨31, _⟩ => rfl
    | ⟨k + 32, h⟩ => exact absurd h (by omega)
  exact this ⟨n, hn⟩
theorem stRL {ev : Operand → AV} {h : AH} {s b n v : Nat} {a x : Operand} {r : Nat → Nat} (ha : ev a = .ptr b (0 + n * 1)) (hb : h b = some (.box (regL r))) (hx : ev x = .v (.int .u32 (v : Int))) (hn : n < 32) :
    opA C0 ev h s (.store 22 a x) = .fx True .any (upd h b (some (.box (regL (setR r n v))))) := by
  have hty : C0.ty 22 = some ti22 := rfl
  have hc : (0 + n * 1 + ([.v (.int .u32 (v : Int))] : List AV).length).ble (regL r).length = true := Nat.ble_eq_true_of_le (by simp; omega)
  simp only [opA, hty, hx, cellsA, ha, hb]
  rw [show ([AV.v (Value.int IntKind.u32 (v : Int))].length.beq 1) = true from rfl]
  simp only
  rw [hc]
  simp only
  rw [putRL _ _ _ hn]
end Go.Proofs.Ytckjihpdjefpgaa
