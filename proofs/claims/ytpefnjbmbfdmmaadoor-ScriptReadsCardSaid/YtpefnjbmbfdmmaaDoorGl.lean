/- Typed lists in walks: what an operation makes of rows that a function writes. -/
import Derived.Test.YtpefnjbmbfdmmaaDoorAbsF
import Derived.Test.YtpefnjbmbfdmmaaDoorAbsT
import Derived.Test.YtpefnjbmbfdmmaaDoorAbsH
import Derived.Test.YtpefnjbmbfdmmaaDoorTypes
namespace Go.Proofs.YtpefnjbmbfdmmaaDoor
open Go.RowKit

abbrev rowU (n : Nat) : List AV := [.v (.int .u32 (n : Int))]
abbrev rowI (n : Int) : List AV := [.v (.int .i64 n)]
theorem bytesOfRows_map : ∀ (l : List UInt8), bytesOfRows (l.map fun b => [.v (.int .u8 (b.toNat : Int))]) = some l
  | [] => rfl
  | b :: l => by
    simp only [List.map_cons, bytesOfRows, bytesOfRows_map l]
    simp
theorem finTA {C : Ctx} {fn : Func} {r : AV} {st : ASt} {rs : List AV} (h1 : resA C st fn.results.toList = some rs) (h2 : lenOkA st.h (retA rs)) (h3 : closedA (datA st.h (retA rs)) = true) (h4 : datA st.h (retA rs) = r) : RetA C fn r st := retA_eq h1 h2 h3 h4
mutual
theorem mapA_closed (σ : Nat → Nat) : ∀ (a : AV), closedA a = true → mapA σ a = a
  | .v _, _ | .sl _ _ _, _ | .dp _ _ _, _ => by simp [mapA]
  | .agg cs, h => by simp only [mapA, mapL_closed σ cs (by simpa [closedA] using h)]
  | .tup cs, h => by simp only [mapA, mapL_closed σ cs (by simpa [closedA] using h)]
  | .clo f a b, h => by
    simp only [closedA] at h
    split at h
    · rename_i ha; simp only [mapA, mapL_closed σ a ha, mapL_closed σ b h]
    · cases h
  | .ptr _ _, h | .ptr2 _ _ _, h | .osl _ _ _ _, h | .opt _ _, h | .any, h => by cases h
theorem mapL_closed (σ : Nat → Nat) : ∀ (cs : List AV), closedL cs = true → mapL σ cs = cs
  | [], _ => by simp [mapL]
  | c :: cs, h => by
    simp only [closedL] at h
    split at h
    · rename_i hc; simp only [mapL, mapA_closed σ c hc, mapL_closed σ cs h]
    · cases h
end
mutual
theorem belowA_closed (n : Nat) : ∀ (a : AV), closedA a = true → belowA n a = true
  | .v _, _ | .sl _ _ _, _ | .dp _ _ _, _ => by simp [belowA]
  | .agg cs, h => by simp only [belowA, belowL_closed n cs (by simpa [closedA] using h)]
  | .tup cs, h => by simp only [belowA, belowL_closed n cs (by simpa [closedA] using h)]
  | .clo f a b, h => by
    simp only [closedA] at h
    split at h
    · rename_i ha; simp only [belowA, belowL_closed n a ha, belowL_closed n b h]
    · cases h
  | .ptr _ _, h | .ptr2 _ _ _, h | .osl _ _ _ _, h | .opt _ _, h | .any, h => by cases h
theorem belowL_closed (n : Nat) : ∀ (cs : List AV), closedL cs = true → belowL n cs = true
  | [], _ => by simp [belowL]
  | c :: cs, h => by
    simp only [closedL] at h
    split at h
    · rename_i hc; simp only [belowL, belowA_closed n c hc, belowL_closed n cs h]
    · cases h
end
theorem boxM (σ : Nat → Nat) {cs : List AV} (h : closedL cs = true) : some (Blk.box cs) = some (mapB σ (.box cs)) := by simp only [mapB, mapL_closed σ cs h]
theorem boxB (n : Nat) {cs : List AV} (h : closedL cs = true) : belowB n (.box cs) = true := by simp only [belowB, belowL_closed n cs h]

theorem u32N {a b : Nat} (h : a = b) : AV.v (.int .u32 ((a : Nat) : Int)) = .v (.int .u32 ((b : Nat) : Int)) := by rw [h]
theorem minN64 (a b : Nat) : Res.ok (.v (.int .i64 (if (b : Int) < (a : Int) then (b : Int) else (a : Int)))) = .ok (.v (.int .i64 ((min a b : Nat) : Int))) := by congr 3; split <;> omega
theorem getM {α : Type} {f : α → List AV} {l : List α} {k : Nat} {x : α} (h : l[k]? = some x) : (l.map f)[k]? = some (f x) := by rw [List.getElem?_map, h]; rfl
theorem lenMap {α : Type} (f : α → List AV) (l : List α) : Res.ok (.v (.int .i64 ((l.map f).length : Int))) = .ok (.v (.int .i64 ((l.length : Nat) : Int))) := by rw [List.length_map]

/-- The same machine, with late regions told by places of memory. -/
noncomputable def C1 : Ctx := { C0 with lt := true }
theorem c1Ok : CtxOk C1 := ⟨c0Ok.1, c0Ok.2, c0Ok.3⟩
theorem dc1 {f : FuncId} {args : List AV} {r : AV} (h : DCall C1 f args r) : DCall C0 f args r := h
theorem w64 (x : Int) : IntKind.wrap .i64 x = wrap64 x := by rw [IntKind.wrap_i64]; simp only [wrap64]
theorem cOr (c y : Bool) : cond2 c true y = (c || y) := by cases c <;> rfl
theorem cAnd (c x : Bool) : cond2 c x false = (c && x) := by cases c <;> rfl
theorem beq_t {α : Type} [BEq α] [LawfulBEq α] {a b : α} (h : (a == b) = true) : a = b := eq_of_beq h
theorem beq_f {α : Type} [BEq α] [LawfulBEq α] {a b : α} (h : (a == b) = false) : ¬ a = b := fun e => by rw [e, beq_self_eq_true] at h; cases h
theorem bne_t {α : Type} [BEq α] [LawfulBEq α] {a b : α} (h : (a != b) = true) : ¬ a = b := fun e => by rw [e] at h; simp at h
theorem bne_f {α : Type} [BEq α] [LawfulBEq α] {a b : α} (h : (a != b) = false) : a = b := by simpa using h
theorem lenMapN {α : Type} (f : α → List AV) (l : List α) {n : Nat} (h : l.length = n) : Res.ok (.v (.int .i64 ((l.map f).length : Int))) = .ok (.v (.int .i64 ((n : Nat) : Int))) := by rw [List.length_map, h]
theorem getZ {α : Type} {l : List α} {k : Nat} {x : α} (h : l[k]? = some x) : l[0 + k]? = some x := by rwa [Nat.zero_add]
theorem mk_eq {p : Prop} {x : AV} {h : AH} {b rs : Nat} {r r' : List (List AV)} (e : r = r') : Res.fx p x (upd h b (some (.arr r rs))) = .fx p x (upd h b (some (.arr r' rs))) := by rw [e]
theorem set_eq {α : Type} {f : α → List AV} {l : List α} {k : Nat} {x : α} {h : AH} {b rs : Nat} : some (upd h b (some (.arr ((l.map f).set k (f x)) rs))) = some (upd h b (some (.arr ((l.set k x).map f) rs))) := by rw [List.map_set]
theorem set_eqZ {α : Type} {f : α → List AV} {l : List α} {k : Nat} {x : α} {h : AH} {b rs : Nat} : some (upd h b (some (.arr ((l.map f).set (0 + k) (f x)) rs))) = some (upd h b (some (.arr ((l.set k x).map f) rs))) := by rw [Nat.zero_add, List.map_set]
theorem needS {p : Prop} {rs : Nat} {r r' : List (List AV)} {c : Bool} (e : r = r') : Res.need p (.sl rs r c) = .need p (.sl rs r' c) := by rw [e]
theorem needO {p : Prop} {s lo lo' n n' : Nat} {c : Bool} (e : lo = lo') (e' : n = n') : Res.need p (.osl s lo n c) = .need p (.osl s lo' n' c) := by rw [e, e']
section
variable {α : Type} (f : α → List AV)
section
variable (l : List α)
theorem sliceH (H : Nat) : List.drop 0 (List.take H (l.map f)) = (l.take H).map f := by rw [List.drop_zero, List.map_take]
theorem sliceL (L : Nat) : List.drop L (List.take (l.map f).length (l.map f)) = (l.drop L).map f := by rw [List.take_length, List.map_drop]
theorem sliceN : List.drop 0 (List.take (l.map f).length (l.map f)) = l.map f := by rw [List.take_length, List.drop_zero]
theorem sliceB (L H : Nat) : List.drop L (List.take H (l.map f)) = ((l.take H).drop L).map f := by rw [List.map_drop, List.map_take]
theorem app_nil {p : Prop} {H : AH} {s rs m : Nat} {c : List (List AV)} (hl : c.length = m) : Res.fx p (.osl s 0 c.length false) (upd H s (some (.arr c rs))) = .fx p (.osl s 0 m false) (upd H s (some (.arr c rs))) := by rw [hl]
theorem app_own {p : Prop} {H : AH} {s rs n m : Nat} (B : List α) (h1 : l.length = n) (h2 : l.length + B.length = m) :
    Res.fx p (.osl s 0 ((List.take n (List.drop 0 (l.map f))).length + (B.map f).length) false) (upd H s (some (.arr (List.take n (List.drop 0 (l.map f)) ++ B.map f) rs))) = .fx p (.osl s 0 m false) (upd H s (some (.arr ((l ++ B).map f) rs))) := by
  rw [List.drop_zero, List.take_of_length_le (by rw [List.length_map, h1]; exact Nat.le_refl _), List.length_map, List.length_map, h2, List.map_append]
theorem app_sl {p : Prop} {H : AH} {s rs m : Nat} (B : List α) (h2 : l.length + B.length = m) :
    Res.fx p (.osl s 0 ((l.map f).length + (B.map f).length) false) (upd H s (some (.arr (l.map f ++ B.map f) rs))) = .fx p (.osl s 0 m false) (upd H s (some (.arr ((l ++ B).map f) rs))) := by
  rw [List.length_map, List.length_map, h2, List.map_append]
theorem app_clip {p : Prop} {H : AH} {s rs lo n m : Nat} (B : List α) (h2 : ((l.drop lo).take n).length + B.length = m) :
    Res.fx p (.osl s 0 ((List.take n (List.drop lo (l.map f))).length + (B.map f).length) false) (upd H s (some (.arr (List.take n (List.drop lo (l.map f)) ++ B.map f) rs))) = .fx p (.osl s 0 m false) (upd H s (some (.arr ((((l.drop lo).take n) ++ B).map f) rs))) := by
  rw [← h2, List.map_append, List.map_take, List.map_drop, List.length_map]
  simp only [List.length_take, List.length_drop, List.length_map]
theorem app_clip0 {p : Prop} {H : AH} {s rs n m : Nat} (B : List α) (h2 : (l.take n).length + B.length = m) :
    Res.fx p (.osl s 0 ((List.take n (List.drop 0 (l.map f))).length + (B.map f).length) false) (upd H s (some (.arr (List.take n (List.drop 0 (l.map f)) ++ B.map f) rs))) = .fx p (.osl s 0 m false) (upd H s (some (.arr (((l.take n) ++ B).map f) rs))) := by
  have := app_clip (p := p) (H := H) (s := s) (rs := rs) (lo := 0) (n := n) (m := m) f l B (by rw [List.drop_zero]; exact h2)
  rwa [List.drop_zero (l := l)] at this
end
theorem copy_all {n : Nat} (X : List (List AV)) (B : List α) (hB : B.length = n) (hX : X.length = n) : X.take 0 ++ (B.map f).take (min (B.map f).length n) ++ X.drop (0 + min (B.map f).length n) = B.map f := by
  rw [List.length_map, hB, Nat.min_self, List.take_zero, List.nil_append, List.drop_of_length_le (by omega), List.append_nil, List.take_of_length_le (by rw [List.length_map]; omega)]
section
variable (l : List α)
/-- A slice of the call's own as it lies in its rows. -/
theorem own_rows {lo n : Nat} {M : List α} (h : (l.drop lo).take n = M) : List.take n (List.drop lo (l.map f)) = M.map f := by rw [← h, List.map_take, List.map_drop]
theorem own_all {n : Nat} (h : l.length ≤ n) : List.take n (List.drop 0 (l.map f)) = l.map f := by rw [List.drop_zero, List.take_of_length_le (by rw [List.length_map]; exact h)]
end
end
theorem frz_part {α : Type} {f : α → List AV} {l : List α} {b rs lo n : Nat} {c : Bool} (h : lo + n ≤ l.length) : LeZ (some (b, rs, l.map f)) (.osl b lo n c) (.sl rs (((l.drop lo).take n).map f) false) := by
  have := LeZ.frz (fz := some (b, rs, l.map f)) b rs lo n (l.map f) c false rfl (by rw [List.length_map]; exact h) (fun h => by cases h)
  rw [List.map_take, List.map_drop]
  exact this
theorem frz_all {α : Type} {f : α → List AV} {l : List α} {b rs n : Nat} {c : Bool} (h : l.length = n) : LeZ (some (b, rs, l.map f)) (.osl b 0 n c) (.sl rs (l.map f) false) := by
  have := frz_part (f := f) (b := b) (rs := rs) (c := c) (l := l) (lo := 0) (n := n) (by omega)
  rwa [List.drop_zero, List.take_of_length_le (by omega)] at this
theorem mem_take {α : Type} {P : α → Prop} {l : List α} {n : Nat} (h : ∀ x ∈ l, P x) : ∀ x ∈ l.take n, P x := fun x hx => h x (List.mem_of_mem_take hx)
theorem mem_drop {α : Type} {P : α → Prop} {l : List α} {n : Nat} (h : ∀ x ∈ l, P x) : ∀ x ∈ l.drop n, P x := fun x hx => h x (List.mem_of_mem_drop hx)
theorem mem_app {α : Type} {P : α → Prop} {l m : List α} (h : ∀ x ∈ l, P x) (h' : ∀ x ∈ m, P x) : ∀ x ∈ l ++ m, P x := fun x hx => (List.mem_append.1 hx).elim (h x) (h' x)
theorem mem_one {α : Type} {P : α → Prop} {y : α} (h : P y) : ∀ x ∈ [y], P x := fun x hx => by rw [List.mem_singleton] at hx; rw [hx]; exact h
theorem mem_set {α : Type} {P : α → Prop} {l : List α} {k : Nat} {y : α} (h : ∀ x ∈ l, P x) (h' : P y) : ∀ x ∈ l.set k y, P x := fun x hx => (List.mem_or_eq_of_mem_set hx).elim (h x) fun e => e ▸ h'

theorem HSem.frame0 {P : Program} {G : Nat → Option (List AV)} {f : FuncId} {args : List AV} {rows : List (List AV)} {rs lo n : Nat} {cl : Bool} (H : HSem P G f args (heapF []) 0 (fun x h' => x = .osl 0 lo n cl ∧ h' = heapF [(0, .arr rows rs)])) (K : AH) (s2 : Nat) (ha : closedL args = true) :
    HSem P G f args K s2 (fun x h' => x = .osl s2 lo n cl ∧ h' = upd K s2 (some (.arr rows rs))) := by
  have := H.frame (fun x => x) K s2 rfl (fun x hx => absurd rfl hx) (fun x blk hx => by cases hx) (fun x y hx => absurd hx (Nat.not_lt_zero _)) (belowL_closed 0 args ha) (fun x h' => x = .osl s2 lo n cl ∧ h' = upd K s2 (some (.arr rows rs))) fun r h' hP => ?_
  · rwa [mapL_closed _ args ha] at this
  · obtain ⟨rfl, rfl⟩ := hP
    refine ⟨_, ⟨by simp [mapA, newN_self], rfl⟩, fun y blk hy => ?_⟩
    by_cases he : y = s2
    · subst he
      rw [upd_same] at hy; injection hy with hy
      exact .inl ⟨0, .arr rows rs, rfl, (newN_self _ _ _).symm, by subst hy; rfl⟩
    · rw [upd_other _ _ he] at hy
      exact .inr ⟨hy, fun x hx => absurd hx (Nat.not_lt_zero _)⟩

/-- One own block, and a new one. -/
theorem HSem.frameO {P : Program} {G : Nat → Option (List AV)} {f : FuncId} {args : List AV} {rows rows2 : List (List AV)} {rs rs2 n : Nat} (H : HSem P G f args (heapF [(0, .arr rows rs)]) 1 (fun x h' => x = .osl 1 0 n false ∧ h' = heapF [(0, .arr rows rs), (1, .arr rows2 rs2)])) (b : Nat) (K : AH) (s2 : Nat) (hb : Nat.blt b s2 = true) (hK : K b = some (.arr rows rs)) (ha : belowL 1 args = true) :
    HSem P G f (mapL (fun _ => b) args) K s2 (fun x h' => x = .osl s2 0 n false ∧ h' = upd K s2 (some (.arr rows2 rs2))) := by
  have hb := Nat.le_of_ble_eq_true hb
  refine H.frame (fun _ => b) K s2 rfl (fun x hx => ?_) (fun x blk0 hx => ?_) (fun x y hx hy _ => by omega) ha _ fun r' h' hP => ?_
  · cases x with
    | zero => omega
    | succ x => exact absurd rfl hx
  · cases x with
    | zero => injection hx with hx; subst hx; exact ⟨hb, rfl, hK⟩
    | succ x => cases hx
  · obtain ⟨rfl, rfl⟩ := hP
    refine ⟨_, ⟨by simp [mapA, newN_self], rfl⟩, fun y blk0 hy => ?_⟩
    by_cases he : y = s2
    · subst he
      rw [upd_same] at hy; injection hy with hy
      exact .inl ⟨1, .arr rows2 rs2, rfl, (newN_self _ _ _).symm, by subst hy; rfl⟩
    · rw [upd_other _ _ he] at hy
      by_cases hyb : y = b
      · subst hyb
        rw [hK] at hy; injection hy with hy
        exact .inl ⟨0, .arr rows rs, rfl, rfl, by subst hy; rfl⟩
      · exact .inr ⟨hy, fun x hx e => hyb e.symm⟩

abbrev rowBo (b : Bool) : List AV := [.v (.bool b)]
theorem subN64 {a b B : Nat} (h : b ≤ a) (h2 : a ≤ B) (hB : Nat.ble B 9223372036854775807 = true) : IntKind.wrap .i64 ((a : Int) - (b : Int)) = ((a - b : Nat) : Int) := by
  have := Nat.le_of_ble_eq_true hB
  rw [wrap_i64 (by omega) (by omega)]; omega
theorem tmodN (a b : Nat) : Int.tmod (a : Int) (b : Int) = ((a % b : Nat) : Int) := Int.ofNat_tmod a b |>.symm
theorem lt32 {a : Nat} (h : a ≤ 4294967295) : a < 4294967296 := Nat.lt_succ_of_le h
theorem bool_eq {b b' : Bool} (h : b = b') : AV.v (.bool b) = .v (.bool b') := by rw [h]
theorem int_eq {b b' : Int} (h : b = b') : AV.v (.int .i64 b) = .v (.int .i64 b') := by rw [h]
theorem nat_eq {b b' : Nat} (h : b = b') : AV.v (.int .u32 (b : Int)) = .v (.int .u32 (b' : Int)) := by rw [h]
end Go.Proofs.YtpefnjbmbfdmmaaDoor
