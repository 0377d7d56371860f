/- The second machine and the model: rows made, grown, copied. -/
import Derived.Test.YtckjihpdjefpgaaAbsE
import Derived.Laws.BytesString
import Derived.Laws.IdiomStrings
namespace Go.Proofs.Ytckjihpdjefpgaa
open Go.RowKit

/-- A matrix of cells, one row behind the other. -/
def flatU (n rc : Nat) (u : Nat → Nat → Value) : List Value := (List.range (n * rc)).map fun k => u (k / rc) (k % rc)
theorem flatU_length (n rc : Nat) (u : Nat → Nat → Value) : (flatU n rc u).length = n * rc := by simp [flatU]
theorem flatU_get (n rc : Nat) (u : Nat → Nat → Value) (k : Nat) (hk : k < n * rc) : (flatU n rc u)[k]? = some (u (k / rc) (k % rc)) := by
  simp [flatU, hk]
theorem rowcol {i j rc : Nat} (hj : j < rc) : (i * rc + j) / rc = i ∧ (i * rc + j) % rc = j := by
  have h0 : 0 < rc := by omega
  constructor
  · rw [Nat.add_comm, Nat.add_mul_div_right _ _ h0, Nat.div_eq_of_lt hj, Nat.zero_add]
  · rw [Nat.add_comm, Nat.add_mul_mod_self_right, Nat.mod_eq_of_lt hj]
theorem rowcol_lt {i j n rc : Nat} (hi : i < n) (hj : j < rc) : i * rc + j < n * rc := by
  have : (i + 1) * rc ≤ n * rc := Nat.mul_le_mul_right _ hi
  rw [Nat.add_mul] at this
  omega
theorem flatU_at (n rc : Nat) (u : Nat → Nat → Value) {i j : Nat} (hi : i < n) (hj : j < rc) : (flatU n rc u)[i * rc + j]? = some (u i j) := by
  rw [flatU_get _ _ _ _ (rowcol_lt hi hj), (rowcol hj).1, (rowcol hj).2]

section
variable {C : Ctx} {S : Nat → Prop} {w w' : World} {β : Bt} {B : Nat} {h : AH} {s : Nat}

/-- Rows of known cells, and cells. -/
structure RowsU (S : Nat → Prop) (w : World) (β : Bt) (rc : Nat) (rows : List (List AV)) (u : Nat → Nat → Value) : Prop where
  len : ∀ row ∈ rows, row.length = rc
  rep : ∀ (i : Nat) row (j : Nat) a, rows[i]? = some row → row[j]? = some a → (u i j).oneCell' = true ∧ Rep S w β a (u i j)

theorem RowsU.one {rc : Nat} {rows : List (List AV)} {u : Nat → Nat → Value} (R : RowsU S w β rc rows u) : ∀ x ∈ flatU rows.length rc u, x.oneCell' = true := by
  intro x hx
  simp only [flatU, List.mem_map, List.mem_range] at hx
  obtain ⟨k, hk, rfl⟩ := hx
  have h0 : 0 < rc := Nat.pos_of_ne_zero fun e => by subst e; simp at hk
  have hi : k / rc < rows.length := Nat.div_lt_of_lt_mul (by rw [Nat.mul_comm]; exact hk)
  have hr : rows[k / rc]? = some rows[k / rc] := List.getElem?_eq_getElem hi
  have hl := R.len _ (List.mem_of_getElem? hr)
  have hj : k % rc < rows[k / rc].length := by rw [hl]; exact Nat.mod_lt _ h0
  exact (R.rep _ _ _ _ hr (List.getElem?_eq_getElem hj)).1

theorem RowsU.mono {S' : Nat → Prop} {β' : Bt} {rc : Nat} {rows : List (List AV)} {u : Nat → Nat → Value} (R : RowsU S w β rc rows u) (hS : ∀ b, S b → S' b) (hE : Evo S w w') (hb : BtLe β β') : RowsU S' w' β' rc rows u :=
  ⟨R.len, fun i row j a h1 h2 => ⟨(R.rep i row j a h1 h2).1, (R.rep i row j a h1 h2).2.mono hS hE hb⟩⟩

theorem RowsU.append {rc : Nat} {xs ys : List (List AV)} {u v : Nat → Nat → Value} (R : RowsU S w β rc xs u) (T : RowsU S w β rc ys v) : RowsU S w β rc (xs ++ ys) (fun i j => if i < xs.length then u i j else v (i - xs.length) j) := by
  refine ⟨fun row hr => (List.mem_append.1 hr).elim (R.len row) (T.len row), fun i row j a h1 h2 => ?_⟩
  by_cases hi : i < xs.length
  · rw [List.getElem?_append_left hi] at h1
    simp only [if_pos hi]
    exact R.rep i row j a h1 h2
  · rw [List.getElem?_append_right (by omega)] at h1
    simp only [if_neg hi]
    exact T.rep _ row j a h1 h2
theorem flatU_append (n m rc : Nat) (u v : Nat → Nat → Value) : flatU n rc u ++ flatU m rc v = flatU (n + m) rc (fun i j => if i < n then u i j else v (i - n) j) := by
  rcases Nat.eq_zero_or_pos rc with h0 | h0
  · subst h0; simp [flatU]
  apply List.ext_getElem?
  intro k
  by_cases hk : k < n * rc
  · rw [List.getElem?_append_left (by rw [flatU_length]; exact hk), flatU_get _ _ _ _ hk, flatU_get _ _ _ _ (by rw [Nat.add_mul]; omega)]
    have : k / rc < n := Nat.div_lt_of_lt_mul (by rw [Nat.mul_comm]; exact hk)
    rw [if_pos this]
  · rw [List.getElem?_append_right (by rw [flatU_length]; omega), flatU_length]
    by_cases hk2 : k < (n + m) * rc
    · rw [Nat.add_mul] at hk2
      rw [flatU_get _ _ _ _ (by omega : k - n * rc < m * rc), flatU_get _ _ _ _ (by rw [Nat.add_mul]; omega)]
      have e : k = (k - n * rc) + n * rc := by omega
      have e1 : k / rc = (k - n * rc) / rc + n := by
        conv => lhs; rw [e]
        rw [Nat.add_mul_div_right _ _ h0]
      have e2 : k % rc = (k - n * rc) % rc := by
        conv => lhs; rw [e]
        rw [Nat.add_mul_mod_self_right]
      rw [e1, e2, if_neg (by have := Nat.zero_le ((k - n * rc) / rc); omega), Nat.add_sub_cancel]
    · rw [List.getElem?_eq_none (by rw [flatU_length]; rw [Nat.add_mul] at hk2; omega), List.getElem?_eq_none (by rw [flatU_length]; omega)]

/-- A known row, as it stands in memory or in a string. -/
theorem rows_src (H : SimH B S w β h) {y : AV} {vy : Value} {rc : Nat} {rows : List (List AV)} (hy : Rep S w β y vy) (hr : rowsOf h y = some (rc, rows)) (hlk : lenOk h y) :
    ∃ u, RowsU S w noB rc rows u ∧ (∀ w1 : World, (Builtin.lenOf vy).run C.P w1 = .ok rows.length w1) ∧
      ∀ w1 : World, (∀ b, b < w.heap.size → w1.heap[b]? = w.heap[b]?) → ∀ n, n ≤ rows.length → (Builtin.firstCells rc n vy).run C.P w1 = .ok (flatU n rc u).toArray w1 := by
  -- of memory
  have mem : ∀ (b o : Nat) (A : Option Addr) (len c : Nat) (rows : List (List AV)) (u : Nat → Nat → Value), RowsU S w noB rc rows u → len = rows.length → (0 < len → A = some ⟨b, o, none⟩) →
      (∀ (i : Nat) row (j : Nat) a, rows[i]? = some row → row[j]? = some a → w.cell? ⟨b, o + i * rc + j, none⟩ = some (u i j)) →
      ∀ w1 : World, (∀ b, b < w.heap.size → w1.heap[b]? = w.heap[b]?) → ∀ n, n ≤ rows.length → (Builtin.firstCells rc n (.slice A len c)).run C.P w1 = .ok (flatU n rc u).toArray w1 := by
    intro b o A len c rows u R hl hA hw w1 hw1 n hn
    rcases Nat.eq_zero_or_pos n with h0 | h0
    · subst h0
      have : flatU 0 rc u = [] := by simp [flatU]
      rw [this]
      cases A with
      | none => exact run_firstCells_none w1 rc 0 len c
      | some A => exact run_firstCells_some w1 rc 0 A len c [] (by simp) (by simp)
    · rw [hA (by omega)]
      refine run_firstCells_some w1 rc n ⟨b, o, none⟩ len c (flatU n rc u) (flatU_length _ _ _) fun k x hk => ?_
      have hlt : k < n * rc := by rw [← flatU_length n rc u]; exact (List.getElem?_eq_some_iff.1 hk).1
      rw [flatU_get _ _ _ _ hlt] at hk
      injection hk with hk; subst hk
      have hr0 : 0 < rc := Nat.pos_of_ne_zero fun e => by subst e; simp at hlt
      have hi : k / rc < rows.length := Nat.lt_of_lt_of_le (Nat.div_lt_of_lt_mul (by rw [Nat.mul_comm]; exact hlt)) hn
      have hrow : rows[k / rc]? = some rows[k / rc] := List.getElem?_eq_getElem hi
      have hj : k % rc < rows[k / rc].length := by rw [R.len _ (List.mem_of_getElem? hrow)]; exact Nat.mod_lt _ hr0
      have := hw _ _ _ _ hrow (List.getElem?_eq_getElem hj)
      rw [Addr.add_mid]
      have hk' : k / rc * rc + k % rc = k := by rw [Nat.mul_comm]; exact Nat.div_add_mod k rc
      rw [Nat.add_assoc, hk'] at this
      have hb : b < w.heap.size := World.block_lt_of_cell? w _ this
      rw [cell_of_heap (hw1 b hb)]
      exact this
  cases hy with
  | v =>
    simp only [rowsOf] at hr
    split at hr
    · rename_i st hst
      injection hst with hst
      subst hst
      injection hr with hr; injection hr with e1 e2
      subst e1; subst e2
      have hlen : (rowsOfBytes st).length = st.size := by simp [rowsOfBytes]
      refine ⟨fun i _ => .int .u8 (st.data.toList.getD i 0).toNat, ⟨fun row hrow => ?_, fun i row j a h1 h2 => ?_⟩, fun w1 => by rw [hlen]; rfl, fun w1 _ n hn => ?_⟩
      · simp only [rowsOfBytes, List.mem_map] at hrow
        obtain ⟨b, _, rfl⟩ := hrow
        rfl
      · simp only [rowsOfBytes, List.getElem?_map] at h1
        obtain ⟨b, hb, rfl⟩ := Option.map_eq_some_iff.1 h1
        cases j with
        | zero =>
          simp only [List.getElem?_cons_zero, Option.some.injEq] at h2
          subst h2
          refine ⟨rfl, ?_⟩
          rw [List.getD_eq_getElem?_getD, hb, Option.getD_some]
          exact .v _
        | succ j => simp at h2
      · rw [hlen] at hn
        simp only [Builtin.firstCells, Sem.run_pure]
        congr 1
        apply Array.ext'
        simp only [Array.toList_map, flatU, Nat.mul_one, Nat.div_one]
        apply List.ext_getElem?
        intro k
        simp only [List.getElem?_map]
        by_cases hk : k < n
        · have hkl : k < st.data.toList.length := by simpa using Nat.lt_of_lt_of_le hk hn
          have : (st.extract 0 n).data.toList[k]? = st.data.toList[k]? := by
            simp [hk]
          rw [this, List.getElem?_eq_getElem hkl, List.getElem?_range hk, Option.map_some, Option.map_some, List.getD_eq_getElem?_getD, List.getElem?_eq_getElem hkl]
          rfl
        · have : (st.extract 0 n).data.toList[k]? = none := by
            apply List.getElem?_eq_none
            simp; omega
          rw [this, List.getElem?_eq_none (by simp; omega)]
          rfl
    · rename_i he; cases he
    · rename_i he; cases he
    · cases hr
  | sl rs rows' clip A c b o u hc hm hcl hrs hA hw h1 hr' =>
    simp only [rowsOf] at hr
    injection hr with hr; injection hr with e1 e2
    subst e1; subst e2
    have R : RowsU S w noB rs rows' u := ⟨hrs, fun i row j a p q => ⟨h1 i j, hr' i row j a p q⟩⟩
    exact ⟨u, R, fun _ => rfl, mem b o A _ c rows' u R rfl (fun h0 => (hA h0).1) hw⟩
  | osl s0 lo len clip l A c hl hc hm hcl hA cs e fr hb room =>
    simp only [rowsOf] at hr
    split at hr
    · rename_i rows' rs hs
      injection hr with hr; injection hr with e1 e2
      subst e1; subst e2
      obtain ⟨l', ds, e', fr', k1, k2, k3, k4, k5, k6, k7, k8⟩ := H.own s0 _ hs
      obtain rfl : l' = l := by rw [hl] at k1; exact (Option.some.inj k1).symm
      subst k6
      have hlk' : lo + len ≤ rows'.length := by simpa [lenOk, hs] using hlk
      have hlen : ((rows'.drop lo).take len).length = len := by rw [List.length_take, List.length_drop]; omega
      have sub : ∀ (i : Nat) row, ((rows'.drop lo).take len)[i]? = some row → rows'[lo + i]? = some row := by
        intro i row hi
        rw [List.getElem?_take] at hi
        split at hi
        · rwa [List.getElem?_drop] at hi
        · cases hi
      have R : RowsU S w noB l'.rs ((rows'.drop lo).take len) (fun i j => ds.getD (l'.base + (lo + i) * l'.rs + j) undef) := by
        refine ⟨fun row hrow => k7 row (List.mem_of_mem_drop (List.mem_of_mem_take hrow)), fun i row j a hi hj => ?_⟩
        obtain ⟨u, q1, q2, q3⟩ := k8 _ _ _ _ (sub i row hi) hj
        rw [show ds.getD (l'.base + (lo + i) * l'.rs + j) undef = u by rw [Array.getD_eq_getD_getElem?, q1]; rfl]
        exact ⟨q2, q3⟩
      refine ⟨_, R, fun _ => by rw [hlen]; rfl, mem l'.blk (l'.base + lo * l'.rs) A len c _ _ R hlen.symm (fun h0 => hA (by omega)) fun i row j a hi hj => ?_⟩
      obtain ⟨u, q1, q2, q3⟩ := k8 _ _ _ _ (sub i row hi) hj
      rw [cell_of_cells k2, show l'.base + lo * l'.rs + i * l'.rs + j = l'.base + (lo + i) * l'.rs + j by rw [Nat.add_mul]; omega, q1, Array.getD_eq_getD_getElem?, q1]
      rfl
    · cases hr
  | _ => simp only [rowsOf] at hr; cases hr

/-- The block of an appended row: a new one. -/
theorem grown_ok (hC : CtxOk C) (H : SimH B S w β h) (hs : β s = none) {e : TypeId} {ei : TI} (he : C.ty e = some ei) {z : Value} (hzs : z.cells.size = ei.sz) {rows : List (List AV)} {u : Nat → Nat → Value} (R : RowsU S w noB ei.sz rows u) (cap : Nat) (hcap : rows.length ≤ cap) (hm : cap ≤ maxLen) {w' : World}
    (hw : w'.heap = w.heap.push (.cells ((flatU rows.length ei.sz u).toArray ++ Builtin.zeroCells z.cells (cap - rows.length)) e)) (hbel : Below B w w') :
    Rep S w' (upd β s (some ⟨w.heap.size, 0, ei.sz⟩)) (.osl s 0 rows.length false) (.slice (some ⟨w.heap.size, 0, none⟩) rows.length cap) ∧
    SimH B S w' (upd β s (some ⟨w.heap.size, 0, ei.sz⟩)) (upd h s (some (.arr rows ei.sz))) ∧ StepK B S w β s S w' (upd β s (some ⟨w.heap.size, 0, ei.sz⟩)) := by
  have hle : BtLe β (upd β s (some ⟨w.heap.size, 0, ei.sz⟩)) := BtLe.upd hs _
  have hE : Evo S w w' := Evo.of_kept (fun b hb => heap_push_old hw hb) H.lt
  obtain ⟨p1, p2⟩ := simH_alloc H hs hw (fun o _ => by simp) hbel (l := ⟨w.heap.size, 0, ei.sz⟩) (blk := .arr rows ei.sz) rfl ⟨rfl, R.len, fun i row j a hi hj => by
    have hjl : j < ei.sz := by rw [← R.len row (List.mem_of_getElem? hi)]; exact (List.getElem?_eq_some_iff.1 hj).1
    have hil : i < rows.length := (List.getElem?_eq_some_iff.1 hi).1
    obtain ⟨r1, r2⟩ := R.rep i row j a hi hj
    refine ⟨u i j, ?_, r1, r2.mono (fun _ h => h) hE (BtLe.refl _)⟩
    rw [Nat.zero_add, Array.getElem?_append_left (by simp only [List.size_toArray, flatU_length]; exact rowcol_lt hil hjl), List.getElem?_toArray]
    exact flatU_at _ _ _ hil hjl⟩
  refine ⟨.osl s 0 rows.length false ⟨w.heap.size, 0, ei.sz⟩ _ cap (upd_same _ _ _) hcap hm (fun h => by cases h) (fun _ => by simp) _ e _ (heap_push_new hw) ?_, p1, p2⟩
  simp only [Array.size_append, List.size_toArray, flatU_length, size_zeroCells, hzs, Nat.zero_add]
  rw [← Nat.add_mul]
  exact Nat.mul_le_mul_right _ (by omega)

theorem src_of (H : SimH B S w β h) {tx : TypeId} {tk : TI} (htx : (∃ e', C.P.underlying tx = some (.slice e')) ∨ C.P.underlying tx = some .string) {y : AV} {vy : Value} {rc : Nat} {rows : List (List AV)} (hy : Rep S w β y vy) (hr : rowsOf h y = some (rc, rows)) (hlk : lenOk h y) :
    ∃ u, RowsU S w noB rc rows u ∧ Src C.P rc tx vy rows.length (flatU rows.length rc u) w := by
  obtain ⟨u, R, hl, hf⟩ := rows_src (C := C) H hy hr hlk
  exact ⟨u, R, ⟨htx, hl, hf w (fun _ _ => rfl) _ (Nat.le_refl _), hf w.drew (fun _ _ => rfl) _ (Nat.le_refl _), flatU_length _ _ _, R.one⟩⟩

theorem kd_src (hC : CtxOk C) {tx : TypeId} {tk : TI} (ht : C.ty tx = some tk) (hk : appKd tk.kd = true) : (∃ e', C.P.underlying tx = some (.slice e')) ∨ C.P.underlying tx = some .string := by
  have := (hC.ty tx _ ht).kd
  cases hq : tk.kd <;> rw [hq] at hk this <;> simp only [appKd, Bool.false_eq_true] at hk
  · exact .inr this
  · exact .inl ⟨_, this⟩

/-- An append that grows. -/
theorem append_grow (hC : CtxOk C) (H : SimH B S w β h) (hs : β s = none) {t tx ty e : TypeId} {ti tk ei : TI} (hte : C.P.underlying t = some (.slice e)) (htx : C.ty tx = some tk) (hk : appKd tk.kd = true) (he : C.ty e = some ei)
    {y : AV} {A : Option Addr} {vy : Value} {n cap : Nat} {ra rc : Nat} {a c : List (List AV)} {ua : Nat → Nat → Value} (Ra : RowsU S w noB ei.sz a ua) (han : a.length = n)
    (hold : (Builtin.firstCells ei.sz n (.slice A n cap)).run C.P w.drew = .ok (flatU n ei.sz ua).toArray w.drew) (hy : Rep S w β y vy) (hr : rowsOf h y = some (ei.sz, c)) (hlk : lenOk h y)
    (hg : cap < n + c.length) (hcm : n + c.length ≤ capMax) :
    Post B S w β s ((do pure (.value (← Builtin.append_ #[t, tx] ty #[.slice A n cap, vy])) : Sem Next).run C.P w) (.osl s 0 (n + c.length) false) (upd h s (some (.arr (a ++ c) ei.sz))) := by
  obtain ⟨uc, Rc, src⟩ := src_of (tk := tk) H (kd_src hC htx hk) hy hr hlk
  obtain ⟨inf, z, i1, i2, i3, i4, i5, i6, i7, i8⟩ := (hC.ty e _ he).info
  have hcap1 : n + c.length ≤ 1000000 := hcm
  have hm : n + c.length ≤ maxLen := by unfold maxLen; omega
  have run := run_append_grow_src (P := C.P) w t tx ty e inf z hte i1 i4 A n cap (flatU n ei.sz ua) (by rw [i2]; exact hold) vy c.length (flatU c.length ei.sz uc) (by rw [i2]; exact src) hg (by omega)
    (growslice_fits hg (by rw [i3]; exact Nat.le_trans (Nat.mul_le_mul hcap1 i8) (by omega)))
  subst han
  rw [flatU_append] at run
  have R := Ra.append Rc
  rw [← List.length_append] at run
  have G := grown_ok (s := s) hC H hs he i6 R (grownCap w (a.length + c.length) cap e) (by rw [List.length_append]; exact grownCap_ge _ _ _ _) (grownCap_le_maxLen _ _ _ _ hm) (w' := w.drew.alloc (.cells ((flatU (a ++ c).length ei.sz _).toArray ++ Builtin.zeroCells z.cells (grownCap w (a.length + c.length) cap e - (a.length + c.length))) e))
    (by rw [List.length_append]; rfl) ((Below.refl B w).drew.alloc H.big _)
  rw [List.length_append] at G run
  exact ⟨_, _, S, _, .inl (by simp only [Sem.run_bind, run, Result.andThen_ok, Sem.run_pure]), G.1, G.2.1, G.2.2⟩
end
end Go.Proofs.Ytckjihpdjefpgaa
