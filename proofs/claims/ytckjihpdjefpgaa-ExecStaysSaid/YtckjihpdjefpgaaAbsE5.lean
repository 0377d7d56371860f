/- The second machine and the model: make, slice literals, bytes and strings. -/
import Derived.Test.YtckjihpdjefpgaaAbsE4
namespace Go.Proofs.Ytckjihpdjefpgaa
open Go.RowKit
section
variable {C : Ctx} {S : Nat → Prop} {w w' : World} {β : Bt} {B : Nat} {h : AH} {s : Nat}

/-! ### make -/
theorem make_ok (hC : CtxOk C) (H : SimH B S w β h) (hs : β s = none) {t e : TypeId} {ei : TI} (hte : C.P.underlying t = some (.slice e)) (he : C.ty e = some ei) {z : List AV} (hz : cellsA ei.zero = some z) (hcz : closedL z = true) (kl kc : IntKind) (l c : Int) (h0 : 0 ≤ l) (h1 : l ≤ c) (h2 : c ≤ capMax) :
    Post B S w β s ((do pure (.value (← Instr.makeSlice t (.int kl l) (.int kc c))) : Sem Next).run C.P w) (.osl s 0 l.toNat false) (upd h s (some (.arr (List.replicate l.toNat z) z.length))) := by
  obtain ⟨inf, zv, i1, i2, i3, i4, i5, i6, i7, i8⟩ := zero_cells (S := S) (w := w) (β := β) hC he hz
  have hzl : z.length = ei.sz := by rw [i4.rep.1, ← i5]; simp
  have hcap : c ≤ 1000000 := h2
  have hb : (inf.bytes : Int) * c ≤ 281474976710656 := by
    have e1 : (inf.bytes : Int) ≤ 1000 := by rw [i6]; omega
    have : (inf.bytes : Int) * c ≤ 1000 * 1000000 := Int.mul_le_mul e1 hcap (by omega) (by omega)
    omega
  have run := run_make (P := C.P) w t e inf zv hte i1 i3 kl kc l c h0 h1 hb (by omega)
  have hw : (w.alloc (.cells (madeCells zv.cells (c.toNat * inf.size)) e)).heap = w.heap.push (.cells (madeCells zv.cells (c.toNat * inf.size)) e) := rfl
  have hle : BtLe β (upd β s (some ⟨w.heap.size, 0, z.length⟩)) := BtLe.upd hs _
  have hE : Evo S w (w.alloc (.cells (madeCells zv.cells (c.toNat * inf.size)) e)) := Evo.of_kept (fun b hb => heap_push_old hw hb) H.lt
  obtain ⟨p1, p2⟩ := simH_alloc H hs hw (fun o _ => by simp) ((Below.refl B w).alloc H.big _) (l := ⟨w.heap.size, 0, z.length⟩) (blk := .arr (List.replicate l.toNat z) z.length) rfl ⟨rfl, fun row hr => by rw [(List.mem_replicate.1 hr).2], fun i row j a hi hj => by
    have hil : i < l.toNat := by have := (List.getElem?_eq_some_iff.1 hi).1; simpa using this
    rw [List.getElem?_replicate, if_pos hil] at hi
    injection hi with hi; subst hi
    have hjl : j < z.length := (List.getElem?_eq_some_iff.1 hj).1
    have hjv : j < zv.cells.toList.length := by rw [← i4.rep.1]; exact hjl
    have hjz : zv.cells.toList[j]? = some zv.cells.toList[j] := List.getElem?_eq_getElem hjv
    refine ⟨zv.cells.toList[j], ?_, i4.one j _ hjz, closed_rep ((i4.rep.2 j a _ hj hjz).mono (fun _ h => h) hE hle) (closedL_get z hcz j a hj) _⟩
    have hlt : i * z.length + j < c.toNat * inf.size := by rw [i2, ← hzl]; exact rowcol_lt (by omega) hjl
    rw [Nat.zero_add]
    simp only [madeCells, Array.getElem?_map]
    rw [show (Array.range (c.toNat * inf.size))[i * z.length + j]? = some (i * z.length + j) by simp [hlt], Option.map_some, i5, ← hzl, (rowcol hjl).2]
    congr 1
    have : j < zv.cells.size := by simpa using hjv
    rw [getElem!_pos zv.cells j this]
    rfl⟩
  refine ⟨.slice (some ⟨w.heap.size, 0, none⟩) l.toNat c.toNat, _, S, _, .inl (by simp only [Sem.run_bind, run, Result.andThen_ok, Sem.run_pure]), ?_, p1, p2⟩
  refine .osl s 0 l.toNat false ⟨w.heap.size, 0, z.length⟩ _ c.toNat (upd_same _ _ _) (by omega) (by unfold maxLen; omega) (fun h => by cases h) (fun _ => by simp) _ e _ (heap_push_new hw) ?_
  show 0 + (0 + c.toNat) * z.length ≤ _
  rw [size_madeCells, i2, hzl, Nat.zero_add, Nat.zero_add]
  exact Nat.le_refl _

/-! ### bytes of a string -/
theorem strBytes_ok (hC : CtxOk C) (H : SimH B S w β h) (hs : β s = none) {src dst e : TypeId} (hsrc : C.P.underlying src = some .string) (hdst : C.P.underlying dst = some (.slice e)) (he : C.P.underlying e = some (.int .u8)) (b : ByteArray) (hb : b.size ≤ capMax) :
    Post B S w β s ((do pure (.value (← convert src dst (.string b))) : Sem Next).run C.P w) (.osl s 0 b.size false) (upd h s (some (.arr (rowsOfBytes b) 1))) := by
  have run := run_bytes_of_string (P := C.P) w src dst e b hsrc hdst he
  have hcap : b.size ≤ 1000000 := hb
  have hge := grownCap_ge w b.size 0 e
  have hm : grownCap w b.size 0 e ≤ maxLen := grownCap_le_maxLen _ _ _ _ (by unfold maxLen; omega)
  have hsz : (bytesRow b (grownCap w b.size 0 e)).size = grownCap w b.size 0 e := by
    have : b.data.size = b.size := rfl
    simp [bytesRow, this]; omega
  have hw : (w.drew.alloc (.cells (bytesRow b (grownCap w b.size 0 e)) e ((bytesRow b (grownCap w b.size 0 e)).size, (bytesRow b (grownCap w b.size 0 e)).size + 1))).heap = w.heap.push (.cells (bytesRow b (grownCap w b.size 0 e)) e ((bytesRow b (grownCap w b.size 0 e)).size, (bytesRow b (grownCap w b.size 0 e)).size + 1)) := rfl
  have hlen : (rowsOfBytes b).length = b.size := by simp [rowsOfBytes]
  obtain ⟨p1, p2⟩ := simH_alloc H hs hw (fun o ho => by simp; omega) ((Below.refl B w).drew.alloc H.big _) (l := ⟨w.heap.size, 0, 1⟩) (blk := .arr (rowsOfBytes b) 1) rfl ⟨rfl, fun row hr => by
      simp only [rowsOfBytes, List.mem_map] at hr
      obtain ⟨x, _, rfl⟩ := hr
      rfl, fun i row j a hi hj => by
    have hil : i < b.size := by rw [← hlen]; exact (List.getElem?_eq_some_iff.1 hi).1
    simp only [rowsOfBytes, List.getElem?_map] at hi
    obtain ⟨x, hx, rfl⟩ := Option.map_eq_some_iff.1 hi
    cases j with
    | succ j => simp at hj
    | zero =>
      simp only [List.getElem?_cons_zero, Option.some.injEq] at hj
      subst hj
      refine ⟨.int .u8 x.toNat, ?_, rfl, .v _⟩
      rw [Array.getElem?_toList] at hx
      have hbd : b.data.size = b.size := rfl
      simp only [bytesRow, Nat.zero_add, Nat.mul_one, Nat.add_zero]
      rw [Array.getElem?_append_left (by simp; omega), Array.getElem?_map, hx]
      rfl⟩
  refine ⟨.slice (some ⟨w.heap.size, 0, none⟩) b.size (grownCap w b.size 0 e), _, S, _, .inl (by simp only [Sem.run_bind, run, Result.andThen_ok, Sem.run_pure]), ?_, p1, p2⟩
  refine .osl s 0 b.size false ⟨w.heap.size, 0, 1⟩ _ _ (upd_same _ _ _) hge hm (fun h => by cases h) (fun _ => by simp) _ e _ (heap_push_new hw) ?_
  show 0 + (0 + grownCap w b.size 0 e) * 1 ≤ _
  rw [hsz]; omega

/-! ### a string of bytes -/
theorem bytesOf_spec : ∀ (rows : List (List AV)) (l : List UInt8), bytesOfRows rows = some l → ∃ ns : List Int, rows = ns.map (fun n => [.v (.int .u8 n)]) ∧ l = ns.map (fun n => UInt8.ofNat n.toNat)
  | [], l, h => by simp only [bytesOfRows] at h; injection h with h; subst h; exact ⟨[], rfl, rfl⟩
  | r :: rows, l, h => by
    unfold bytesOfRows at h
    split at h
    · rename_i he; cases he
    · rename_i n rs he
      injection he with e1 e2
      subst e1; subst e2
      split at h
      · rename_i l' hl'
        injection h with h; subst h
        obtain ⟨ns, h1, h2⟩ := bytesOf_spec rows l' hl'
        exact ⟨n :: ns, by rw [h1]; rfl, by rw [h2]; rfl⟩
      · cases h
    · cases h
theorem foldl_push : ∀ (ns : List Int) (r : ByteArray), ns.foldl (fun r n => r.push (UInt8.ofNat n.toNat)) r = ⟨r.data ++ (ns.map fun n => UInt8.ofNat n.toNat).toArray⟩
  | [], r => by simp
  | n :: ns, r => by
    simp only [List.foldl_cons, List.map_cons]
    rw [foldl_push ns]
    simp [ByteArray.push]

theorem bytesStr_ok (hC : CtxOk C) (H : SimH B S w β h) {src dst e : TypeId} (hsrc : C.P.underlying src = some (.slice e)) (hdst : C.P.underlying dst = some .string) (he : C.P.underlying e = some (.int .u8)) {x : AV} {vx : Value} {rc : Nat} {rows : List (List AV)}
    (hx : Rep S w β x vx) (hns : ∀ b, x ≠ .v (.string b)) (hr : rowsOf h x = some (rc, rows)) (hlk : lenOk h x) (l : List UInt8) (hl : bytesOfRows rows = some l) : Yld C.P S w β (.v (.string ⟨l.toArray⟩)) (convert src dst vx) := by
  obtain ⟨u, R, hlen, hf⟩ := rows_src (C := C) H hx hr hlk
  obtain ⟨ns, e1, e2⟩ := bytesOf_spec rows l hl
  obtain ⟨A, c, hv⟩ : ∃ A c, vx = .slice A rows.length c := by
    have hl' := hlen w
    cases hx with
    | v => cases vx <;> first | exact absurd rfl (hns _) | (simp [rowsOf] at hr; done)
    | sl rs rows' clip A c b o u hc hm hcl hrs hA hw h1 hr' => 
      simp only [rowsOf] at hr
      injection hr with hr; injection hr with q1 q2
      subst q2
      exact ⟨A, c, rfl⟩
    | osl s0 lo len clip l A c hl hc hm hcl hA cs e fr hb room =>
      simp only [Builtin.lenOf, Sem.run_pure] at hl'
      injection hl' with hl' _
      exact ⟨A, c, by rw [hl']⟩
    | _ => simp only [rowsOf] at hr; cases hr
  subst hv
  refine ⟨_, ?_, .v _⟩
  rw [run_convert_bytes_string w src dst e A rows.length c hsrc he hdst]
  have hrc : 0 < rows.length → rc = 1 := fun h0 => by
    obtain ⟨row, hrow⟩ := List.exists_mem_of_length_pos h0
    rw [← R.len row hrow]
    rw [e1] at hrow
    obtain ⟨n, _, rfl⟩ := List.mem_map.1 hrow
    rfl
  have hu : ∀ i, i < rows.length → u i 0 = .int .u8 (ns.getD i 0) := fun i hi => by
    have hn : i < ns.length := by rw [e1] at hi; simpa using hi
    have hrow : rows[i]? = some [.v (.int .u8 (ns.getD i 0))] := by
      rw [e1, List.getElem?_map, List.getElem?_eq_getElem hn, List.getD_eq_getElem?_getD, List.getElem?_eq_getElem hn]; rfl
    exact (rep_v (R.rep i _ 0 _ hrow rfl).2)
  have hnl : ns.length = rows.length := by rw [e1]; simp
  cases A with
  | none =>
    -- an empty one
    have h0 : rows.length = 0 := by
      rcases Nat.eq_zero_or_pos rows.length with h | h
      · exact h
      · have := hf w (fun _ _ => rfl) rows.length (Nat.le_refl _)
        rw [run_firstCells_none] at this
        injection this with this _
        have h2 := congrArg Array.size this
        rw [hrc h] at h2
        simp [flatU_length] at h2
        omega
    have : ns = [] := List.eq_nil_of_length_eq_zero (by omega)
    subst this
    subst e2
    rfl
  | some a =>
    have hload : (loadCells a rows.length).run C.P w = .ok (ns.map (Value.int .u8)).toArray w := by
      rcases Nat.eq_zero_or_pos rows.length with h | h
      · have : ns = [] := List.eq_nil_of_length_eq_zero (by omega)
        subst this
        rw [h]; rfl
      · have := hf w (fun _ _ => rfl) rows.length (Nat.le_refl _)
        rw [hrc h] at this
        simp only [Builtin.firstCells, Nat.mul_one] at this
        rw [this]
        congr 2
        apply List.ext_getElem?
        intro k
        by_cases hk : k < rows.length
        · rw [flatU_get _ _ _ _ (by omega), Nat.div_one, Nat.mod_one, hu k hk, List.getElem?_map, List.getElem?_eq_getElem (by omega), List.getD_eq_getElem?_getD, List.getElem?_eq_getElem (by omega)]
          rfl
        · rw [List.getElem?_eq_none (by rw [flatU_length]; omega), List.getElem?_eq_none (by simp; omega)]
    rw [run_bytesToString w a rows.length c ns hload, foldl_push, e2]
    have he0 : ByteArray.empty.data = #[] := rfl
    rw [he0]
    simp

/-! ### slice literals -/
theorem putL_eq : ∀ (n : Nat) (cs l : List AV), n + cs.length ≤ l.length → putL n cs l = l.take n ++ cs ++ l.drop (n + cs.length)
  | 0, [], l, _ => by simp [putL]
  | 0, c :: cs, x :: l, h => by simp [putL, putL_eq 0 cs l (by simp at h; omega)]
  | 0, c :: cs, [], h => by simp at h
  | n + 1, cs, x :: l, h => by
    simp only [putL, putL_eq n cs l (by simp at h; omega), List.take_succ_cons, List.cons_append, List.append_assoc]
    rw [show n + 1 + cs.length = (n + cs.length) + 1 by omega, List.drop_succ_cons]
  | n + 1, cs, [], h => by simp at h

theorem fill_dense (sz : Nat) : ∀ (ps : List (Nat × AV)) (k : Nat) (rows : List (List AV)) (cells : List AV), rowsP sz k ps = some rows → cells.length = (k + rows.length) * sz →
    fillA C (fun i => some (i * sz, sz)) cells ps = some (cells.take (k * sz) ++ rows.flatten)
  | [], k, rows, cells, h, hl => by
    simp only [rowsP] at h
    injection h with h; subst h
    simp only [fillA, List.flatten_nil, List.append_nil]
    rw [List.take_of_length_le (by rw [hl]; simp)]
  | (i, x) :: ps, k, rows, cells, h, hl => by
    simp only [rowsP] at h
    split at h
    · rename_i cs rows' h1 h2 h3
      split at h
      · rename_i h4 h5
        injection h with h; subst h
        have h1 := Nat.eq_of_beq_eq_true h1
        subst h1
        have h4 := Nat.eq_of_beq_eq_true h4
        subst h4
        simp only [List.length_cons] at hl
        have e1 : i * cs.length + cs.length ≤ cells.length := by
          rw [hl]
          have : (i + 1) * cs.length ≤ (i + (rows'.length + 1)) * cs.length := Nat.mul_le_mul_right _ (by omega)
          rw [Nat.add_mul, Nat.one_mul] at this
          exact this
        have hp := putL_eq (i * cs.length) cs cells e1
        have hpl := putL_length (i * cs.length) cs cells e1
        have ih := fill_dense cs.length ps (i + 1) rows' (putL (i * cs.length) cs cells) h3 (by rw [hpl, hl]; congr 1; omega)
        simp only [fillA, h2]
        rw [show Nat.beq cs.length cs.length = true from Nat.beq_refl _, show Nat.ble (i * cs.length + cs.length) cells.length = true from Nat.ble_eq_true_of_le e1]
        simp only
        rw [ih, hp]
        congr 1
        have ht : (cells.take (i * cs.length)).length = i * cs.length := by rw [List.length_take]; omega
        rw [List.take_append_of_le_length (by rw [List.length_append, ht, Nat.add_mul, Nat.one_mul]; exact Nat.le_refl _), List.take_of_length_le (by rw [List.length_append, ht, Nat.add_mul, Nat.one_mul]; exact Nat.le_refl _)]
        simp
      · cases h
    · cases h

theorem flatten_get {sz : Nat} : ∀ (rows : List (List AV)), (∀ row ∈ rows, row.length = sz) → ∀ (i : Nat) row (j : Nat) a, rows[i]? = some row → row[j]? = some a → rows.flatten[i * sz + j]? = some a
  | [], _, i, row, j, a, h, _ => by simp at h
  | r :: rows, hl, 0, row, j, a, h, hj => by
    simp only [List.getElem?_cons_zero, Option.some.injEq] at h
    subst h
    rw [List.flatten_cons, Nat.zero_mul, Nat.zero_add, List.getElem?_append_left (List.getElem?_eq_some_iff.1 hj).1]
    exact hj
  | r :: rows, hl, i + 1, row, j, a, h, hj => by
    have hr : r.length = sz := hl r (List.mem_cons_self)
    rw [List.flatten_cons, List.getElem?_append_right (by rw [hr, Nat.add_mul]; omega), hr, show (i + 1) * sz + j - sz = i * sz + j by rw [Nat.add_mul]; omega]
    exact flatten_get rows (fun row hrow => hl row (List.mem_cons_of_mem _ hrow)) i row j a (by simpa using h) hj

theorem rowsP_spec (sz : Nat) : ∀ (ps : List (Nat × AV)) (k : Nat) (rows : List (List AV)), rowsP sz k ps = some rows → ∀ row ∈ rows, row.length = sz ∧ closedL row = true
  | [], k, rows, h, row, hr => by
    simp only [rowsP] at h
    injection h with h; subst h
    cases hr
  | (i, x) :: ps, k, rows, h, row, hr => by
    simp only [rowsP] at h
    split at h
    · rename_i cs rows' h1 h2 h3
      split at h
      · rename_i h4 h5
        injection h with h; subst h
        rcases List.mem_cons.1 hr with rfl | hr
        · exact ⟨Nat.eq_of_beq_eq_true h4, h5⟩
        · exact rowsP_spec sz ps (k + 1) rows' h3 row hr
      · cases h
    · cases h

theorem buildSlice_ok (hC : CtxOk C) (H : SimH B S w β h) {t e : TypeId} {ei : TI} (hte : C.P.underlying t = some (.slice e)) (he : C.ty e = some ei) (ps : List (Nat × AV)) (qs : Array (Nat × Value)) (hq : PartsL S w β ps qs.toList) {rows : List (List AV)} (hr : rowsP ei.sz 0 ps = some rows)
    {len : Nat} (hl : rows.length = len) (h0 : 0 < len) (hb : len * ei.sz ≤ 16777216) : Post B S w β s ((do pure (.value (← Instr.buildSlice t len qs)) : Sem Next).run C.P w) (.sl ei.sz rows true) h := by
  obtain ⟨inf, z, i1, i2, i3, i4, i5, i6, i7, i8⟩ := (hC.ty e _ he).info
  have hz : CellL S w β (List.replicate (len * ei.sz) AV.any) ((Array.range (len * ei.sz)).map (z.cells[· % z.cells.size]!)).toList := by
    have hone : ∀ (i : Nat) u, z.cells[i]? = some u → u.oneCell' = true := (hC.ty e _ he).one inf z i1 i4
    refine ⟨⟨by simp, fun i a u p q => by
      rw [List.getElem?_replicate] at p
      split at p
      · injection p with p; subst p; exact .any _
      · cases p⟩, fun i u hu => ?_⟩
    simp only [Array.getElem?_toList, Array.getElem?_map] at hu
    obtain ⟨k, hk, rfl⟩ := Option.map_eq_some_iff.1 hu
    have hlt : k % z.cells.size < z.cells.size := Nat.mod_lt _ (by omega)
    rw [getElem!_pos z.cells _ hlt]
    exact hone _ _ (Array.getElem?_eq_getElem hlt)
  obtain ⟨vr, g1, g2⟩ := fill_ok (C := C) (pv := fun i => some (i * ei.sz, ei.sz)) (fun i x hx => hx) ps qs.toList _ _ _ hq hz (fill_dense ei.sz ps 0 rows _ hr (by rw [List.length_replicate, hl, Nat.zero_add]))
  have hpos : ¬ len * ei.sz = 0 := Nat.ne_of_gt (Nat.mul_pos h0 i7)
  have run := run_buildSlice (P := C.P) w t e len qs vr inf z hte i1 i4 (by rw [i2]; omega) (by rw [i2]; exact hpos) (by rw [i2]; exact g1)
  have hw : (w.alloc (.cells vr e)).heap = w.heap.push (.cells vr e) := rfl
  have hE : Evo S w (w.alloc (.cells vr e)) := Evo.of_kept (fun b hb => heap_push_old hw hb) H.lt
  have spec := rowsP_spec ei.sz ps 0 rows hr
  have g2' : CellL S w β rows.flatten vr.toList := by simpa using g2
  have hS : ∀ b, S b → S b ∨ b = w.heap.size := fun b hb => .inl hb
  have cell : ∀ (i : Nat) row (j : Nat) a, rows[i]? = some row → row[j]? = some a → ∃ u, vr[i * ei.sz + j]? = some u ∧ u.oneCell' = true ∧ Rep S w β a u := by
    intro i row j a hi hj
    have hf := flatten_get rows (fun r hr => (spec r hr).1) i row j a hi hj
    have hlt : i * ei.sz + j < vr.toList.length := by rw [← g2'.rep.1]; exact (List.getElem?_eq_some_iff.1 hf).1
    exact ⟨vr.toList[i * ei.sz + j], by rw [← Array.getElem?_toList, List.getElem?_eq_getElem hlt], g2'.one _ _ (List.getElem?_eq_getElem hlt), g2'.rep.2 _ _ _ hf (List.getElem?_eq_getElem hlt)⟩
  refine ⟨.slice (some ⟨w.heap.size, 0, none⟩) len len, _, (fun b => S b ∨ b = w.heap.size), β, .inl (by simp only [Sem.run_bind, run, Result.andThen_ok, Sem.run_pure]), ?_, ?_, ⟨hS, hE, (Below.refl B w).alloc H.big _, BtLe.refl _, fun _ _ hx => .inl hx, fun b hb => hb.imp id fun e => by rw [e]; exact H.big⟩⟩
  · have hm : len ≤ maxLen := by
      have : len * 1 ≤ len * ei.sz := Nat.mul_le_mul_left _ i7
      unfold maxLen; omega
    rw [← hl]
    refine .sl ei.sz rows true _ rows.length w.heap.size 0 (fun i j => if i < rows.length ∧ j < ei.sz then vr.getD (i * ei.sz + j) (.bool false) else .bool false) (Nat.le_refl _) (by rw [hl]; exact hm) (fun _ => rfl) (fun row hrow => (spec row hrow).1) (fun _ => ⟨rfl, .inr rfl⟩) (fun i row j a hi hj => ?_) (fun i j => ?_) fun i row j a hi hj => ?_
    · obtain ⟨u, k1, k2, k3⟩ := cell i row j a hi hj
      have hil := (List.getElem?_eq_some_iff.1 hi).1
      have hjl : j < ei.sz := by rw [← (spec row (List.mem_of_getElem? hi)).1]; exact (List.getElem?_eq_some_iff.1 hj).1
      rw [if_pos ⟨hil, hjl⟩, cell_of_cells (heap_push_new hw), Nat.zero_add, Array.getD_eq_getD_getElem?, k1]
      rfl
    · show (if i < rows.length ∧ j < ei.sz then vr.getD (i * ei.sz + j) (.bool false) else .bool false).oneCell' = true
      by_cases hc : i < rows.length ∧ j < ei.sz
      · have hrow : rows[i]? = some rows[i] := List.getElem?_eq_getElem hc.1
        have hjl : j < rows[i].length := by rw [(spec _ (List.mem_of_getElem? hrow)).1]; exact hc.2
        obtain ⟨u, k1, k2, k3⟩ := cell i _ j _ hrow (List.getElem?_eq_getElem hjl)
        rw [if_pos hc, Array.getD_eq_getD_getElem?, k1]
        exact k2
      · rw [if_neg hc]; rfl
    · obtain ⟨u, k1, k2, k3⟩ := cell i row j a hi hj
      have hil := (List.getElem?_eq_some_iff.1 hi).1
      have hjl : j < ei.sz := by rw [← (spec row (List.mem_of_getElem? hi)).1]; exact (List.getElem?_eq_some_iff.1 hj).1
      rw [if_pos ⟨hil, hjl⟩, Array.getD_eq_getD_getElem?, k1]
      exact closed_rep (k3.mono hS hE (BtLe.refl _)) (closedL_get row (spec row (List.mem_of_getElem? hi)).2 j a hj) noB
  · have hsz : (w.alloc (.cells vr e)).heap.size = w.heap.size + 1 := by rw [hw]; simp
    refine ⟨fun s' blk' hs' => ?_, H.inj, fun b hb => ?_, by rw [hsz]; have := H.big; omega⟩
    · obtain ⟨l', cs', e', fr', k1, k2, k3, k4, k5, k6⟩ := H.own s' blk' hs'
      refine ⟨l', cs', e', fr', k1, (heap_push_old hw (lt_of_heap k2)).trans k2, k3, k4, fun hb => ?_, k6.mono hS hE (BtLe.refl _)⟩
      rcases hb with hb | hb
      · exact k5 hb
      · have := lt_of_heap k2; omega
    · rw [hsz]
      rcases hb with hb | hb
      · have := H.lt b hb; omega
      · omega
end
end Go.Proofs.Ytckjihpdjefpgaa
