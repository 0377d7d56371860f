/- The second machine and the model: reads. -/
import Derived.Test.YtckjihpdjefpgaaAbsO
namespace Go.Proofs.Ytckjihpdjefpgaa
open Go.RowKit
section
variable {C : Ctx} {S : Nat → Prop} {w : World} {β : Bt} {B : Nat} {h : AH}

/-- Cells of memory, read as a list. -/
theorem choose_cells {b : Nat} : ∀ (seg : List AV) (o : Nat), (∀ (j : Nat) a, seg[j]? = some a → ∃ u, w.cell? ⟨b, o + j, none⟩ = some u ∧ u.oneCell' = true ∧ Rep S w β a u) →
    ∃ vs : List Value, vs.length = seg.length ∧ w.rangeAt b o vs ∧ CellL S w β seg vs
  | [], o, _ => ⟨[], rfl, fun j v hv => by simp at hv, ⟨RepL.nil _ _ _, fun i u hu => by simp at hu⟩⟩
  | a :: seg, o, H => by
    obtain ⟨u, h1, h2, h3⟩ := H 0 a rfl
    obtain ⟨vs, e1, e2, e3⟩ := choose_cells seg (o + 1) fun j a' hj => by
      obtain ⟨u', k1, k2⟩ := H (j + 1) a' (by simpa using hj)
      exact ⟨u', by rw [← k1]; congr 2; omega, k2⟩
    refine ⟨u :: vs, by simp [e1], fun j v hv => ?_, ⟨RepL.cons h3 e3.rep, fun i u' hu => ?_⟩⟩
    · cases j with
      | zero => simp at hv; subst hv; exact h1
      | succ j => rw [show o + (j + 1) = (o + 1) + j by omega]; exact e2 j v (by simpa using hv)
    · cases i with
      | zero => simp at hu; subst hu; exact h2
      | succ i => exact e3.one i u' (by simpa using hu)

theorem CellL.agg {cs : List AV} {vs : List Value} (h : CellL S w β cs vs) : Rep S w β (.agg cs) (.agg vs.toArray) :=
  .agg cs _ (by simpa using h.rep.1) (fun i u hu => h.one i u (by simpa using hu)) fun i a u h1 h2 => h.rep.2 i a u h1 (by simpa using h2)

/-- A row of cells in memory. -/
def RowAt (S : Nat → Prop) (w : World) (β : Bt) (b o : Nat) (row : List AV) : Prop := ∀ (j : Nat) a, row[j]? = some a → ∃ u, w.cell? ⟨b, o + j, none⟩ = some u ∧ u.oneCell' = true ∧ Rep S w β a u

theorem load_row (hC : CtxOk C) {t : TypeId} {rs c b o : Nat} {row : List AV} {x : AV} (hrow : RowAt S w β b o row) (hrs : row.length = rs) (hx : loadA C t rs c row = some x) :
    Yld C.P S w β x (loadVar t ⟨b, o + c, none⟩) := by
  have agg : ∀ (sz : Nat) (seg : List AV) (kd : Kd) (z : AV) (by_ : Nat) (eq : List CK), C.ty t = some ⟨kd, sz, true, z, by_, eq⟩ → seg.length = sz → (∀ (j : Nat) a, seg[j]? = some a → ∃ u, w.cell? ⟨b, o + c + j, none⟩ = some u ∧ u.oneCell' = true ∧ Rep S w β a u) →
      Yld C.P S w β (.agg seg) (loadVar t ⟨b, o + c, none⟩) := by
    intro sz seg kd z by_ eq ht hl H
    have T := hC.ty t _ ht
    obtain ⟨vs, e1, e2, e3⟩ := choose_cells seg (o + c) H
    obtain ⟨d, hd, hr⟩ := T.ag
    obtain ⟨inf, z, hi, hsz, _⟩ := T.info
    exact ⟨_, run_loadVar_mid w b (o + c) t vs d e2 hd hr (by rw [hi, e1, hl]; simpa using hsz), e3.agg⟩
  unfold loadA at hx
  split at hx
  · rename_i kd sz z by_ eq ht
    split at hx
    · rename_i hs
      have hs' := Nat.eq_of_beq_eq_true hs
      injection hx with hx; subst hx
      exact agg sz row _ _ _ _ ht (by rw [hrs, hs']) (fun j a hj => by have := hrow j a hj; simpa using this)
    · split at hx
      · rename_i hl
        injection hx with hx; subst hx
        refine agg sz _ _ _ _ _ ht (Nat.eq_of_beq_eq_true hl) fun j a hj => ?_
        rw [takeL_eq, dropL_eq, List.getElem?_take] at hj
        split at hj
        · rw [List.getElem?_drop] at hj
          obtain ⟨u, k1, k2⟩ := hrow _ _ hj
          exact ⟨u, by rw [← k1]; congr 2; omega, k2⟩
        · cases hj
      · cases hx
  · rename_i kd sz z by_ eq ht
    have T := hC.ty t _ ht
    rw [nthO_eq] at hx
    obtain ⟨u, k1, k2, k3⟩ := hrow _ _ hx
    obtain ⟨d, hd, hr⟩ := T.ag
    have hagg : (isAgg t).run C.P w = .ok false w := by
      unfold isAgg
      rw [Sem.run_bind, run_underlying hd w]
      cases d <;> first | rfl | (simp [TypeDesc.isRow] at hr)
    refine ⟨u, ?_, k3⟩
    simp only [loadVar, Sem.run_bind, hagg, Result.andThen_ok, Bool.false_eq_true, if_false, run_load, k1]
  · cases hx

theorem own_box (H : SimH B S w β h) {s : Nat} {cells : List AV} (hs : h s = some (.box cells)) : ∃ l cs e fr, β s = some l ∧ w.heap[l.blk]? = some (.cells cs e fr) ∧ RowAt S w β l.blk l.base cells := by
  obtain ⟨l, cs, e, fr, h1, h2, _, _, _, h3⟩ := H.own s _ hs
  exact ⟨l, cs, e, fr, h1, h2, fun j a hj => let ⟨u, k1, k2⟩ := h3 j a hj; ⟨u, by rw [cell_of_cells h2]; exact k1, k2⟩⟩
theorem own_arr (H : SimH B S w β h) {s : Nat} {rows : List (List AV)} {rs : Nat} (hs : h s = some (.arr rows rs)) : ∃ l cs e fr, β s = some l ∧ w.heap[l.blk]? = some (.cells cs e fr) ∧ l.rs = rs ∧ (∀ row ∈ rows, row.length = rs) ∧ ∀ (i : Nat) row, rows[i]? = some row → RowAt S w noB l.blk (l.base + i * rs) row := by
  obtain ⟨l, cs, e, fr, h1, h2, _, _, _, h3⟩ := H.own s _ hs
  exact ⟨l, cs, e, fr, h1, h2, h3.1, h3.2.1, fun i row hi j a hj => let ⟨u, k1, k2⟩ := h3.2.2 i row j a hi hj; ⟨u, by rw [cell_of_cells h2]; exact k1, k2⟩⟩

theorem Yld.res {P : Program} {x : AV} {r : Sem Value} (h : Yld P S w β x r) : ResOk P S w β r (.ok x) := h
theorem okO_ok {P : Program} {x : Option AV} {r : Sem Value} (h : ∀ y, x = some y → Yld P S w β y r) : ResOk P S w β r (okO x) := by
  cases x with
  | none => trivial
  | some y => exact h y rfl

theorem loadAt_yld {P : Program} {t : TypeId} {a : Addr} {x : AV} (h : Yld P S w β x (loadVar t a)) : Yld P S w β x (Instr.loadAt t (.pointer (some a))) := h

theorem load_ok (hC : CtxOk C) (H : SimH B S w β h) (t : TypeId) {a : AV} {v : Value} (ha : Rep S w β a v) :
    ResOk C.P S w β (Instr.loadAt t v)
      (loadAtA C h t a) := by
  unfold loadAtA
  split
  · rename_i b c
    split
    · rename_i cells hb
      obtain ⟨l, cs, e, fr, h1, h2, h3⟩ := own_box H hb
      cases ha with
      | ptr _ _ l' hl =>
      obtain rfl : l' = l := by rw [hl] at h1; exact Option.some.inj h1
      exact okO_ok fun y hy => loadAt_yld (load_row hC h3 rfl hy)
    · trivial
  · rename_i b r c
    split
    · rename_i rows rs hb
      obtain ⟨l, cs, e, fr, h1, h2, h3, h4, h5⟩ := own_arr H hb
      cases ha with
      | ptr2 _ _ _ l' hl =>
      obtain rfl : l' = l := by rw [hl] at h1; exact Option.some.inj h1
      subst h3
      intro row x h0 hrow hx
      exact loadAt_yld (load_row hC (fun j a hj => let ⟨u, q1, q2, q3⟩ := h5 r row (by simpa using hrow) j a hj; ⟨u, q1, q2, q3.mono (fun _ h => h) (Evo.refl _ _) (fun s l x => by cases x)⟩) (h4 row (List.mem_of_getElem? hrow)) hx)
    · trivial
  · rename_i rs c row
    cases ha with
    | dp _ _ _ b o u hrs hb hw h1 hr =>
    refine okO_ok fun y hy => loadAt_yld (load_row hC (fun j a hj => ⟨u j, hw j a hj, h1 j, (hr j a hj).mono (fun _ x => x) (Evo.refl _ _) (fun s l x => by cases x)⟩) hrs hy)
  · trivial

theorem part_ok (hC : CtxOk C) {t : TypeId} {cs : List AV} {vs : Array Value} {off : Nat} {x : AV} (hl : cs.length = vs.size) (h1 : ∀ (i : Nat) u, vs[i]? = some u → u.oneCell' = true) (hr : ∀ (i : Nat) a u, cs[i]? = some a → vs[i]? = some u → Rep S w β a u)
    (hx : partA C t cs off = some x) : Yld C.P S w β x (part t vs off) := by
  unfold partA at hx
  split at hx
  · rename_i kd sz z by_ eq ht
    have T := hC.ty t _ ht
    obtain ⟨d, hd, hrow⟩ := T.ag
    obtain ⟨inf, z, hi, hsz, _⟩ := T.info
    have hagg : (isAgg t).run C.P w = .ok true w := by
      unfold isAgg
      rw [Sem.run_bind, run_underlying hd w]
      cases d <;> first | rfl | (simp [TypeDesc.isRow] at hrow)
    injection hx with hx; subst hx
    refine ⟨.agg (vs.extract off (off + sz)), by simp only [part, Sem.run_bind, hagg, Result.andThen_ok, if_true, sizeOf, typeInfo, program, Sem.run, hi, Sem.run_pure, hsz], ?_⟩
    rw [takeL_eq, dropL_eq]
    refine .agg _ _ (by simp [hl]; omega) (fun i u hu => ?_) fun i a u p q => ?_
    · rw [Array.getElem?_extract] at hu
      split at hu
      · exact h1 _ _ hu
      · cases hu
    · rw [Array.getElem?_extract] at q
      rw [List.getElem?_take] at p
      split at p
      · rw [List.getElem?_drop] at p
        split at q
        · exact hr _ _ _ p q
        · cases q
      · cases p
  · rename_i kd sz z by_ eq ht
    have T := hC.ty t _ ht
    obtain ⟨d, hd, hrow⟩ := T.ag
    have hagg : (isAgg t).run C.P w = .ok false w := by
      unfold isAgg
      rw [Sem.run_bind, run_underlying hd w]
      cases d <;> first | rfl | (simp [TypeDesc.isRow] at hrow)
    rw [nthO_eq] at hx
    have hlt : off < vs.size := by rw [← hl]; exact (List.getElem?_eq_some_iff.1 hx).1
    refine ⟨vs[off], by simp only [part, Sem.run_bind, hagg, Result.andThen_ok, Bool.false_eq_true, if_false, Array.getElem?_eq_getElem hlt, Sem.run_pure], hr off x _ hx (Array.getElem?_eq_getElem hlt)⟩
  · cases hx

theorem field_ok (hC : CtxOk C) (t : TypeId) (f : Nat) {a : AV} {v : Value} (ha : Rep S w β a v) :
    ResOk C.P S w β (Instr.field t v f)
      (fieldA C t f a) := by
  unfold fieldA
  split
  · rename_i fs sz ag z by_ eq ht
    obtain ⟨fields, hu, hfs, _⟩ := (hC.ty t _ ht).kd
    split
    · rename_i off ft cs hf
      cases ha with
      | agg _ vs hl h1 hr =>
      rw [nthF_eq, ← hfs, List.getElem?_map] at hf
      obtain ⟨fd, hfd, hfe⟩ := Option.map_eq_some_iff.1 hf
      injection hfe with e1 e2
      subst e1; subst e2
      refine okO_ok fun y hy => ?_
      obtain ⟨v, p1, p2⟩ := part_ok hC hl h1 hr hy
      refine ⟨v, ?_, p2⟩
      simp only [Instr.field, Sem.run_bind, run_underlying hu, Result.andThen_ok]
      rw [show fields[f]? = some fd by simpa using hfd]
      simpa [asAgg] using p1
    · trivial
  · trivial

theorem run_fieldPlace {P : Program} {f : Field} {inf : TypeInfo} (hi : P.info? f.type = some inf) (hs : inf.size ≠ 0) (a : Addr) : (fieldPlace a f).run P w = .ok (a.add f.offset) w := by
  simp only [fieldPlace, Sem.run_bind, sizeOf, typeInfo, program, Sem.run, hi, Sem.run_pure, Result.andThen_ok, if_neg hs]

theorem fieldAddr_ok (hC : CtxOk C) (t : TypeId) (f : Nat) {a : AV} {v : Value} (ha : Rep S w β a v) :
    ResOk C.P S w β (Instr.fieldAt t v f)
      (fieldAddrA C t f a) := by
  unfold fieldAddrA
  split
  · rename_i fs sz ag z by_ eq ht
    obtain ⟨fields, hu, hfs, hnz⟩ := (hC.ty t _ ht).kd
    have key : ∀ (off : Nat) (ft : TypeId) (a : Addr), nthF fs f = some (off, ft) → (Instr.fieldAt t (.pointer (some a)) f).run C.P w = .ok (.pointer (some (a.add off))) w := by
      intro off ft a hf
      rw [nthF_eq, ← hfs, List.getElem?_map] at hf
      obtain ⟨fd, hfd, hfe⟩ := Option.map_eq_some_iff.1 hf
      injection hfe with e1 e2
      subst e1; subst e2
      obtain ⟨inf, hi, hs⟩ := hnz fd (List.mem_of_getElem? hfd)
      simp only [Instr.fieldAt, Sem.run_bind, run_underlying hu, Result.andThen_ok]
      rw [show fields[f]? = some fd by simpa using hfd]
      simp only [Instr.sureAddr, Sem.run_pure, Sem.run_bind, Result.andThen_ok, run_fieldPlace hi hs]
    split
    · rename_i off ft b c hf
      cases ha with
      | ptr _ _ l hl => exact ⟨_, key off ft _ hf, by rw [Addr.add_mid, Nat.add_assoc]; exact .ptr b (c + off) l hl⟩
    · rename_i off ft b r c hf
      cases ha with
      | ptr2 _ _ _ l hl => exact ⟨_, key off ft _ hf, by rw [Addr.add_mid, Nat.add_assoc]; exact .ptr2 b r (c + off) l hl⟩
    · rename_i off ft rs c row hf
      cases ha with
      | dp _ _ _ b o u hrs hb hw h1 hr => exact ⟨_, key off ft _ hf, by rw [Addr.add_mid, Nat.add_assoc]; exact .dp rs (c + off) row b o u hrs hb hw h1 hr⟩
    · trivial
  · trivial
end
end Go.Proofs.Ytckjihpdjefpgaa
