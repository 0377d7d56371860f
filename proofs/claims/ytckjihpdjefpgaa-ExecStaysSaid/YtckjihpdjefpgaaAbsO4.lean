/- The second machine and the model: composites. -/
import Derived.Test.YtckjihpdjefpgaaAbsO3
import Derived.Great.BuildSlice
namespace Go.Proofs.Ytckjihpdjefpgaa
open Go.RowKit
section
variable {C : Ctx} {S : Nat → Prop} {w : World} {β : Bt} {B : Nat} {h : AH}

theorem fold_sets (off : Nat) : ∀ (l : List Value) (s : Nat) (cells : Array Value), off + s + l.length ≤ cells.size →
    ((l.zipIdx s).foldl (fun (cs : Array Value) (p : Value × Nat) => cs.setIfInBounds (off + p.2) p.1) cells).size = cells.size ∧
    ∀ k, ((l.zipIdx s).foldl (fun (cs : Array Value) (p : Value × Nat) => cs.setIfInBounds (off + p.2) p.1) cells)[k]? = if off + s ≤ k ∧ k < off + s + l.length then l[k - (off + s)]? else cells[k]?
  | [], s, cells, _ => by
    refine ⟨rfl, fun k => ?_⟩
    simp only [List.zipIdx_nil, List.foldl_nil, List.length_nil, Nat.add_zero]
    rw [if_neg (by omega)]
  | x :: l, s, cells, hl => by
    simp only [List.length_cons] at hl
    obtain ⟨h1, h2⟩ := fold_sets off l (s + 1) (cells.setIfInBounds (off + s) x) (by simp; omega)
    simp only [List.zipIdx_cons, List.foldl_cons]
    refine ⟨by rw [h1]; simp, fun k => ?_⟩
    rw [h2 k]
    simp only [List.length_cons]
    by_cases hk : k = off + s
    · subst hk
      rw [if_neg (by omega), if_pos (by omega), Nat.sub_self, List.getElem?_cons_zero, Array.getElem?_setIfInBounds_self_of_lt (by omega)]
    · by_cases hk2 : off + (s + 1) ≤ k ∧ k < off + (s + 1) + l.length
      · rw [if_pos hk2, if_pos (by omega), show k - (off + s) = (k - (off + (s + 1))) + 1 by omega, List.getElem?_cons_succ]
      · rw [if_neg hk2, if_neg (by omega), Array.getElem?_setIfInBounds_ne (by omega)]

/-- Parts of a composite, known and so. -/
def PartsL (S : Nat → Prop) (w : World) (β : Bt) : List (Nat × AV) → List (Nat × Value) → Prop
  | [], [] => True
  | (i, a) :: ps, (j, v) :: qs => i = j ∧ Rep S w β a v ∧ PartsL S w β ps qs
  | _, _ => False

theorem fill_ok {pa pv : Nat → Option (Nat × Nat)} (hp : ∀ i x, pa i = some x → pv i = some x) : ∀ (ps : List (Nat × AV)) (qs : List (Nat × Value)) (cells r : List AV) (vs : Array Value), PartsL S w β ps qs → CellL S w β cells vs.toList →
    fillA C pa cells ps = some r → ∃ vr, Instr.fill pv vs qs = some vr ∧ CellL S w β r vr.toList
  | [], [], cells, r, vs, _, hc, hr => by simp only [fillA] at hr; injection hr with hr; subst hr; exact ⟨vs, rfl, hc⟩
  | [], _ :: _, _, _, _, hq, _, _ => hq.elim
  | (i, a) :: ps, [], _, _, _, hq, _, _ => hq.elim
  | (i, a) :: ps, (j, v) :: qs, cells, r, vs, hq, hc, hr => by
    obtain ⟨rfl, ha, hrest⟩ := hq
    simp only [fillA] at hr
    split at hr
    · rename_i off sz cs hpl hca
      have hcs := cellsA_rep ha hca
      split at hr
      · rename_i e1 e2
        have e1 := Nat.eq_of_beq_eq_true e1
        have e2 := Nat.le_of_ble_eq_true e2
        have n1 : v.cells.size = sz := by rw [← e1, hcs.rep.1]; simp
        have n2 : vs.size = cells.length := by rw [hc.rep.1]; simp
        obtain ⟨f1, f2⟩ := fold_sets off v.cells.toList 0 vs (by simp only [Array.length_toList, Nat.add_zero, n1, n2]; omega)
        have hnew : CellL S w β (putL off cs cells) ((v.cells.toList.zipIdx 0).foldl (fun (cs : Array Value) (p : Value × Nat) => cs.setIfInBounds (off + p.2) p.1) vs).toList := by
          refine ⟨⟨(putL_length _ _ _ e2).trans (n2.symm.trans (f1.symm.trans (Array.length_toList).symm)), fun k a' u hk hu => ?_⟩, fun k u hu => ?_⟩
          · rw [Array.getElem?_toList, f2 k] at hu
            rw [putL_get _ _ _ _ e2] at hk
            simp only [Nat.add_zero, Array.length_toList, n1] at hu
            rw [e1] at hk
            split at hk
            · rename_i hcond
              rw [if_pos hcond] at hu
              exact hcs.rep.2 _ _ _ hk hu
            · rename_i hcond
              rw [if_neg hcond] at hu
              exact hc.rep.2 _ _ _ hk (by simpa using hu)
          · rw [Array.getElem?_toList, f2 k] at hu
            split at hu
            · exact hcs.one _ _ hu
            · exact hc.one _ _ (by simpa using hu)
        obtain ⟨vr, g1, g2⟩ := fill_ok hp ps qs _ r _ hrest hnew hr
        refine ⟨vr, ?_, g2⟩
        simp only [Instr.fill, hp _ _ hpl]
        rw [if_neg (by simp [n1, n2]; omega)]
        have : v.cells.zipIdx.foldl (fun (cs : Array Value) (x : Value × Nat) => match x with | (c, j) => cs.setIfInBounds (off + j) c) vs = (v.cells.toList.zipIdx 0).foldl (fun (cs : Array Value) (p : Value × Nat) => cs.setIfInBounds (off + p.2) p.1) vs := by
          rw [← Array.foldl_toList, Array.toList_zipIdx]
        rw [← this] at g1
        exact g1
      · cases hr
    · cases hr

theorem mapM_some {P : Program} : ∀ (fs : List Field), (∀ f ∈ fs, ∃ inf, P.info? f.type = some inf ∧ inf.size ≠ 0) → ∃ ps, fs.mapM (fun (f : Field) => (P.info? f.type).map fun i => (f.offset, i.size)) = some ps ∧
    ∀ i : Nat, ps[i]? = (fs[i]?).bind fun (f : Field) => (P.info? f.type).map fun i => (f.offset, i.size)
  | [], _ => ⟨[], rfl, fun i => by simp⟩
  | f :: fs, hf => by
    obtain ⟨ps, h1, h2⟩ := mapM_some fs fun g hg => hf g (List.mem_cons_of_mem _ hg)
    obtain ⟨inf, hi, _⟩ := hf f (List.mem_cons_self)
    refine ⟨(f.offset, inf.size) :: ps, by simp [List.mapM_cons, hi, h1], fun i => ?_⟩
    cases i with
    | zero => simp [hi]
    | succ i => simpa using h2 i

theorem zero_cells (hC : CtxOk C) {t : TypeId} {i : TI} (ht : C.ty t = some i) {zs : List AV} (hz : cellsA i.zero = some zs) : ∃ inf z, C.P.info? t = some inf ∧ inf.size = i.sz ∧ inf.zero = some z ∧ CellL S w β zs z.cells.toList ∧ z.cells.size = i.sz ∧ inf.bytes = i.bytes ∧ 0 < i.sz ∧ i.bytes ≤ 1000 := by
  obtain ⟨inf, z, h1, h2, h3, h4, h5, h6, h7, h8⟩ := (hC.ty t _ ht).info
  rw [h5] at hz
  exact ⟨inf, z, h1, h2, h4, cellsA_rep (absV_rep z) hz, h6, h3, h7, h8⟩

theorem build_ok (hC : CtxOk C) (t : TypeId) (ps : List (Nat × AV)) (qs : Array (Nat × Value)) (hq : PartsL S w β ps qs.toList) :
    ResOk C.P S w β (Instr.build t qs)
      (buildA C t ps) := by
  unfold buildA
  split
  · rename_i fs sz ag z by_ eq ht
    obtain ⟨fields, hu, hfs, hnz⟩ := (hC.ty t _ ht).kd
    split
    · rename_i zs hzs
      obtain ⟨inf, zv, i1, i2, i3, i4, _⟩ := zero_cells (S := S) (w := w) (β := β) hC ht hzs
      refine okO_ok fun y hy => ?_
      obtain ⟨r, hr, hry⟩ := Option.map_eq_some_iff.1 hy
      subst hry
      obtain ⟨places, hpl, hpi⟩ := mapM_some fields.toList hnz
      have hpp : ∀ i x, (match nthF fs i with | some (off, ft) => (match C.ty ft with | some fi => some (off, fi.sz) | none => none) | none => none) = some x → places.toArray[i]? = some x := by
        intro i x hx
        split at hx
        · rename_i off ft hn
          split at hx
          · rename_i fi hfi
            injection hx with hx; subst hx
            rw [nthF_eq, ← hfs, List.getElem?_map] at hn
            obtain ⟨fd, hfd, hfe⟩ := Option.map_eq_some_iff.1 hn
            injection hfe with e1 e2
            subst e1; subst e2
            obtain ⟨inf', z', j1, j2, _⟩ := (hC.ty _ _ hfi).info
            simp only [List.getElem?_toArray, hpi, hfd, Option.bind_some, j1, Option.map_some, j2]
          · cases hx
        · cases hx
      obtain ⟨vr, g1, g2⟩ := fill_ok (pv := (places.toArray[·]?)) hpp _ _ _ _ _ hq i4 hr
      exact ⟨_, run_build w t qs vr (by simp only [Program.built, i1, hu, i3, hpl]; exact g1), by simpa using g2.agg⟩
    · trivial
  · rename_i n e sz ag z by_ eq ht
    have hu : C.P.underlying t = some (.array n e) := (hC.ty t _ ht).kd
    split
    · rename_i zs ei hzs he
      obtain ⟨inf, zv, i1, i2, i3, i4, _⟩ := zero_cells (S := S) (w := w) (β := β) hC ht hzs
      obtain ⟨inf', z', j1, j2, _⟩ := (hC.ty _ _ he).info
      refine okO_ok fun y hy => ?_
      obtain ⟨r, hr, hry⟩ := Option.map_eq_some_iff.1 hy
      subst hry
      obtain ⟨vr, g1, g2⟩ := fill_ok (pv := fun i => some (i * inf'.size, inf'.size)) (fun i x hx => by rw [j2]; exact hx) _ _ _ _ _ hq i4 hr
      exact ⟨_, run_build w t qs vr (by simp only [Program.built, i1, hu, i3, j1]; exact g1), by simpa using g2.agg⟩
    · trivial
  · trivial
end
end Go.Proofs.Ytckjihpdjefpgaa
