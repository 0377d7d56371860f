/- The second machine and the model: what turns memory. -/
import Derived.Test.YtckjihpdjefpgaaAbsO4
namespace Go.Proofs.Ytckjihpdjefpgaa
open Go.RowKit

/-- A step of a walk: what was, is; at most the name s is new. -/
structure StepK (B : Nat) (S : Nat → Prop) (w : World) (β : Bt) (s : Nat) (S' : Nat → Prop) (w' : World) (β' : Bt) : Prop where
  hS : ∀ b, S b → S' b
  hE : Evo S w w'
  hB : Below B w w'
  hle : BtLe β β'
  hdom : ∀ x l, β' x = some l → β x = some l ∨ x = s
  hN : ∀ b, S' b → S b ∨ B ≤ b

def Post (B : Nat) (S : Nat → Prop) (w : World) (β : Bt) (s : Nat) (r : Result Next) (x : AV) (h' : AH) : Prop :=
  ∃ v w' S' β', (r = .ok (.value v) w' ∨ (r = .ok .skip w' ∧ v = undef)) ∧ Rep S' w' β' x v ∧ SimH B S' w' β' h' ∧ StepK B S w β s S' w' β'

section
variable {C : Ctx} {S : Nat → Prop} {w w' : World} {β : Bt} {B : Nat} {h : AH} {s : Nat}

theorem StepK.refl (B : Nat) (S : Nat → Prop) (w : World) (β : Bt) (s : Nat) : StepK B S w β s S w β := ⟨fun _ h => h, Evo.refl _ _, Below.refl _ _, BtLe.refl _, fun _ _ h => .inl h, fun _ h => .inl h⟩

theorem Post.of_yld {P : Program} {x : AV} {r : Sem Value} (H : SimH B S w β h) (hy : Yld P S w β x r) : Post B S w β s ((do pure (.value (← r)) : Sem Next).run P w) x h := by
  obtain ⟨v, h1, h2⟩ := hy
  exact ⟨v, w, S, β, .inl (by simp only [Sem.run_bind, h1, Result.andThen_ok, Sem.run_pure]), h2, H, StepK.refl _ _ _ _ _⟩

theorem upd_same {α : Type} (f : Nat → α) (i : Nat) (x : α) : upd f i x i = x := by unfold upd; rw [show Nat.beq i i = true from Nat.beq_refl i]
theorem upd_other {α : Type} (f : Nat → α) {i j : Nat} (x : α) (hn : j ≠ i) : upd f i x j = f j := by
  unfold upd
  have : Nat.beq j i = false := by rw [← Bool.not_eq_true]; exact fun e => hn (Nat.eq_of_beq_eq_true e)
  rw [this]
theorem BtLe.upd (hs : β s = none) (l : Loc) : BtLe β (upd β s (some l)) := fun x k hx => by
  rw [upd_other _ _ (fun e => by rw [e, hs] at hx; cases hx)]; exact hx

theorem heap_push_old {o : Obj} (hw : w'.heap = w.heap.push o) {b : Nat} (hb : b < w.heap.size) : w'.heap[b]? = w.heap[b]? := by rw [hw, Array.getElem?_push, if_neg (by omega)]
theorem heap_push_new {o : Obj} (hw : w'.heap = w.heap.push o) : w'.heap[w.heap.size]? = some o := by rw [hw, Array.getElem?_push, if_pos rfl]

/-- A new block. -/
theorem simH_alloc (H : SimH B S w β h) (hs : β s = none) {cs : Array Value} {e : TypeId} {fr : Nat × Nat} (hw : w'.heap = w.heap.push (.cells cs e fr)) (hfr : ∀ o, o < cs.size → (decide (fr.1 ≤ o) && decide (o < fr.2)) = false) (hbel : Below B w w') {blk : Blk} {l : Loc} (hl : l.blk = w.heap.size)
    (hin : InBlk S w' (upd β s (some l)) l cs blk) : SimH B S w' (upd β s (some l)) (upd h s (some blk)) ∧ StepK B S w β s S w' (upd β s (some l)) := by
  have hE : Evo S w w' := Evo.of_kept (fun b hb => heap_push_old hw hb) H.lt
  have hle : BtLe β (upd β s (some l)) := BtLe.upd hs l
  have hsz : w'.heap.size = w.heap.size + 1 := by rw [hw]; simp
  refine ⟨⟨fun s' blk' hs' => ?_, fun s1 s2 l1 l2 h1 h2 e1 e2 hb => ?_, fun b hb => by have := H.lt b hb; omega, by have := H.big; omega⟩, ⟨fun _ h => h, hE, hbel, hle, fun x k hx => ?_, fun _ h => .inl h⟩⟩
  · by_cases he : s' = s
    · subst he
      rw [upd_same] at hs'
      injection hs' with hs'; subst hs'
      refine ⟨l, cs, e, fr, upd_same _ _ _, by rw [hl]; exact heap_push_new hw, hfr, by rw [hl]; exact H.big, fun hb => ?_, hin⟩
      have := H.lt _ hb
      omega
    · rw [upd_other _ _ he] at hs'
      obtain ⟨l', cs', e', fr', k1, k2, k3, k4, k5, k6⟩ := H.own s' blk' hs'
      exact ⟨l', cs', e', fr', hle _ _ k1, (heap_push_old hw (lt_of_heap k2)).trans k2, k3, k4, k5, k6.mono (fun _ h => h) hE hle⟩
  · have old : ∀ s1 l1, s1 ≠ s → upd h s (some blk) s1 ≠ none → upd β s (some l) s1 = some l1 → l1.blk < w.heap.size ∧ h s1 ≠ none ∧ β s1 = some l1 := by
      intro s1 l1 hn h1 e1
      rw [upd_other _ _ hn] at h1 e1
      obtain ⟨blk1, hb1⟩ : ∃ b, h s1 = some b := by
        cases hq : h s1 with
        | none => exact absurd hq h1
        | some b => exact ⟨b, rfl⟩
      obtain ⟨l', cs', e', fr', k1, k2, _⟩ := H.own s1 blk1 hb1
      obtain rfl : l1 = l' := by rw [e1] at k1; exact Option.some.inj k1
      exact ⟨lt_of_heap k2, h1, e1⟩
    by_cases n1 : s1 = s
    · by_cases n2 : s2 = s
      · rw [n1, n2]
      · subst n1
        rw [upd_same] at e1
        injection e1 with e1; subst e1
        have := (old s2 l2 n2 h2 e2).1
        omega
    · by_cases n2 : s2 = s
      · subst n2
        rw [upd_same] at e2
        injection e2 with e2; subst e2
        have := (old s1 l1 n1 h1 e1).1
        omega
      · obtain ⟨_, a1, a2⟩ := old s1 l1 n1 h1 e1
        obtain ⟨_, b1, b2⟩ := old s2 l2 n2 h2 e2
        exact H.inj s1 s2 l1 l2 a1 b1 a2 b2 hb
  · by_cases he : x = s
    · exact .inr he
    · rw [upd_other _ _ he] at hx; exact .inl hx

/-- A block of the call's own, turned. -/
theorem simH_mod (H : SimH B S w β h) {s0 : Nat} {blk0 : Blk} {l : Loc} (hs : h s0 = some blk0) (hl : β s0 = some l) {cs cs' : Array Value} {e : TypeId} {fr : Nat × Nat} (hb : w.heap[l.blk]? = some (.cells cs e fr))
    (ho : ∀ b, b ≠ l.blk → w'.heap[b]? = w.heap[b]?) (hn : w'.heap[l.blk]? = some (.cells cs' e fr)) (hsz : cs'.size = cs.size) (hws : w'.heap.size = w.heap.size) (hbel : Below B w w') {blk : Blk} (hin : Evo S w w' → InBlk S w' β l cs' blk) :
    SimH B S w' β (upd h s0 (some blk)) ∧ StepK B S w β s S w' β := by
  obtain ⟨l', cs0, e', fr', k1, k2, k3, k4, k5, k6⟩ := H.own s0 blk0 hs
  obtain rfl : l' = l := by rw [hl] at k1; exact (Option.some.inj k1).symm
  rw [hb] at k2
  injection k2 with k2; injection k2 with q1 q2 q3
  subst q1; subst q2; subst q3
  have hE : Evo S w w' := ⟨fun b hSb => ho b (fun e => k5 (e ▸ hSb)), fun b c1 e1 f1 h1 => by
    by_cases he : b = l'.blk
    · subst he
      rw [hb] at h1
      injection h1 with h1; injection h1 with q1 q2 q3
      subst q1; subst q2; subst q3
      exact ⟨cs', hn, hsz⟩
    · exact ⟨c1, (ho b he).trans h1, rfl⟩⟩
  refine ⟨⟨fun s' blk' hs' => ?_, fun s1 s2 l1 l2 h1 h2 e1 e2 hbb => ?_, fun b hb => by have := H.lt b hb; omega, by have := H.big; omega⟩, ⟨fun _ h => h, hE, hbel, BtLe.refl _, fun _ _ hx => .inl hx, fun _ h => .inl h⟩⟩
  · by_cases he : s' = s0
    · subst he
      rw [upd_same] at hs'
      injection hs' with hs'; subst hs'
      exact ⟨l', cs', e, fr, hl, hn, by rw [hsz]; exact k3, k4, k5, hin hE⟩
    · rw [upd_other _ _ he] at hs'
      obtain ⟨l2, cs2, e2, fr2, j1, j2, j3, j4, j5, j6⟩ := H.own s' blk' hs'
      have hne : l2.blk ≠ l'.blk := fun q => he (H.inj s' s0 l2 l' (by rw [hs']; simp) (by rw [hs]; simp) j1 hl q)
      exact ⟨l2, cs2, e2, fr2, j1, (ho _ hne).trans j2, j3, j4, j5, j6.mono (fun _ h => h) hE (BtLe.refl _)⟩
  · have old : ∀ s1, upd h s0 (some blk) s1 ≠ none → h s1 ≠ none := fun s1 h1 => by
      by_cases he : s1 = s0
      · rw [he, hs]; simp
      · rwa [upd_other _ _ he] at h1
    exact H.inj s1 s2 l1 l2 (old s1 h1) (old s2 h2) e1 e2 hbb

/-- A stored row of cells. -/
theorem setCells_heap (b : Nat) : ∀ (vs : List Value) (o : Nat) (w : World) (cs : Array Value) (e : TypeId) (fr : Nat × Nat), w.heap[b]? = some (.cells cs e fr) → o + vs.length ≤ cs.size →
    ∃ cs' : Array Value, (w.setCells b o vs).heap[b]? = some (.cells cs' e fr) ∧ cs'.size = cs.size ∧ (∀ k, cs'[k]? = if o ≤ k ∧ k < o + vs.length then vs[k - o]? else cs[k]?) ∧
      (w.setCells b o vs).heap.size = w.heap.size ∧ ∀ x, x ≠ b → (w.setCells b o vs).heap[x]? = w.heap[x]?
  | [], o, w, cs, e, fr, hb, _ => ⟨cs, hb, rfl, fun k => by rw [if_neg (by simp)], rfl, fun _ _ => rfl⟩
  | v :: vs, o, w, cs, e, fr, hb, hl => by
    simp only [List.length_cons] at hl
    have h1 : (w.setCell ⟨b, o, none⟩ v).heap[b]? = some (.cells (cs.setIfInBounds o v) e fr) := by
      simp only [World.setCell, Array.getElem?_modify, if_true, hb, Option.map_some, Option.isSome_none, Bool.false_eq_true, if_false]
    obtain ⟨cs', a1, a2, a3, a4, a5⟩ := setCells_heap b vs (o + 1) (w.setCell ⟨b, o, none⟩ v) (cs.setIfInBounds o v) e fr h1 (by simp; omega)
    refine ⟨cs', by rw [World.setCells]; exact a1, by rw [a2]; simp, fun k => ?_, by rw [World.setCells]; exact a4.trans (by simp [World.setCell]), fun x hx => by rw [World.setCells, a5 x hx, Below.heap_setCell _ _ _ _ hx]⟩
    rw [a3 k]
    simp only [List.length_cons]
    by_cases hk : k = o
    · subst hk
      rw [if_neg (by omega), if_pos (by omega), Nat.sub_self, List.getElem?_cons_zero, Array.getElem?_setIfInBounds_self_of_lt (by omega)]
    · by_cases hk2 : o + 1 ≤ k ∧ k < o + 1 + vs.length
      · rw [if_pos hk2, if_pos (by omega), show k - o = (k - (o + 1)) + 1 by omega, List.getElem?_cons_succ]
      · rw [if_neg hk2, if_neg (by omega), Array.getElem?_setIfInBounds_ne (by omega)]

theorem below_setCells {b : Nat} (hb : B ≤ b) : ∀ (vs : List Value) (o : Nat) (w : World), Below B w (w.setCells b o vs)
  | [], _, w => Below.refl _ _
  | v :: vs, o, w => by
    rw [World.setCells]
    exact ((Below.refl B w).setCell (p := ⟨b, o, none⟩) hb v).trans (below_setCells hb vs (o + 1) _)

theorem store_run (hC : CtxOk C) {t : TypeId} {ti : TI} (ht : C.ty t = some ti) {v : Value} {vs : List Value} (hv : v.cells.toList = vs) (hl : vs.length = ti.sz) (h1 : ∀ (i : Nat) u, vs[i]? = some u → u.oneCell' = true) {b o : Nat} {cs : Array Value} {e : TypeId} {fr : Nat × Nat}
    (hb : w.heap[b]? = some (.cells cs e fr)) (hfr : ∀ o, o < cs.size → (decide (fr.1 ≤ o) && decide (o < fr.2)) = false) (hroom : o + vs.length ≤ cs.size) :
    (Instr.storeAt t (.pointer (some ⟨b, o, none⟩)) v).run C.P w = .ok () (w.setCells b o vs) := by
  obtain ⟨inf, z, hi, hsz, _⟩ := (hC.ty t _ ht).info
  have hs := run_storeCells_cells (P := C.P) b o vs 0 w (fun j hj => by rw [cell_of_cells hb, Array.getElem?_eq_getElem (by omega)]; rfl) (fun j hj => frozen_of_cells hb hfr _ (by omega)) (fun u hu => by
    obtain ⟨i, hi, rfl⟩ := List.getElem_of_mem hu
    exact h1 i _ (List.getElem?_eq_getElem hi))
  simp only [Nat.add_zero] at hs
  have hn : v.cells.size = ti.sz := by rw [← hl, ← hv]; simp
  simp only [Instr.storeAt, Instr.sureAddr, Sem.run_bind, Sem.run_pure, Result.andThen_ok, storeVar, sizeOf, typeInfo, program, Sem.run, hi, hsz, hn, ne_eq, not_true_eq_false, if_false, hv, hs]

/-- The cells of a part of a block, stored anew. -/
theorem store_in (H : SimH B S w β h) {s0 : Nat} {blk0 : Blk} {l : Loc} (hs : h s0 = some blk0) (hl : β s0 = some l) {cs : Array Value} {e : TypeId} {fr : Nat × Nat} (hb : w.heap[l.blk]? = some (.cells cs e fr)) (hBl : B ≤ l.blk)
    (vs : List Value) (o : Nat) (hroom : o + vs.length ≤ cs.size) {blk : Blk}
    (hin : ∀ (w' : World) (cs' : Array Value), Evo S w w' → (∀ k, cs'[k]? = if o ≤ k ∧ k < o + vs.length then vs[k - o]? else cs[k]?) → InBlk S w' β l cs' blk) :
    SimH B S (w.setCells l.blk o vs) β (upd h s0 (some blk)) ∧ StepK B S w β s S (w.setCells l.blk o vs) β := by
  obtain ⟨cs', a1, a2, a3, a4, a5⟩ := setCells_heap l.blk vs o w cs e fr hb hroom
  exact simH_mod H hs hl hb a5 a1 a2 a4 (below_setCells hBl vs o w) fun hE => hin _ _ hE a3

theorem storeBox_ok (hC : CtxOk C) (H : SimH B S w β h) {t : TypeId} {ti : TI} {b c : Nat} {x : AV} {va vx : Value} {cs cells : List AV} (ht : C.ty t = some ti) (hcs : cellsA x = some cs) (hl : cs.length = ti.sz) (hb : h b = some (.box cells)) (hroom : c + cs.length ≤ cells.length)
    (ha : Rep S w β (.ptr b c) va) (hx : Rep S w β x vx) : Post B S w β s ((do Instr.storeAt t va vx; pure .skip : Sem Next).run C.P w) .any (upd h b (some (.box (putL c cs cells)))) := by
  have hpos : 0 < cs.length := by rw [hl]; exact ((hC.ty t _ ht).info).elim fun _ h => h.elim fun _ h => h.2.2.2.2.2.2.1
  have CX := cellsA_rep hx hcs
  have hlen := CX.rep.1
  cases ha with
  | ptr _ _ l hbl =>
  obtain ⟨l', ds, e, fr, k1, k2, k3, k4, k5, k6⟩ := H.own b _ hb
  obtain rfl : l' = l := by rw [hbl] at k1; exact (Option.some.inj k1).symm
  have hfit : l'.base + c + vx.cells.toList.length ≤ ds.size := by
    rw [← hlen]
    obtain ⟨u, hu, _⟩ := k6 (c + cs.length - 1) _ (List.getElem?_eq_getElem (by omega))
    have := (Array.getElem?_eq_some_iff.1 hu).1
    omega
  have run := store_run hC ht rfl (by rw [← hlen, hl]) CX.one k2 k3 hfit
  obtain ⟨p1, p2⟩ := store_in (s := s) H hb hbl k2 k4 vx.cells.toList (l'.base + c) hfit (blk := .box (putL c cs cells)) (fun w' cs' hE hget j a hj => by
    rw [putL_get _ _ _ _ hroom] at hj
    split at hj
    · rename_i hc
      have hlt : j - c < vx.cells.toList.length := by omega
      refine ⟨vx.cells.toList[j - c], ?_, CX.one (j - c) _ (List.getElem?_eq_getElem hlt), (CX.rep.2 (j - c) a _ hj (List.getElem?_eq_getElem hlt)).mono (fun _ h => h) hE (BtLe.refl _)⟩
      rw [hget, if_pos (by omega), show l'.base + j - (l'.base + c) = j - c by omega, List.getElem?_eq_getElem hlt]
    · rename_i hc
      obtain ⟨u, q1, q2, q3⟩ := k6 j a hj
      exact ⟨u, by rw [hget, if_neg (by omega)]; exact q1, q2, q3.mono (fun _ h => h) hE (BtLe.refl _)⟩)
  exact ⟨undef, _, S, β, .inr ⟨by simp only [Sem.run_bind, run, Result.andThen_ok, Sem.run_pure], rfl⟩, .any _, p1, p2⟩

theorem set_get {α : Type} (l : List α) (i j : Nat) (x : α) : (l.set i x)[j]? = if i = j ∧ i < l.length then some x else l[j]? := by
  rw [List.getElem?_set]
  by_cases h : i = j
  · subst h
    by_cases h2 : i < l.length
    · simp [h2]
    · simp [h2, List.getElem?_eq_none (Nat.le_of_not_lt h2)]
  · simp [h]

theorem storeArr_ok (hC : CtxOk C) (H : SimH B S w β h) {t : TypeId} {ti : TI} {b r c : Nat} {x : AV} {va vx : Value} {cs row : List AV} {rows : List (List AV)} {rs : Nat} (ht : C.ty t = some ti) (hcs : cellsA x = some cs) (hl : cs.length = ti.sz) (hb : h b = some (.arr rows rs)) (hrow : rows[r]? = some row) (hroom : c + cs.length ≤ row.length) (hcl : closedL cs = true)
    (ha : Rep S w β (.ptr2 b r c) va) (hx : Rep S w β x vx) : Post B S w β s ((do Instr.storeAt t va vx; pure .skip : Sem Next).run C.P w) .any (upd h b (some (.arr (rows.set r (putL c cs row)) rs))) := by
  have hpos : 0 < cs.length := by rw [hl]; exact ((hC.ty t _ ht).info).elim fun _ h => h.elim fun _ h => h.2.2.2.2.2.2.1
  have CX := cellsA_rep hx hcs
  have hlen := CX.rep.1
  cases ha with
  | ptr2 _ _ _ l hbl =>
  obtain ⟨l', ds, e, fr, k1, k2, k3, k4, k5, k6, k7, k8⟩ := H.own b _ hb
  obtain rfl : l' = l := by rw [hbl] at k1; exact (Option.some.inj k1).symm
  subst k6
  have hrl : row.length = l'.rs := k7 row (List.mem_of_getElem? hrow)
  have hrlt : r < rows.length := (List.getElem?_eq_some_iff.1 hrow).1
  have hfit : l'.base + r * l'.rs + c + vx.cells.toList.length ≤ ds.size := by
    rw [← hlen]
    obtain ⟨u, hu, _⟩ := k8 r row (c + cs.length - 1) _ hrow (List.getElem?_eq_getElem (by omega))
    have := (Array.getElem?_eq_some_iff.1 hu).1
    omega
  have run := store_run hC ht rfl (by rw [← hlen, hl]) CX.one k2 k3 hfit
  obtain ⟨p1, p2⟩ := store_in (s := s) H hb hbl k2 k4 vx.cells.toList (l'.base + r * l'.rs + c) hfit (blk := .arr (rows.set r (putL c cs row)) l'.rs) (fun w' cs' hE hget => by
    refine ⟨rfl, fun row' hr' => ?_, fun i row' j a hi hj => ?_⟩
    · rcases List.mem_or_eq_of_mem_set hr' with h | h
      · exact k7 _ h
      · rw [h, putL_length _ _ _ hroom]; exact hrl
    · rw [set_get] at hi
      split at hi
      · rename_i hri
        obtain ⟨rfl, _⟩ := hri
        injection hi with hi; subst hi
        rw [putL_get _ _ _ _ hroom] at hj
        split at hj
        · rename_i hc
          have hlt : j - c < vx.cells.toList.length := by omega
          refine ⟨vx.cells.toList[j - c], ?_, CX.one (j - c) _ (List.getElem?_eq_getElem hlt), closed_rep ((CX.rep.2 (j - c) a _ hj (List.getElem?_eq_getElem hlt)).mono (fun _ h => h) hE (BtLe.refl _)) (closedL_get cs hcl _ a hj) _⟩
          rw [hget, if_pos (by omega), show l'.base + r * l'.rs + j - (l'.base + r * l'.rs + c) = j - c by omega, List.getElem?_eq_getElem hlt]
        · rename_i hc
          obtain ⟨u, q1, q2, q3⟩ := k8 r row j a hrow hj
          exact ⟨u, by rw [hget, if_neg (by omega)]; exact q1, q2, q3.mono (fun _ h => h) hE (BtLe.refl _)⟩
      · rename_i hri
        obtain ⟨u, q1, q2, q3⟩ := k8 i row' j a hi hj
        have hne : i ≠ r := fun e => hri ⟨e.symm, hrlt⟩
        have hjl : j < l'.rs := by rw [← k7 row' (List.mem_of_getElem? hi)]; exact (List.getElem?_eq_some_iff.1 hj).1
        refine ⟨u, ?_, q2, q3.mono (fun _ h => h) hE (BtLe.refl _)⟩
        rw [hget, if_neg ?_]
        · exact q1
        · rintro ⟨g1, g2⟩
          rcases Nat.lt_or_gt_of_ne hne with hlt | hlt
          · have : (i + 1) * l'.rs ≤ r * l'.rs := Nat.mul_le_mul_right _ hlt
            rw [Nat.add_mul] at this
            omega
          · have : (r + 1) * l'.rs ≤ i * l'.rs := Nat.mul_le_mul_right _ hlt
            rw [Nat.add_mul] at this
            omega)
  exact ⟨undef, _, S, β, .inr ⟨by simp only [Sem.run_bind, run, Result.andThen_ok, Sem.run_pure], rfl⟩, .any _, p1, p2⟩

/-- A variable of one's own, made and filled. -/
theorem box_ok (H : SimH B S w β h) (hs : β s = none) (t : TypeId) {x : AV} {v : Value} {cs : List AV} (hx : Rep S w β x v) (hcs : cellsA x = some cs) :
    Post B S w β s ((do pure (.value (← Instr.box t v)) : Sem Next).run C.P w) (.ptr s 0) (upd h s (some (.box cs))) := by
  have CX := cellsA_rep hx hcs
  have hw : (w.alloc (.cells v.cells t)).heap = w.heap.push (.cells v.cells t) := rfl
  have hle : BtLe β (upd β s (some ⟨w.heap.size, 0, 0⟩)) := BtLe.upd hs _
  have hE : Evo S w (w.alloc (.cells v.cells t)) := Evo.of_kept (fun b hb => heap_push_old hw hb) H.lt
  obtain ⟨p1, p2⟩ := simH_alloc H hs hw (fun o _ => by simp) ((Below.refl B w).alloc H.big _) (l := ⟨w.heap.size, 0, 0⟩) (blk := .box cs) rfl (fun j a hj => by
    have hlt : j < v.cells.toList.length := by rw [← CX.rep.1]; exact (List.getElem?_eq_some_iff.1 hj).1
    refine ⟨v.cells.toList[j], by rw [Nat.zero_add, ← Array.getElem?_toList, List.getElem?_eq_getElem hlt], CX.one j _ (List.getElem?_eq_getElem hlt), (CX.rep.2 j a _ hj (List.getElem?_eq_getElem hlt)).mono (fun _ h => h) hE hle⟩)
  refine ⟨.pointer (some ⟨w.heap.size, 0, none⟩), _, S, _, .inl ?_, ?_, p1, p2⟩
  · rfl
  · exact .ptr s 0 ⟨w.heap.size, 0, 0⟩ (upd_same _ _ _)

theorem alloc_ok (hC : CtxOk C) (H : SimH B S w β h) (hs : β s = none) (t : TypeId) {i : TI} {cs : List AV} (ht : C.ty t = some i) (hcs : cellsA i.zero = some cs) :
    Post B S w β s ((do pure (.value (← Instr.alloc t true (.tuple #[]))) : Sem Next).run C.P w) (.ptr s 0) (upd h s (some (.box cs))) := by
  obtain ⟨inf, z, h1, h2, h3, h4, h5, _⟩ := (hC.ty t _ ht).info
  have hz : (zeroValue t).run C.P w = .ok z w := by simp only [zeroValue, typeInfo, program, Sem.run_bind, Sem.run, h1, Sem.run_pure, Result.andThen_ok, h4]
  obtain ⟨v, w', S', β', r1, r2⟩ := box_ok (C := C) (s := s) H hs t (absV_rep z) (by rw [← h5]; exact hcs)
  refine ⟨v, w', S', β', ?_, r2⟩
  rw [← r1.elim (fun h => h) (fun h => by have := h.1; simp [Instr.box, newVar, newRow, newObj, Sem.run] at this)]
  refine .inl ?_
  simp only [Instr.alloc, Sem.run_bind, hz, Result.andThen_ok, Instr.box]
end
end Go.Proofs.Ytckjihpdjefpgaa
