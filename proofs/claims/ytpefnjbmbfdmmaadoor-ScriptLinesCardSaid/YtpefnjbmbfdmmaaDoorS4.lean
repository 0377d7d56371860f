/- Joined texts. -/
import Derived.Laws.BytesString
import Derived.Laws.IdiomStrings
import Derived.Test.YtpefnjbmbfdmmaaDoorS3
namespace Go.Proofs.YtpefnjbmbfdmmaaDoor
open Go.RowKit
def Post (B : Nat) (S : Nat → Prop) (w : World) (β : Bt) (s : Nat) (r : Result Next) (x : AV) (h' : AH) : Prop :=
  ∃ v w' S' β', (r = .ok (.value v) w' ∨ (r = .ok .skip w' ∧ v = undef)) ∧ Rep S' w' β' x v ∧ SimH B S' w' β' h' ∧ StepK B S w β s S' w' β'
section
variable {C : Ctx} {S : Nat → Prop} {w w' : World} {β : Bt} {B : Nat} {h : AH} {s : Nat}
theorem StepK.refl (B : Nat) (S : Nat → Prop) (w : World) (β : Bt) (s : Nat) : StepK B S w β s S w β := ⟨fun _ h => h, Evo.refl _ _, Below.refl _ _, BtLe.refl _, fun _ _ h => .inl h, fun _ h => .inl h, fun _ _ _ => rfl⟩
theorem Post.of_yld {P : Program} {x : AV} {r : Sem Value} (H : SimH B S w β h) (hy : Yld P S w β x r) : Post B S w β s ((do pure (.value (← r)) : Sem Next).run P w) x h := by
  obtain ⟨v, h1, h2⟩ := hy
  exact ⟨v, w, S, β, .inl (by simp only [Sem.run_bind, h1, Result.andThen_ok, Sem.run_pure]), h2, H, StepK.refl _ _ _ _ _⟩
theorem upd_same {α : Type} (f : Nat → α) (i : Nat) (x : α) : upd f i x i = x := by unfold upd; rw [show Nat.beq i i = true from Nat.beq_refl i]
theorem upd_other {α : Type} (f : Nat → α) {i j : Nat} (x : α) (hn : j ≠ i) : upd f i x j = f j := by
  unfold upd
  have : Nat.beq j i = false := by rw [← Bool.not_eq_true]; exact fun e => hn (Nat.eq_of_beq_eq_true e)
  rw [this]
theorem BtLe.upd (hs : β s = none) (l : Loc) : BtLe β (upd β s (some l)) := fun x k hx => by
  rw [upd_other _ _ (fun e => by rw [e, hs] at hx; cases hx)]; exact hx
theorem heap_push_old {o : Obj} (hw : w'.heap = w.heap.push o) {b : Nat} (hb : b < w.heap.size) : w'.heap[b]? = w.heap[b]? := by rw [hw, Array.getElem?_push, if_neg (by omega)]
theorem heap_push_new {o : Obj} (hw : w'.heap = w.heap.push o) : w'.heap[w.heap.size]? = some o := by rw [hw, Array.getElem?_push, if_pos rfl]
theorem simH_alloc (H : SimH B S w β h) (hs : β s = none) {cs : Array Value} {e : TypeId} {fr : Nat × Nat} (hw : w'.heap = w.heap.push (.cells cs e fr)) (hfr : ∀ o, o < cs.size → (decide (fr.1 ≤ o) && decide (o < fr.2)) = false) (hbel : Below B w w') {blk : Blk} {l : Loc} (hl : l.blk = w.heap.size)
    (hin : InBlk S w' (upd β s (some l)) l cs blk) : SimH B S w' (upd β s (some l)) (upd h s (some blk)) ∧ StepK B S w β s S w' (upd β s (some l)) := by
  have hE : Evo S w w' := Evo.of_kept (fun b hb => heap_push_old hw hb) H.lt
  have hle : BtLe β (upd β s (some l)) := BtLe.upd hs l
  have hsz : w'.heap.size = w.heap.size + 1 := by rw [hw]; simp
  refine ⟨⟨fun s' blk' hs' => ?_, fun s1 s2 l1 l2 h1 h2 e1 e2 hb => ?_, fun b hb => by have := H.lt b hb; omega, by have := H.big; omega⟩, ⟨fun _ h => h, hE, hbel, hle, fun x k hx => ?_, fun _ h => .inl h, fun b hb _ => heap_push_old hw hb⟩⟩
  · by_cases he : s' = s
    · subst he
      rw [upd_same] at hs'
      injection hs' with hs'; subst hs'
      refine ⟨l, cs, e, fr, upd_same _ _ _, by rw [hl]; exact heap_push_new hw, hfr, by rw [hl]; exact H.big, fun hb => ?_, hin⟩
      have := H.lt _ hb
      omega
    · rw [upd_other _ _ he] at hs'
      obtain ⟨l', cs', e', fr', k1, k2, k3, k4, k5, k6⟩ := H.own s' blk' hs'
      exact ⟨l', cs', e', fr', hle _ _ k1, (heap_push_old hw (lt_of_heap k2)).trans k2, k3, k4, k5, k6.mono (fun _ h => h) hE hle⟩
  · have old : ∀ s1 l1, s1 ≠ s → upd h s (some blk) s1 ≠ none → upd β s (some l) s1 = some l1 → l1.blk < w.heap.size ∧ h s1 ≠ none ∧ β s1 = some l1 := by
      intro s1 l1 hn h1 e1
      rw [upd_other _ _ hn] at h1 e1
      obtain ⟨blk1, hb1⟩ : ∃ b, h s1 = some b := by
        cases hq : h s1 with
        | none => exact absurd hq h1
        | some b => exact ⟨b, rfl⟩
      obtain ⟨l', cs', e', fr', k1, k2, _⟩ := H.own s1 blk1 hb1
      obtain rfl : l1 = l' := by rw [e1] at k1; exact Option.some.inj k1
      exact ⟨lt_of_heap k2, h1, e1⟩
    by_cases n1 : s1 = s
    · by_cases n2 : s2 = s
      · rw [n1, n2]
      · subst n1
        rw [upd_same] at e1
        injection e1 with e1; subst e1
        have := (old s2 l2 n2 h2 e2).1
        omega
    · by_cases n2 : s2 = s
      · subst n2
        rw [upd_same] at e2
        injection e2 with e2; subst e2
        have := (old s1 l1 n1 h1 e1).1
        omega
      · obtain ⟨_, a1, a2⟩ := old s1 l1 n1 h1 e1
        obtain ⟨_, b1, b2⟩ := old s2 l2 n2 h2 e2
        exact H.inj s1 s2 l1 l2 a1 b1 a2 b2 hb
  · by_cases he : x = s
    · refine .inr ⟨he, .inl ?_⟩
      subst he
      rw [upd_same] at hx
      injection hx with hx; subst hx
      rw [hl]; exact Nat.le_refl _
    · rw [upd_other _ _ he] at hx; exact .inl hx
theorem simH_mod (H : SimH B S w β h) {s0 : Nat} {blk0 : Blk} {l : Loc} (hs : h s0 = some blk0) (hl : β s0 = some l) {cs cs' : Array Value} {e : TypeId} {fr : Nat × Nat} (hb : w.heap[l.blk]? = some (.cells cs e fr))
    (ho : ∀ b, b ≠ l.blk → w'.heap[b]? = w.heap[b]?) (hn : w'.heap[l.blk]? = some (.cells cs' e fr)) (hsz : cs'.size = cs.size) (hws : w'.heap.size = w.heap.size) (hbel : Below B w w') {blk : Blk} (hin : Evo S w w' → InBlk S w' β l cs' blk) :
    SimH B S w' β (upd h s0 (some blk)) ∧ StepK B S w β s S w' β := by
  obtain ⟨l', cs0, e', fr', k1, k2, k3, k4, k5, k6⟩ := H.own s0 blk0 hs
  obtain rfl : l' = l := by rw [hl] at k1; exact (Option.some.inj k1).symm
  rw [hb] at k2
  injection k2 with k2; injection k2 with q1 q2 q3
  subst q1; subst q2; subst q3
  have hE : Evo S w w' := ⟨fun b hSb => ho b (fun e => k5 (e ▸ hSb)), fun b c1 e1 f1 h1 => by
    by_cases he : b = l'.blk
    · subst he
      rw [hb] at h1
      injection h1 with h1; injection h1 with q1 q2 q3
      subst q1; subst q2; subst q3
      exact ⟨cs', hn, hsz⟩
    · exact ⟨c1, (ho b he).trans h1, rfl⟩⟩
  refine ⟨⟨fun s' blk' hs' => ?_, fun s1 s2 l1 l2 h1 h2 e1 e2 hbb => ?_, fun b hb => by have := H.lt b hb; omega, by have := H.big; omega⟩, ⟨fun _ h => h, hE, hbel, BtLe.refl _, fun _ _ hx => .inl hx, fun _ h => .inl h, fun b _ hne => ho b (fun e => hne s0 l' hl e.symm)⟩⟩
  · by_cases he : s' = s0
    · subst he
      rw [upd_same] at hs'
      injection hs' with hs'; subst hs'
      exact ⟨l', cs', e, fr, hl, hn, by rw [hsz]; exact k3, k4, k5, hin hE⟩
    · rw [upd_other _ _ he] at hs'
      obtain ⟨l2, cs2, e2, fr2, j1, j2, j3, j4, j5, j6⟩ := H.own s' blk' hs'
      have hne : l2.blk ≠ l'.blk := fun q => he (H.inj s' s0 l2 l' (by rw [hs']; simp) (by rw [hs]; simp) j1 hl q)
      exact ⟨l2, cs2, e2, fr2, j1, (ho _ hne).trans j2, j3, j4, j5, j6.mono (fun _ h => h) hE (BtLe.refl _)⟩
  · have old : ∀ s1, upd h s0 (some blk) s1 ≠ none → h s1 ≠ none := fun s1 h1 => by
      by_cases he : s1 = s0
      · rw [he, hs]; simp
      · rwa [upd_other _ _ he] at h1
    exact H.inj s1 s2 l1 l2 (old s1 h1) (old s2 h2) e1 e2 hbb
theorem setCells_heap (b : Nat) : ∀ (vs : List Value) (o : Nat) (w : World) (cs : Array Value) (e : TypeId) (fr : Nat × Nat), w.heap[b]? = some (.cells cs e fr) → o + vs.length ≤ cs.size →
    ∃ cs' : Array Value, (w.setCells b o vs).heap[b]? = some (.cells cs' e fr) ∧ cs'.size = cs.size ∧ (∀ k, cs'[k]? = if o ≤ k ∧ k < o + vs.length then vs[k - o]? else cs[k]?) ∧
      (w.setCells b o vs).heap.size = w.heap.size ∧ ∀ x, x ≠ b → (w.setCells b o vs).heap[x]? = w.heap[x]?
  | [], o, w, cs, e, fr, hb, _ => ⟨cs, hb, rfl, fun k => by rw [if_neg (by simp)], rfl, fun _ _ => rfl⟩
  | v :: vs, o, w, cs, e, fr, hb, hl => by
    simp only [List.length_cons] at hl
    have h1 : (w.setCell ⟨b, o, none⟩ v).heap[b]? = some (.cells (cs.setIfInBounds o v) e fr) := by
      simp only [World.setCell, Array.getElem?_modify, if_true, hb, Option.map_some, Option.isSome_none, Bool.false_eq_true, if_false]
    obtain ⟨cs', a1, a2, a3, a4, a5⟩ := setCells_heap b vs (o + 1) (w.setCell ⟨b, o, none⟩ v) (cs.setIfInBounds o v) e fr h1 (by simp; omega)
    refine ⟨cs', by rw [World.setCells]; exact a1, by rw [a2]; simp, fun k => ?_, by rw [World.setCells]; exact a4.trans (by simp [World.setCell]), fun x hx => by rw [World.setCells, a5 x hx, Below.heap_setCell _ _ _ _ hx]⟩
    rw [a3 k]
    simp only [List.length_cons]
    by_cases hk : k = o
    · subst hk
      rw [if_neg (by omega), if_pos (by omega), Nat.sub_self, List.getElem?_cons_zero, Array.getElem?_setIfInBounds_self_of_lt (by omega)]
    · by_cases hk2 : o + 1 ≤ k ∧ k < o + 1 + vs.length
      · rw [if_pos hk2, if_pos (by omega), show k - o = (k - (o + 1)) + 1 by omega, List.getElem?_cons_succ]
      · rw [if_neg hk2, if_neg (by omega), Array.getElem?_setIfInBounds_ne (by omega)]
theorem below_setCells {b : Nat} (hb : B ≤ b) : ∀ (vs : List Value) (o : Nat) (w : World), Below B w (w.setCells b o vs)
  | [], _, w => Below.refl _ _
  | v :: vs, o, w => by
    rw [World.setCells]
    exact ((Below.refl B w).setCell (p := ⟨b, o, none⟩) hb v).trans (below_setCells hb vs (o + 1) _)
theorem store_run (hC : CtxOk C) {t : TypeId} {ti : TI} (ht : C.ty t = some ti) {v : Value} {vs : List Value} (hv : v.cells.toList = vs) (hl : vs.length = ti.sz) (h1 : ∀ (i : Nat) u, vs[i]? = some u → u.oneCell' = true) {b o : Nat} {cs : Array Value} {e : TypeId} {fr : Nat × Nat}
    (hb : w.heap[b]? = some (.cells cs e fr)) (hfr : ∀ o, o < cs.size → (decide (fr.1 ≤ o) && decide (o < fr.2)) = false) (hroom : o + vs.length ≤ cs.size) :
    (Instr.storeAt t (.pointer (some ⟨b, o, none⟩)) v).run C.P w = .ok () (w.setCells b o vs) := by
  obtain ⟨inf, z, hi, hsz, _⟩ := (hC.ty t _ ht).info
  have hs := run_storeCells_cells (P := C.P) b o vs 0 w (fun j hj => by rw [cell_of_cells hb, Array.getElem?_eq_getElem (by omega)]; rfl) (fun j hj => frozen_of_cells hb hfr _ (by omega)) (fun u hu => by
    obtain ⟨i, hi, rfl⟩ := List.getElem_of_mem hu
    exact h1 i _ (List.getElem?_eq_getElem hi))
  simp only [Nat.add_zero] at hs
  have hn : v.cells.size = ti.sz := by rw [← hl, ← hv]; simp
  simp only [Instr.storeAt, Instr.sureAddr, Sem.run_bind, Sem.run_pure, Result.andThen_ok, storeVar, sizeOf, typeInfo, program, Sem.run, hi, hsz, hn, ne_eq, not_true_eq_false, if_false, hv, hs]
theorem store_in (H : SimH B S w β h) {s0 : Nat} {blk0 : Blk} {l : Loc} (hs : h s0 = some blk0) (hl : β s0 = some l) {cs : Array Value} {e : TypeId} {fr : Nat × Nat} (hb : w.heap[l.blk]? = some (.cells cs e fr)) (hBl : B ≤ l.blk)
    (vs : List Value) (o : Nat) (hroom : o + vs.length ≤ cs.size) {blk : Blk}
    (hin : ∀ (w' : World) (cs' : Array Value), Evo S w w' → (∀ k, cs'[k]? = if o ≤ k ∧ k < o + vs.length then vs[k - o]? else cs[k]?) → InBlk S w' β l cs' blk) :
    SimH B S (w.setCells l.blk o vs) β (upd h s0 (some blk)) ∧ StepK B S w β s S (w.setCells l.blk o vs) β := by
  obtain ⟨cs', a1, a2, a3, a4, a5⟩ := setCells_heap l.blk vs o w cs e fr hb hroom
  exact simH_mod H hs hl hb a5 a1 a2 a4 (below_setCells hBl vs o w) fun hE => hin _ _ hE a3
theorem storeBox_ok (hC : CtxOk C) (H : SimH B S w β h) {t : TypeId} {ti : TI} {b c : Nat} {x : AV} {va vx : Value} {cs cells : List AV} (ht : C.ty t = some ti) (hcs : cellsA x = some cs) (hl : cs.length = ti.sz) (hb : h b = some (.box cells)) (hroom : c + cs.length ≤ cells.length)
    (ha : Rep S w β (.ptr b c) va) (hx : Rep S w β x vx) : Post B S w β s ((do Instr.storeAt t va vx; pure .skip : Sem Next).run C.P w) .any (upd h b (some (.box (putL c cs cells)))) := by
  have hpos : 0 < cs.length := by rw [hl]; exact ((hC.ty t _ ht).info).elim fun _ h => h.elim fun _ h => h.2.2.2.2.2.2.1
  have CX := cellsA_rep hx hcs
  have hlen := CX.rep.1
  cases ha with
  | ptr _ _ l hbl =>
  obtain ⟨l', ds, e, fr, k1, k2, k3, k4, k5, k6⟩ := H.own b _ hb
  obtain rfl : l' = l := by rw [hbl] at k1; exact (Option.some.inj k1).symm
  have hfit : l'.base + c + vx.cells.toList.length ≤ ds.size := by
    rw [← hlen]
    obtain ⟨u, hu, _⟩ := k6 (c + cs.length - 1) _ (List.getElem?_eq_getElem (by omega))
    have := (Array.getElem?_eq_some_iff.1 hu).1
    omega
  have run := store_run hC ht rfl (by rw [← hlen, hl]) CX.one k2 k3 hfit
  obtain ⟨p1, p2⟩ := store_in (s := s) H hb hbl k2 k4 vx.cells.toList (l'.base + c) hfit (blk := .box (putL c cs cells)) (fun w' cs' hE hget j a hj => by
    rw [putL_get _ _ _ _ hroom] at hj
    split at hj
    · rename_i hc
      have hlt : j - c < vx.cells.toList.length := by omega
      refine ⟨vx.cells.toList[j - c], ?_, CX.one (j - c) _ (List.getElem?_eq_getElem hlt), (CX.rep.2 (j - c) a _ hj (List.getElem?_eq_getElem hlt)).mono (fun _ h => h) hE (BtLe.refl _)⟩
      rw [hget, if_pos (by omega), show l'.base + j - (l'.base + c) = j - c by omega, List.getElem?_eq_getElem hlt]
    · rename_i hc
      obtain ⟨u, q1, q2, q3⟩ := k6 j a hj
      exact ⟨u, by rw [hget, if_neg (by omega)]; exact q1, q2, q3.mono (fun _ h => h) hE (BtLe.refl _)⟩)
  exact ⟨undef, _, S, β, .inr ⟨by simp only [Sem.run_bind, run, Result.andThen_ok, Sem.run_pure], rfl⟩, .any _, p1, p2⟩
theorem set_get {α : Type} (l : List α) (i j : Nat) (x : α) : (l.set i x)[j]? = if i = j ∧ i < l.length then some x else l[j]? := by
  rw [List.getElem?_set]
  by_cases h : i = j
  · subst h
    by_cases h2 : i < l.length
    · simp [h2]
    · simp [h2, List.getElem?_eq_none (Nat.le_of_not_lt h2)]
  · simp [h]
theorem storeArr_ok (hC : CtxOk C) (H : SimH B S w β h) {t : TypeId} {ti : TI} {b r c : Nat} {x : AV} {va vx : Value} {cs row : List AV} {rows : List (List AV)} {rs : Nat} (ht : C.ty t = some ti) (hcs : cellsA x = some cs) (hl : cs.length = ti.sz) (hb : h b = some (.arr rows rs)) (hrow : rows[r]? = some row) (hroom : c + cs.length ≤ row.length) (hcl : closedL cs = true)
    (ha : Rep S w β (.ptr2 b r c) va) (hx : Rep S w β x vx) : Post B S w β s ((do Instr.storeAt t va vx; pure .skip : Sem Next).run C.P w) .any (upd h b (some (.arr (rows.set r (putL c cs row)) rs))) := by
  have hpos : 0 < cs.length := by rw [hl]; exact ((hC.ty t _ ht).info).elim fun _ h => h.elim fun _ h => h.2.2.2.2.2.2.1
  have CX := cellsA_rep hx hcs
  have hlen := CX.rep.1
  cases ha with
  | ptr2 _ _ _ l hbl =>
  obtain ⟨l', ds, e, fr, k1, k2, k3, k4, k5, k6, k7, k8⟩ := H.own b _ hb
  obtain rfl : l' = l := by rw [hbl] at k1; exact (Option.some.inj k1).symm
  subst k6
  have hrl : row.length = l'.rs := k7 row (List.mem_of_getElem? hrow)
  have hrlt : r < rows.length := (List.getElem?_eq_some_iff.1 hrow).1
  have hfit : l'.base + r * l'.rs + c + vx.cells.toList.length ≤ ds.size := by
    rw [← hlen]
    obtain ⟨u, hu, _⟩ := k8 r row (c + cs.length - 1) _ hrow (List.getElem?_eq_getElem (by omega))
    have := (Array.getElem?_eq_some_iff.1 hu).1
    omega
  have run := store_run hC ht rfl (by rw [← hlen, hl]) CX.one k2 k3 hfit
  obtain ⟨p1, p2⟩ := store_in (s := s) H hb hbl k2 k4 vx.cells.toList (l'.base + r * l'.rs + c) hfit (blk := .arr (rows.set r (putL c cs row)) l'.rs) (fun w' cs' hE hget => by
    refine ⟨rfl, fun row' hr' => ?_, fun i row' j a hi hj => ?_⟩
    · rcases List.mem_or_eq_of_mem_set hr' with h | h
      · exact k7 _ h
      · rw [h, putL_length _ _ _ hroom]; exact hrl
    · rw [set_get] at hi
      split at hi
      · rename_i hri
        obtain ⟨rfl, _⟩ := hri
        injection hi with hi; subst hi
        rw [putL_get _ _ _ _ hroom] at hj
        split at hj
        · rename_i hc
          have hlt : j - c < vx.cells.toList.length := by omega
          refine ⟨vx.cells.toList[j - c], ?_, CX.one (j - c) _ (List.getElem?_eq_getElem hlt), closed_rep ((CX.rep.2 (j - c) a _ hj (List.getElem?_eq_getElem hlt)).mono (fun _ h => h) hE (BtLe.refl _)) (closedL_get cs hcl _ a hj) _⟩
          rw [hget, if_pos (by omega), show l'.base + r * l'.rs + j - (l'.base + r * l'.rs + c) = j - c by omega, List.getElem?_eq_getElem hlt]
        · rename_i hc
          obtain ⟨u, q1, q2, q3⟩ := k8 r row j a hrow hj
          exact ⟨u, by rw [hget, if_neg (by omega)]; exact q1, q2, q3.mono (fun _ h => h) hE (BtLe.refl _)⟩
      · rename_i hri
        obtain ⟨u, q1, q2, q3⟩ := k8 i row' j a hi hj
        have hne : i ≠ r := fun e => hri ⟨e.symm, hrlt⟩
        have hjl : j < l'.rs := by rw [← k7 row' (List.mem_of_getElem? hi)]; exact (List.getElem?_eq_some_iff.1 hj).1
        refine ⟨u, ?_, q2, q3.mono (fun _ h => h) hE (BtLe.refl _)⟩
        rw [hget, if_neg ?_]
        · exact q1
        · rintro ⟨g1, g2⟩
          rcases Nat.lt_or_gt_of_ne hne with hlt | hlt
          · have : (i + 1) * l'.rs ≤ r * l'.rs := Nat.mul_le_mul_right _ hlt
            rw [Nat.add_mul] at this
            omega
          · have : (r + 1) * l'.rs ≤ i * l'.rs := Nat.mul_le_mul_right _ hlt
            rw [Nat.add_mul] at this
            omega)
  exact ⟨undef, _, S, β, .inr ⟨by simp only [Sem.run_bind, run, Result.andThen_ok, Sem.run_pure], rfl⟩, .any _, p1, p2⟩
theorem storeRow_ok (hC : CtxOk C) (H : SimH B S w β h) {t : TypeId} {ti : TI} {b r : Nat} {x y : AV} {va vx : Value} {cells : List AV} (ht : C.ty t = some ti) (hcs : cellsA x = some [y]) (hl : ([y] : List AV).length = ti.sz) (hb : h b = some (.row cells)) (hrow : r < cells.length)
    (ha : Rep S w β (.ptr2 b r 0) va) (hx : Rep S w β x vx) : Post B S w β s ((do Instr.storeAt t va vx; pure .skip : Sem Next).run C.P w) .any (upd h b (some (.row (cells.set r y)))) := by
  have CX := cellsA_rep hx hcs
  have hlen : vx.cells.toList.length = 1 := CX.rep.1.symm
  cases ha with
  | ptr2 _ _ _ l hbl =>
  obtain ⟨l', ds, e, fr, k1, k2, k3, k4, k5, k6, k8⟩ := H.own b _ hb
  obtain rfl : l' = l := by rw [hbl] at k1; exact (Option.some.inj k1).symm
  have hfit : l'.base + r * l'.rs + 0 + vx.cells.toList.length ≤ ds.size := by
    rw [hlen, k6]
    obtain ⟨u, hu, _⟩ := k8 r _ (List.getElem?_eq_getElem hrow)
    have := (Array.getElem?_eq_some_iff.1 hu).1
    omega
  have run := store_run hC ht rfl (by rw [hlen]; simpa using hl) CX.one k2 k3 hfit
  obtain ⟨p1, p2⟩ := store_in (s := s) H hb hbl k2 k4 vx.cells.toList (l'.base + r * l'.rs + 0) hfit (blk := .row (cells.set r y)) (fun w' cs' hE hget => by
    refine ⟨k6, fun j a hj => ?_⟩
    rw [k6] at hget
    by_cases hjr : j = r
    · subst hjr
      rw [List.getElem?_set_self hrow] at hj
      injection hj with hj; subst hj
      refine ⟨vx.cells.toList[0]'(by omega), ?_, CX.one 0 _ (List.getElem?_eq_getElem (by omega)), (CX.rep.2 0 y _ rfl (List.getElem?_eq_getElem (by omega))).mono (fun _ h => h) hE (BtLe.refl _)⟩
      rw [hget, if_pos (by omega), show l'.base + j - (l'.base + j * 1 + 0) = 0 by omega, List.getElem?_eq_getElem (by omega)]
    · rw [List.getElem?_set_ne (Ne.symm hjr)] at hj
      obtain ⟨u, q1, q2, q3⟩ := k8 j a hj
      exact ⟨u, by rw [hget, if_neg (by omega)]; exact q1, q2, q3.mono (fun _ h => h) hE (BtLe.refl _)⟩)
  exact ⟨undef, _, S, β, .inr ⟨by simp only [Sem.run_bind, run, Result.andThen_ok, Sem.run_pure], rfl⟩, .any _, p1, p2⟩
theorem box_ok (H : SimH B S w β h) (hs : β s = none) (t : TypeId) {x : AV} {v : Value} {cs : List AV} (hx : Rep S w β x v) (hcs : cellsA x = some cs) :
    Post B S w β s ((do pure (.value (← Instr.box t v)) : Sem Next).run C.P w) (.ptr s 0) (upd h s (some (.box cs))) := by
  have CX := cellsA_rep hx hcs
  have hw : (w.alloc (.cells v.cells t)).heap = w.heap.push (.cells v.cells t) := rfl
  have hle : BtLe β (upd β s (some ⟨w.heap.size, 0, 0⟩)) := BtLe.upd hs _
  have hE : Evo S w (w.alloc (.cells v.cells t)) := Evo.of_kept (fun b hb => heap_push_old hw hb) H.lt
  obtain ⟨p1, p2⟩ := simH_alloc H hs hw (fun o _ => by simp) ((Below.refl B w).alloc H.big _) (l := ⟨w.heap.size, 0, 0⟩) (blk := .box cs) rfl (fun j a hj => by
    have hlt : j < v.cells.toList.length := by rw [← CX.rep.1]; exact (List.getElem?_eq_some_iff.1 hj).1
    refine ⟨v.cells.toList[j], by rw [Nat.zero_add, ← Array.getElem?_toList, List.getElem?_eq_getElem hlt], CX.one j _ (List.getElem?_eq_getElem hlt), (CX.rep.2 j a _ hj (List.getElem?_eq_getElem hlt)).mono (fun _ h => h) hE hle⟩)
  refine ⟨.pointer (some ⟨w.heap.size, 0, none⟩), _, S, _, .inl ?_, ?_, p1, p2⟩
  · rfl
  · exact .ptr s 0 ⟨w.heap.size, 0, 0⟩ (upd_same _ _ _)
theorem alloc_ok (hC : CtxOk C) (H : SimH B S w β h) (hs : β s = none) (t : TypeId) {i : TI} {cs : List AV} (ht : C.ty t = some i) (hcs : cellsA i.zero = some cs) :
    Post B S w β s ((do pure (.value (← Instr.alloc t true (.tuple #[]))) : Sem Next).run C.P w) (.ptr s 0) (upd h s (some (.box cs))) := by
  obtain ⟨inf, z, h1, h2, h3, h4, h5, _⟩ := (hC.ty t _ ht).info
  have hz : (zeroValue t).run C.P w = .ok z w := by simp only [zeroValue, typeInfo, program, Sem.run_bind, Sem.run, h1, Sem.run_pure, Result.andThen_ok, h4]
  obtain ⟨v, w', S', β', r1, r2⟩ := box_ok (C := C) (s := s) H hs t (absV_rep z) (by rw [← h5]; exact hcs)
  refine ⟨v, w', S', β', ?_, r2⟩
  rw [← r1.elim (fun h => h) (fun h => by have := h.1; simp [Instr.box, newVar, newRow, newObj, Sem.run] at this)]
  refine .inl ?_
  simp only [Instr.alloc, Sem.run_bind, hz, Result.andThen_ok, Instr.box]
end
end Go.Proofs.YtpefnjbmbfdmmaaDoor
namespace Go.Proofs.YtpefnjbmbfdmmaaDoor
open Go.RowKit
def flatU (n rc : Nat) (u : Nat → Nat → Value) : List Value := (List.range (n * rc)).map fun k => u (k / rc) (k % rc)
theorem flatU_length (n rc : Nat) (u : Nat → Nat → Value) : (flatU n rc u).length = n * rc := by simp [flatU]
theorem flatU_get (n rc : Nat) (u : Nat → Nat → Value) (k : Nat) (hk : k < n * rc) : (flatU n rc u)[k]? = some (u (k / rc) (k % rc)) := by
  simp [flatU, hk]
theorem rowcol {i j rc : Nat} (hj : j < rc) : (i * rc + j) / rc = i ∧ (i * rc + j) % rc = j := by
  have h0 : 0 < rc := by omega
  constructor
  · rw [Nat.add_comm, Nat.add_mul_div_right _ _ h0, Nat.div_eq_of_lt hj, Nat.zero_add]
  · rw [Nat.add_comm, Nat.add_mul_mod_self_right, Nat.mod_eq_of_lt hj]
theorem rowcol_lt {i j n rc : Nat} (hi : i < n) (hj : j < rc) : i * rc + j < n * rc := by
  have : (i + 1) * rc ≤ n * rc := Nat.mul_le_mul_right _ hi
  rw [Nat.add_mul] at this
  omega
theorem flatU_at (n rc : Nat) (u : Nat → Nat → Value) {i j : Nat} (hi : i < n) (hj : j < rc) : (flatU n rc u)[i * rc + j]? = some (u i j) := by
  rw [flatU_get _ _ _ _ (rowcol_lt hi hj), (rowcol hj).1, (rowcol hj).2]
section
variable {C : Ctx} {S : Nat → Prop} {w w' : World} {β : Bt} {B : Nat} {h : AH} {s : Nat}
structure RowsU (S : Nat → Prop) (w : World) (β : Bt) (rc : Nat) (rows : List (List AV)) (u : Nat → Nat → Value) : Prop where
  len : ∀ row ∈ rows, row.length = rc
  rep : ∀ (i : Nat) row (j : Nat) a, rows[i]? = some row → row[j]? = some a → (u i j).oneCell' = true ∧ Rep S w β a (u i j)
theorem RowsU.one {rc : Nat} {rows : List (List AV)} {u : Nat → Nat → Value} (R : RowsU S w β rc rows u) : ∀ x ∈ flatU rows.length rc u, x.oneCell' = true := by
  intro x hx
  simp only [flatU, List.mem_map, List.mem_range] at hx
  obtain ⟨k, hk, rfl⟩ := hx
  have h0 : 0 < rc := Nat.pos_of_ne_zero fun e => by subst e; simp at hk
  have hi : k / rc < rows.length := Nat.div_lt_of_lt_mul (by rw [Nat.mul_comm]; exact hk)
  have hr : rows[k / rc]? = some rows[k / rc] := List.getElem?_eq_getElem hi
  have hl := R.len _ (List.mem_of_getElem? hr)
  have hj : k % rc < rows[k / rc].length := by rw [hl]; exact Nat.mod_lt _ h0
  exact (R.rep _ _ _ _ hr (List.getElem?_eq_getElem hj)).1
theorem RowsU.mono {S' : Nat → Prop} {β' : Bt} {rc : Nat} {rows : List (List AV)} {u : Nat → Nat → Value} (R : RowsU S w β rc rows u) (hS : ∀ b, S b → S' b) (hE : Evo S w w') (hb : BtLe β β') : RowsU S' w' β' rc rows u :=
  ⟨R.len, fun i row j a h1 h2 => ⟨(R.rep i row j a h1 h2).1, (R.rep i row j a h1 h2).2.mono hS hE hb⟩⟩
theorem RowsU.append {rc : Nat} {xs ys : List (List AV)} {u v : Nat → Nat → Value} (R : RowsU S w β rc xs u) (T : RowsU S w β rc ys v) : RowsU S w β rc (xs ++ ys) (fun i j => if i < xs.length then u i j else v (i - xs.length) j) := by
  refine ⟨fun row hr => (List.mem_append.1 hr).elim (R.len row) (T.len row), fun i row j a h1 h2 => ?_⟩
  by_cases hi : i < xs.length
  · rw [List.getElem?_append_left hi] at h1
    simp only [if_pos hi]
    exact R.rep i row j a h1 h2
  · rw [List.getElem?_append_right (by omega)] at h1
    simp only [if_neg hi]
    exact T.rep _ row j a h1 h2
theorem flatU_append (n m rc : Nat) (u v : Nat → Nat → Value) : flatU n rc u ++ flatU m rc v = flatU (n + m) rc (fun i j => if i < n then u i j else v (i - n) j) := by
  rcases Nat.eq_zero_or_pos rc with h0 | h0
  · subst h0; simp [flatU]
  apply List.ext_getElem?
  intro k
  by_cases hk : k < n * rc
  · rw [List.getElem?_append_left (by rw [flatU_length]; exact hk), flatU_get _ _ _ _ hk, flatU_get _ _ _ _ (by rw [Nat.add_mul]; omega)]
    have : k / rc < n := Nat.div_lt_of_lt_mul (by rw [Nat.mul_comm]; exact hk)
    rw [if_pos this]
  · rw [List.getElem?_append_right (by rw [flatU_length]; omega), flatU_length]
    by_cases hk2 : k < (n + m) * rc
    · rw [Nat.add_mul] at hk2
      rw [flatU_get _ _ _ _ (by omega : k - n * rc < m * rc), flatU_get _ _ _ _ (by rw [Nat.add_mul]; omega)]
      have e : k = (k - n * rc) + n * rc := by omega
      have e1 : k / rc = (k - n * rc) / rc + n := by
        conv => lhs; rw [e]
        rw [Nat.add_mul_div_right _ _ h0]
      have e2 : k % rc = (k - n * rc) % rc := by
        conv => lhs; rw [e]
        rw [Nat.add_mul_mod_self_right]
      rw [e1, e2, if_neg (by have := Nat.zero_le ((k - n * rc) / rc); omega), Nat.add_sub_cancel]
    · rw [List.getElem?_eq_none (by rw [flatU_length]; rw [Nat.add_mul] at hk2; omega), List.getElem?_eq_none (by rw [flatU_length]; omega)]
theorem rows_src (H : SimH B S w β h) {y : AV} {vy : Value} {rc : Nat} {rows : List (List AV)} (hy : Rep S w β y vy) (hr : rowsOf h y = some (rc, rows)) (hlk : lenOk h y) :
    ∃ u, RowsU S w noB rc rows u ∧ (∀ w1 : World, (Builtin.lenOf vy).run C.P w1 = .ok rows.length w1) ∧
      ∀ w1 : World, (∀ b, b < w.heap.size → w1.heap[b]? = w.heap[b]?) → ∀ n, n ≤ rows.length → (Builtin.firstCells rc n vy).run C.P w1 = .ok (flatU n rc u).toArray w1 := by
  have mem : ∀ (b o : Nat) (A : Option Addr) (len c : Nat) (rows : List (List AV)) (u : Nat → Nat → Value), RowsU S w noB rc rows u → len = rows.length → (0 < len → A = some ⟨b, o, none⟩) →
      (∀ (i : Nat) row (j : Nat) a, rows[i]? = some row → row[j]? = some a → w.cell? ⟨b, o + i * rc + j, none⟩ = some (u i j)) →
      ∀ w1 : World, (∀ b, b < w.heap.size → w1.heap[b]? = w.heap[b]?) → ∀ n, n ≤ rows.length → (Builtin.firstCells rc n (.slice A len c)).run C.P w1 = .ok (flatU n rc u).toArray w1 := by
    intro b o A len c rows u R hl hA hw w1 hw1 n hn
    rcases Nat.eq_zero_or_pos n with h0 | h0
    · subst h0
      have : flatU 0 rc u = [] := by simp [flatU]
      rw [this]
      cases A with
      | none => exact run_firstCells_none w1 rc 0 len c
      | some A => exact run_firstCells_some w1 rc 0 A len c [] (by simp) (by simp)
    · rw [hA (by omega)]
      refine run_firstCells_some w1 rc n ⟨b, o, none⟩ len c (flatU n rc u) (flatU_length _ _ _) fun k x hk => ?_
      have hlt : k < n * rc := by rw [← flatU_length n rc u]; exact (List.getElem?_eq_some_iff.1 hk).1
      rw [flatU_get _ _ _ _ hlt] at hk
      injection hk with hk; subst hk
      have hr0 : 0 < rc := Nat.pos_of_ne_zero fun e => by subst e; simp at hlt
      have hi : k / rc < rows.length := Nat.lt_of_lt_of_le (Nat.div_lt_of_lt_mul (by rw [Nat.mul_comm]; exact hlt)) hn
      have hrow : rows[k / rc]? = some rows[k / rc] := List.getElem?_eq_getElem hi
      have hj : k % rc < rows[k / rc].length := by rw [R.len _ (List.mem_of_getElem? hrow)]; exact Nat.mod_lt _ hr0
      have := hw _ _ _ _ hrow (List.getElem?_eq_getElem hj)
      rw [Addr.add_mid]
      have hk' : k / rc * rc + k % rc = k := by rw [Nat.mul_comm]; exact Nat.div_add_mod k rc
      rw [Nat.add_assoc, hk'] at this
      have hb : b < w.heap.size := World.block_lt_of_cell? w _ this
      rw [cell_of_heap (hw1 b hb)]
      exact this
  cases hy with
  | v =>
    simp only [rowsOf] at hr
    split at hr
    · rename_i st hst
      injection hst with hst
      subst hst
      injection hr with hr; injection hr with e1 e2
      subst e1; subst e2
      have hlen : (rowsOfBytes st).length = st.size := by simp [rowsOfBytes]
      refine ⟨fun i _ => .int .u8 (st.data.toList.getD i 0).toNat, ⟨fun row hrow => ?_, fun i row j a h1 h2 => ?_⟩, fun w1 => by rw [hlen]; rfl, fun w1 _ n hn => ?_⟩
      · simp only [rowsOfBytes, List.mem_map] at hrow
        obtain ⟨b, _, rfl⟩ := hrow
        rfl
      · simp only [rowsOfBytes, List.getElem?_map] at h1
        obtain ⟨b, hb, rfl⟩ := Option.map_eq_some_iff.1 h1
        cases j with
        | zero =>
          simp only [List.getElem?_cons_zero, Option.some.injEq] at h2
          subst h2
          refine ⟨rfl, ?_⟩
          rw [List.getD_eq_getElem?_getD, hb, Option.getD_some]
          exact .v _
        | succ j => simp at h2
      · rw [hlen] at hn
        simp only [Builtin.firstCells, Sem.run_pure]
        congr 1
        apply Array.ext'
        simp only [Array.toList_map, flatU, Nat.mul_one, Nat.div_one]
        apply List.ext_getElem?
        intro k
        simp only [List.getElem?_map]
        by_cases hk : k < n
        · have hkl : k < st.data.toList.length := by simpa using Nat.lt_of_lt_of_le hk hn
          have : (st.extract 0 n).data.toList[k]? = st.data.toList[k]? := by
            simp [hk]
          rw [this, List.getElem?_eq_getElem hkl, List.getElem?_range hk, Option.map_some, Option.map_some, List.getD_eq_getElem?_getD, List.getElem?_eq_getElem hkl]
          rfl
        · have : (st.extract 0 n).data.toList[k]? = none := by
            apply List.getElem?_eq_none
            simp; omega
          rw [this, List.getElem?_eq_none (by simp; omega)]
          rfl
    · rename_i he; cases he
    · rename_i he; cases he
    · cases hr
  | sl rs rows' clip A c b o u hc hm hcl hrs hA hw h1 hr' =>
    simp only [rowsOf] at hr
    injection hr with hr; injection hr with e1 e2
    subst e1; subst e2
    have R : RowsU S w noB rs rows' u := ⟨hrs, fun i row j a p q => ⟨h1 i j, hr' i row j a p q⟩⟩
    exact ⟨u, R, fun _ => rfl, mem b o A _ c rows' u R rfl (fun h0 => (hA h0).1) hw⟩
  | osl s0 lo len clip l A c hl hc hm hcl hA cs e fr hb room =>
    simp only [rowsOf] at hr
    split at hr
    · rename_i rows' rs hs
      injection hr with hr; injection hr with e1 e2
      subst e1; subst e2
      obtain ⟨l', ds, e', fr', k1, k2, k3, k4, k5, k6, k7, k8⟩ := H.own s0 _ hs
      obtain rfl : l' = l := by rw [hl] at k1; exact (Option.some.inj k1).symm
      subst k6
      have hlk' : lo + len ≤ rows'.length := by simpa [lenOk, hs] using hlk
      have hlen : ((rows'.drop lo).take len).length = len := by rw [List.length_take, List.length_drop]; omega
      have sub : ∀ (i : Nat) row, ((rows'.drop lo).take len)[i]? = some row → rows'[lo + i]? = some row := by
        intro i row hi
        rw [List.getElem?_take] at hi
        split at hi
        · rwa [List.getElem?_drop] at hi
        · cases hi
      have R : RowsU S w noB l'.rs ((rows'.drop lo).take len) (fun i j => ds.getD (l'.base + (lo + i) * l'.rs + j) undef) := by
        refine ⟨fun row hrow => k7 row (List.mem_of_mem_drop (List.mem_of_mem_take hrow)), fun i row j a hi hj => ?_⟩
        obtain ⟨u, q1, q2, q3⟩ := k8 _ _ _ _ (sub i row hi) hj
        rw [show ds.getD (l'.base + (lo + i) * l'.rs + j) undef = u by rw [Array.getD_eq_getD_getElem?, q1]; rfl]
        exact ⟨q2, q3⟩
      refine ⟨_, R, fun _ => by rw [hlen]; rfl, mem l'.blk (l'.base + lo * l'.rs) A len c _ _ R hlen.symm (fun h0 => hA (by omega)) fun i row j a hi hj => ?_⟩
      obtain ⟨u, q1, q2, q3⟩ := k8 _ _ _ _ (sub i row hi) hj
      rw [cell_of_cells k2, show l'.base + lo * l'.rs + i * l'.rs + j = l'.base + (lo + i) * l'.rs + j by rw [Nat.add_mul]; omega, q1, Array.getD_eq_getD_getElem?, q1]
      rfl
    · cases hr
  | _ => simp only [rowsOf] at hr; cases hr
theorem grown_ok (hC : CtxOk C) (H : SimH B S w β h) (hs : β s = none) {e : TypeId} {ei : TI} (he : C.ty e = some ei) {z : Value} (hzs : z.cells.size = ei.sz) {rows : List (List AV)} {u : Nat → Nat → Value} (R : RowsU S w noB ei.sz rows u) (cap : Nat) (hcap : rows.length ≤ cap) (hm : cap ≤ maxLen) {w' : World}
    (hw : w'.heap = w.heap.push (.cells ((flatU rows.length ei.sz u).toArray ++ Builtin.zeroCells z.cells (cap - rows.length)) e)) (hbel : Below B w w') :
    Rep S w' (upd β s (some ⟨w.heap.size, 0, ei.sz⟩)) (.osl s 0 rows.length false) (.slice (some ⟨w.heap.size, 0, none⟩) rows.length cap) ∧
    SimH B S w' (upd β s (some ⟨w.heap.size, 0, ei.sz⟩)) (upd h s (some (.arr rows ei.sz))) ∧ StepK B S w β s S w' (upd β s (some ⟨w.heap.size, 0, ei.sz⟩)) := by
  have hle : BtLe β (upd β s (some ⟨w.heap.size, 0, ei.sz⟩)) := BtLe.upd hs _
  have hE : Evo S w w' := Evo.of_kept (fun b hb => heap_push_old hw hb) H.lt
  obtain ⟨p1, p2⟩ := simH_alloc H hs hw (fun o _ => by simp) hbel (l := ⟨w.heap.size, 0, ei.sz⟩) (blk := .arr rows ei.sz) rfl ⟨rfl, R.len, fun i row j a hi hj => by
    have hjl : j < ei.sz := by rw [← R.len row (List.mem_of_getElem? hi)]; exact (List.getElem?_eq_some_iff.1 hj).1
    have hil : i < rows.length := (List.getElem?_eq_some_iff.1 hi).1
    obtain ⟨r1, r2⟩ := R.rep i row j a hi hj
    refine ⟨u i j, ?_, r1, r2.mono (fun _ h => h) hE (BtLe.refl _)⟩
    rw [Nat.zero_add, Array.getElem?_append_left (by simp only [List.size_toArray, flatU_length]; exact rowcol_lt hil hjl), List.getElem?_toArray]
    exact flatU_at _ _ _ hil hjl⟩
  refine ⟨.osl s 0 rows.length false ⟨w.heap.size, 0, ei.sz⟩ _ cap (upd_same _ _ _) hcap hm (fun h => by cases h) (fun _ => by simp) _ e _ (heap_push_new hw) ?_, p1, p2⟩
  simp only [Array.size_append, List.size_toArray, flatU_length, size_zeroCells, hzs, Nat.zero_add]
  rw [← Nat.add_mul]
  exact Nat.mul_le_mul_right _ (by omega)
theorem src_of (H : SimH B S w β h) {tx : TypeId} {tk : TI} (htx : (∃ e', C.P.underlying tx = some (.slice e')) ∨ C.P.underlying tx = some .string) {y : AV} {vy : Value} {rc : Nat} {rows : List (List AV)} (hy : Rep S w β y vy) (hr : rowsOf h y = some (rc, rows)) (hlk : lenOk h y) :
    ∃ u, RowsU S w noB rc rows u ∧ Src C.P rc tx vy rows.length (flatU rows.length rc u) w := by
  obtain ⟨u, R, hl, hf⟩ := rows_src (C := C) H hy hr hlk
  exact ⟨u, R, ⟨htx, hl, hf w (fun _ _ => rfl) _ (Nat.le_refl _), hf w.drew (fun _ _ => rfl) _ (Nat.le_refl _), flatU_length _ _ _, R.one⟩⟩
theorem kd_src (hC : CtxOk C) {tx : TypeId} {tk : TI} (ht : C.ty tx = some tk) (hk : appKd tk.kd = true) : (∃ e', C.P.underlying tx = some (.slice e')) ∨ C.P.underlying tx = some .string := by
  have := (hC.ty tx _ ht).kd
  cases hq : tk.kd <;> rw [hq] at hk this <;> simp only [appKd, Bool.false_eq_true] at hk
  · exact .inr this
  · exact .inl ⟨_, this⟩
theorem append_grow (hC : CtxOk C) (H : SimH B S w β h) (hs : β s = none) {t tx ty e : TypeId} {ti tk ei : TI} (hte : C.P.underlying t = some (.slice e)) (htx : C.ty tx = some tk) (hk : appKd tk.kd = true) (he : C.ty e = some ei)
    {y : AV} {A : Option Addr} {vy : Value} {n cap : Nat} {ra rc : Nat} {a c : List (List AV)} {ua : Nat → Nat → Value} (Ra : RowsU S w noB ei.sz a ua) (han : a.length = n)
    (hold : (Builtin.firstCells ei.sz n (.slice A n cap)).run C.P w.drew = .ok (flatU n ei.sz ua).toArray w.drew) (hy : Rep S w β y vy) (hr : rowsOf h y = some (ei.sz, c)) (hlk : lenOk h y)
    (hg : cap < n + c.length) (hcm : n + c.length ≤ capMax) :
    Post B S w β s ((do pure (.value (← Builtin.append_ #[t, tx] ty #[.slice A n cap, vy])) : Sem Next).run C.P w) (.osl s 0 (n + c.length) false) (upd h s (some (.arr (a ++ c) ei.sz))) := by
  obtain ⟨uc, Rc, src⟩ := src_of (tk := tk) H (kd_src hC htx hk) hy hr hlk
  obtain ⟨inf, z, i1, i2, i3, i4, i5, i6, i7, i8⟩ := (hC.ty e _ he).info
  have hcap1 : n + c.length ≤ 1000000 := hcm
  have hm : n + c.length ≤ maxLen := by unfold maxLen; omega
  have run := run_append_grow_src (P := C.P) w t tx ty e inf z hte i1 i4 A n cap (flatU n ei.sz ua) (by rw [i2]; exact hold) vy c.length (flatU c.length ei.sz uc) (by rw [i2]; exact src) hg (by omega)
    (growslice_fits hg (by rw [i3]; exact Nat.le_trans (Nat.mul_le_mul hcap1 i8) (by omega)))
  subst han
  rw [flatU_append] at run
  have R := Ra.append Rc
  rw [← List.length_append] at run
  have G := grown_ok (s := s) hC H hs he i6 R (grownCap w (a.length + c.length) cap e) (by rw [List.length_append]; exact grownCap_ge _ _ _ _) (grownCap_le_maxLen _ _ _ _ hm) (w' := w.drew.alloc (.cells ((flatU (a ++ c).length ei.sz _).toArray ++ Builtin.zeroCells z.cells (grownCap w (a.length + c.length) cap e - (a.length + c.length))) e))
    (by rw [List.length_append]; rfl) ((Below.refl B w).drew.alloc H.big _)
  rw [List.length_append] at G run
  exact ⟨_, _, S, _, .inl (by simp only [Sem.run_bind, run, Result.andThen_ok, Sem.run_pure]), G.1, G.2.1, G.2.2⟩
end
end Go.Proofs.YtpefnjbmbfdmmaaDoor
namespace Go.Proofs.YtpefnjbmbfdmmaaDoor
open Go.RowKit
section
variable {C : Ctx} {S : Nat → Prop} {w w' : World} {β : Bt} {B : Nat} {h : AH} {s : Nat}
def ResPost (B : Nat) (S : Nat → Prop) (w : World) (β : Bt) (h : AH) (s : Nat) (r : Result Next) : Res → Prop
  | .bad => True
  | .ok x => Post B S w β s r x h
  | .need p x => p → Post B S w β s r x h
  | .idx rows i f => ∀ row x, 0 ≤ i → rows[i.toNat]? = some row → f row = some x → Post B S w β s r x h
  | .fx p x h' => p → Post B S w β s r x h'
  | .idxfx rows i f => ∀ row h', 0 ≤ i → rows[i.toNat]? = some row → f row = some h' → Post B S w β s r .any h'
  | .str p rows => ∀ l, p → bytesOfRows rows = some l → Post B S w β s r (.v (.string ⟨l.toArray⟩)) h
  | .call _ _ => False
theorem ResOk.post {P : Program} {x : Res} {r : Sem Value} (H : SimH B S w β h) (hr : ResOk P S w β r x) : ResPost B S w β h s ((do pure (.value (← r)) : Sem Next).run P w) x := by
  cases x <;> simp only [ResOk, ResPost] at hr ⊢
  · exact Post.of_yld H hr
  · exact fun hp => Post.of_yld H (hr hp)
  · exact fun row x h0 h1 h2 => Post.of_yld H (hr row x h0 h1 h2)
  · exact fun l hp h0 => Post.of_yld H (hr l hp h0)
theorem append_room (hC : CtxOk C) (H : SimH B S w β h) (hs : β s = none) {t tx ty e : TypeId} {tk ei : TI} (hte : C.P.underlying t = some (.slice e)) (htx : C.ty tx = some tk) (hk : appKd tk.kd = true) (he : C.ty e = some ei)
    {y : AV} {vx vy : Value} {s0 lo n cap : Nat} {A : Option Addr} {rows c : List (List AV)} (hx : Rep S w β (.osl s0 lo n false) (.slice A n cap)) (h0 : h s0 = some (.arr rows ei.sz)) (hln : lo + n = rows.length) (hy : Rep S w β y vy) (hr : rowsOf h y = some (ei.sz, c)) (hlk : lenOk h y)
    (hg : n + c.length ≤ cap) :
    Post B S w β s ((do pure (.value (← Builtin.append_ #[t, tx] ty #[.slice A n cap, vy])) : Sem Next).run C.P w) (.osl s 0 (n + c.length) false) (upd (upd h s0 none) s (some (.arr ((rows.drop lo).take n ++ c) ei.sz))) := by
  obtain ⟨uc, Rc, src⟩ := src_of (tk := tk) H (kd_src hC htx hk) hy hr hlk
  obtain ⟨inf, z, i1, i2, i3, i4, i5, i6, i7, i8⟩ := (hC.ty e _ he).info
  obtain ⟨l, cs, ee, fr, k1, k2, k3, k4, k5, k6, k7, k8⟩ := H.own s0 _ h0
  cases hx with
  | osl _ _ _ _ l' _ _ hl hc hm hcl hA cs' e' fr' hb room =>
  obtain rfl : l' = l := by rw [hl] at k1; exact Option.some.inj k1
  rw [k2] at hb
  injection hb with hb; injection hb with q1 q2 q3
  subst q1; subst q2; subst q3
  have hss0 : s ≠ s0 := fun e => by rw [e, hl] at hs; cases hs
  have fit : l'.base + lo * l'.rs + n * l'.rs + (flatU c.length ei.sz uc).length ≤ cs.size := by
    rw [flatU_length, ← k6, Nat.add_assoc, Nat.add_assoc, ← Nat.add_mul, ← Nat.add_mul]
    exact Nat.le_trans (Nat.add_le_add_left (Nat.mul_le_mul_right _ (by omega)) _) room
  obtain ⟨cs', a1, a2, a3, a4, a5⟩ := setCells_heap l'.blk (flatU c.length ei.sz uc) (l'.base + lo * l'.rs + n * l'.rs) w cs ee fr k2 fit
  have hbel := below_setCells (B := B) k4 (flatU c.length ei.sz uc) (l'.base + lo * l'.rs + n * l'.rs) w
  have run : (Builtin.append_ #[t, tx] ty #[.slice A n cap, vy]).run C.P w = .ok (.slice A (n + c.length) cap) (w.setCells l'.blk (l'.base + lo * l'.rs + n * l'.rs) (flatU c.length ei.sz uc)) := by
    rcases Nat.eq_zero_or_pos cap with hc0 | hc0
    · have hn0 : n = 0 := by omega
      have hcl0 : c.length = 0 := by omega
      have hlen := src.len
      rw [hcl0] at hlen
      have hcells := src.cells
      rw [hcl0] at hcells
      have hfl : flatU 0 ei.sz uc = [] := by simp [flatU]
      rw [hcl0, hfl]
      rw [hfl] at hcells
      subst hn0
      rcases src.kind with ⟨e', hk'⟩ | hk' <;> cases A <;> simp [Builtin.append_, run_underlying hte, run_underlying hk', sizeOf, typeInfo, i1, i2, hlen, hcells, World.setCells, storeCells]
    · rw [hA hc0]
      have h1 : ∀ j, j < (flatU c.length ei.sz uc).length → (w.cell? ⟨l'.blk, l'.base + lo * l'.rs + n * inf.size + j, none⟩).isSome = true := fun j hj => by
        rw [i2, ← k6, cell_of_cells k2, Array.getElem?_eq_getElem (by omega)]; rfl
      have h2 : ∀ j, j < (flatU c.length ei.sz uc).length → w.frozen? ⟨l'.blk, l'.base + lo * l'.rs + n * inf.size + j, none⟩ = false := fun j hj => by
        rw [i2, ← k6]; exact frozen_of_cells k2 k3 _ (by omega)
      have := run_append_room_src (P := C.P) w t tx ty e inf hte i1 l'.blk (l'.base + lo * l'.rs) n cap vy c.length (flatU c.length ei.sz uc) (by rw [i2]; exact src) hg h1 h2
      rw [i2, ← k6] at this
      rw [← k6]
      exact this
  have hle : BtLe β (upd β s (some ⟨l'.blk, l'.base + lo * l'.rs, l'.rs⟩)) := BtLe.upd hs _
  have hE : Evo S w (w.setCells l'.blk (l'.base + lo * l'.rs + n * l'.rs) (flatU c.length ei.sz uc)) := ⟨fun b hSb => a5 b (fun e => k5 (e ▸ hSb)), fun b c1 e1 f1 h1 => by
    by_cases hq : b = l'.blk
    · subst hq
      rw [k2] at h1
      injection h1 with h1; injection h1 with q1 q2 q3
      subst q1; subst q2; subst q3
      exact ⟨cs', a1, a2⟩
    · exact ⟨c1, (a5 b hq).trans h1, rfl⟩⟩
  have htl : ((rows.drop lo).take n).length = n := by rw [List.length_take, List.length_drop]; omega
  refine ⟨.slice A (n + c.length) cap, _, S, upd β s (some ⟨l'.blk, l'.base + lo * l'.rs, l'.rs⟩), .inl (by simp only [Sem.run_bind, run, Result.andThen_ok, Sem.run_pure]), ?_, ?_, ⟨fun _ h => h, hE, hbel, hle, fun x k hx => ?_, fun _ h => .inl h, fun b _ hne => a5 b (fun e => hne s0 l' hl e.symm)⟩⟩
  · refine .osl s 0 (n + c.length) false ⟨l'.blk, l'.base + lo * l'.rs, l'.rs⟩ A cap (upd_same _ _ _) hg hm (fun h => by cases h) (fun h0 => by rw [hA h0]; simp) cs' ee fr a1 ?_
    rw [a2]
    show l'.base + lo * l'.rs + (0 + cap) * l'.rs ≤ cs.size
    rw [Nat.add_assoc, ← Nat.add_mul, Nat.zero_add]
    exact room
  · refine ⟨fun s' blk' hs' => ?_, fun s1 s2 l1 l2 h1 h2 e1 e2 hbb => ?_, fun b hb => by have := H.lt b hb; rw [a4]; exact this, by rw [a4]; exact H.big⟩
    · by_cases he' : s' = s
      · subst he'
        rw [upd_same] at hs'
        injection hs' with hs'; subst hs'
        refine ⟨⟨l'.blk, l'.base + lo * l'.rs, l'.rs⟩, cs', ee, fr, upd_same _ _ _, a1, by rw [a2]; exact k3, k4, k5, k6, fun row hrow => ?_, fun i row j a hi hj => ?_⟩
        · rcases List.mem_append.1 hrow with h | h
          · exact k7 row (List.mem_of_mem_drop (List.mem_of_mem_take h))
          · exact Rc.len row h
        · suffices hh : ∃ u, cs'[l'.base + lo * l'.rs + i * l'.rs + j]? = some u ∧ u.oneCell' = true ∧ Rep S (w.setCells l'.blk (l'.base + lo * l'.rs + n * l'.rs) (flatU c.length ei.sz uc)) noB a u by
            obtain ⟨u, hu, hu2⟩ := hh
            exact ⟨u, by show cs'[l'.base + lo * l'.rs + i * ei.sz + j]? = _; rw [← k6]; exact hu, hu2⟩
          by_cases hin : i < n
          · rw [List.getElem?_append_left (by rw [htl]; exact hin), List.getElem?_take, if_pos hin, List.getElem?_drop] at hi
            obtain ⟨u, p1, p2, p3⟩ := k8 (lo + i) row j a hi hj
            have hjl : j < l'.rs := by rw [k6, ← k7 row (List.mem_of_getElem? hi)]; exact (List.getElem?_eq_some_iff.1 hj).1
            refine ⟨u, ?_, p2, p3.mono (fun _ h => h) hE (BtLe.refl _)⟩
            rw [a3, if_neg ?_]
            · rw [← p1, ← k6]; congr 1; rw [Nat.add_mul]; omega
            · rintro ⟨g1, _⟩
              have := rowcol_lt hin hjl
              omega
          · rw [List.getElem?_append_right (by rw [htl]; omega), htl] at hi
            have hjl : j < l'.rs := by rw [k6, ← Rc.len row (List.mem_of_getElem? hi)]; exact (List.getElem?_eq_some_iff.1 hj).1
            have hil : i - n < c.length := (List.getElem?_eq_some_iff.1 hi).1
            obtain ⟨r1, r2⟩ := Rc.rep _ row j a hi hj
            refine ⟨uc (i - n) j, ?_, r1, r2.mono (fun _ h => h) hE (BtLe.refl _)⟩
            have e1 : i * l'.rs = n * l'.rs + (i - n) * l'.rs := by rw [← Nat.add_mul]; congr 1; omega
            have hlt := rowcol_lt (rc := l'.rs) hil hjl
            rw [a3, if_pos (by rw [flatU_length, ← k6]; omega), show l'.base + lo * l'.rs + i * l'.rs + j - (l'.base + lo * l'.rs + n * l'.rs) = (i - n) * l'.rs + j by omega, ← k6]
            exact flatU_at _ _ _ hil hjl
      · rw [upd_other _ _ he'] at hs'
        by_cases he2 : s' = s0
        · subst he2; rw [upd_same] at hs'; cases hs'
        · rw [upd_other _ _ he2] at hs'
          obtain ⟨l2, cs2, e2, fr2, j1, j2, j3, j4, j5, j6⟩ := H.own s' blk' hs'
          have hne : l2.blk ≠ l'.blk := fun q => he2 (H.inj s' s0 l2 l' (by rw [hs']; simp) (by rw [h0]; simp) j1 hl q)
          exact ⟨l2, cs2, e2, fr2, hle _ _ j1, (a5 _ hne).trans j2, j3, j4, j5, j6.mono (fun _ h => h) hE hle⟩
    · have old : ∀ s1 l1, s1 ≠ s → upd (upd h s0 none) s (some (.arr ((rows.drop lo).take n ++ c) ei.sz)) s1 ≠ none → upd β s (some ⟨l'.blk, l'.base + lo * l'.rs, l'.rs⟩) s1 = some l1 → s1 ≠ s0 ∧ h s1 ≠ none ∧ β s1 = some l1 := by
        intro s1 l1 hn h1 e1
        rw [upd_other _ _ hn] at h1 e1
        by_cases he2 : s1 = s0
        · rw [he2, upd_same] at h1; exact absurd rfl h1
        · rw [upd_other _ _ he2] at h1; exact ⟨he2, h1, e1⟩
      by_cases n1 : s1 = s
      · by_cases n2 : s2 = s
        · rw [n1, n2]
        · subst n1
          rw [upd_same] at e1
          injection e1 with e1; subst e1
          obtain ⟨b0, b1, b2⟩ := old s2 l2 n2 h2 e2
          exact absurd (H.inj s2 s0 l2 l' b1 (by rw [h0]; simp) b2 hl hbb.symm) b0
      · by_cases n2 : s2 = s
        · subst n2
          rw [upd_same] at e2
          injection e2 with e2; subst e2
          obtain ⟨b0, b1, b2⟩ := old s1 l1 n1 h1 e1
          exact absurd (H.inj s1 s0 l1 l' b1 (by rw [h0]; simp) b2 hl hbb) b0
        · obtain ⟨_, a1', a2'⟩ := old s1 l1 n1 h1 e1
          obtain ⟨_, b1, b2⟩ := old s2 l2 n2 h2 e2
          exact H.inj s1 s2 l1 l2 a1' b1 a2' b2 hbb
  · by_cases he' : x = s
    · refine .inr ⟨he', .inr ⟨s0, l', hl, ?_⟩⟩
      subst he'
      rw [upd_same] at hx
      injection hx with hx; subst hx
      rfl
    · rw [upd_other _ _ he'] at hx; exact .inl hx
theorem SimH.forget (H : SimH B S w β h) (s0 : Nat) : SimH B S w β (upd h s0 none) := by
  have old : ∀ s1, upd h s0 none s1 ≠ none → h s1 ≠ none := fun s1 h1 => by
    by_cases he : s1 = s0
    · rw [he, upd_same] at h1; exact absurd rfl h1
    · rwa [upd_other _ _ he] at h1
  refine ⟨fun s' blk hs' => ?_, fun s1 s2 l1 l2 h1 h2 e1 e2 hb => H.inj s1 s2 l1 l2 (old s1 h1) (old s2 h2) e1 e2 hb, H.lt, H.big⟩
  by_cases he : s' = s0
  · rw [he, upd_same] at hs'; cases hs'
  · rw [upd_other _ _ he] at hs'; exact H.own s' blk hs'
theorem Post.forget {r : Result Next} {x : AV} {h' : AH} (s0 : Nat) (hp : Post B S w β s r x h') : Post B S w β s r x (upd h' s0 none) :=
  let ⟨v, w', S', β', a, b, c, d⟩ := hp; ⟨v, w', S', β', a, b, c.forget s0, d⟩
theorem append_none (hC : CtxOk C) (H : SimH B S w β h) {t tx ty e : TypeId} {tk ei : TI} (hte : C.P.underlying t = some (.slice e)) (htx : C.ty tx = some tk) (hk : appKd tk.kd = true) (he : C.ty e = some ei)
    {y : AV} {vy : Value} {n cap : Nat} {A : Option Addr} (hy : Rep S w β y vy) (hr : rowsOf h y = some (ei.sz, [])) (hlk : lenOk h y) (hc : n ≤ cap) :
    (Builtin.append_ #[t, tx] ty #[.slice A n cap, vy]).run C.P w = .ok (.slice A n cap) w := by
  obtain ⟨uc, Rc, src⟩ := src_of (tk := tk) H (kd_src hC htx hk) hy hr hlk
  obtain ⟨inf, z, i1, i2, i3, i4, i5, i6, i7, i8⟩ := (hC.ty e _ he).info
  have hlen := src.len
  have hcells := src.cells
  have hfl : flatU ([] : List (List AV)).length ei.sz uc = [] := by simp [flatU]
  rw [hfl] at hcells
  simp only [List.length_nil] at hlen hcells
  rcases src.kind with ⟨e', hk'⟩ | hk' <;> cases A <;> simp [Builtin.append_, run_underlying hte, run_underlying hk', sizeOf, typeInfo, i1, i2, hlen, hcells, hc, storeCells]
theorem append_ok (hC : CtxOk C) (H : SimH B S w β h) (hs : β s = none) (t tx ty : TypeId) {x y : AV} {vx vy : Value} (hx : Rep S w β x vx) (hy : Rep S w β y vy) :
    ResPost B S w β h s ((do pure (.value (← Builtin.append_ #[t, tx] ty #[vx, vy])) : Sem Next).run C.P w) (builtinA C h s .append [t, tx] [x, y]) := by
  simp only [builtinA, appendV]
  split
  · rename_i e sz ag z by_ eq tk ht htx
    have hte : C.P.underlying t = some (.slice e) := (hC.ty t _ ht).kd
    split
    · rename_i ei he
      split
      · rename_i r0 rows0 ra a rc c hk hrc hra
        simp only [rowsOf] at hra
        injection hra with hra; injection hra with q1 q2
        subst q1; subst q2
        split
        · rename_i e1 e3
          have e3 := Nat.eq_of_beq_eq_true e3
          subst e3
          rintro ⟨p1, p2, p3, p4⟩
          cases hx with
          | sl _ _ _ A cc b o u hc hm hcl hrs hA hw h1 hr' =>
          have ha : rows0 = [] := List.eq_nil_of_length_eq_zero p1
          subst ha
          have hcc := hcl rfl
          have hold : (Builtin.firstCells ei.sz 0 (.slice A 0 cc)).run C.P w.drew = .ok (flatU 0 ei.sz (fun _ _ => undef)).toArray w.drew := by
            have : flatU 0 ei.sz (fun _ _ => undef) = [] := by simp [flatU]
            rw [this]
            cases A with
            | none => exact run_firstCells_none w.drew ei.sz 0 0 cc
            | some A => exact run_firstCells_some w.drew ei.sz 0 A 0 cc [] (by simp) (by simp)
          have := append_grow (s := s) (ti := ⟨.slice e, sz, ag, z, by_, eq⟩) (ra := 0) (rc := 0) hC H hs hte htx hk he (a := []) (ua := fun _ _ => undef) (n := 0) ⟨by simp, by simp⟩ rfl hold hy hrc p4 (by simp at hcc; omega) (by omega) (ty := ty)
          simpa using this
        · rename_i e1 e2 e3
          have e2 := Nat.eq_of_beq_eq_true e2
          have e3 := Nat.eq_of_beq_eq_true e3
          subst e3
          split
          · rintro ⟨p3, p4⟩
            have hx' := hx
            cases hx with
            | sl _ _ _ A cc b o u' hc hm hcl hrs hA hw h1 hr' =>
            exact ⟨_, w, S, β, .inl (by simp only [Sem.run_bind, append_none hC H hte htx hk he hy hrc p4 hc, Result.andThen_ok, Sem.run_pure]), hx', H, StepK.refl _ _ _ _ _⟩
          · rintro ⟨p1, p2, p3, p4⟩
            obtain ⟨u, R, hl, hf⟩ := rows_src (C := C) H hx (rc := r0) (rows := rows0) rfl p3
            cases hx with
            | sl _ _ _ A cc b o u' hc hm hcl hrs hA hw h1 hr' =>
            subst e2
            have hcc := hcl rfl
            exact append_grow (s := s) (ti := ⟨.slice e, sz, ag, z, by_, eq⟩) (ra := 0) (rc := 0) hC H hs hte htx hk he R rfl (hf w.drew (fun _ _ => rfl) _ (Nat.le_refl _)) hy hrc p4 (by omega) (by omega) (ty := ty)
        · trivial
      · rename_i s0 lo len ra a rc c hk hrc hra
        split
        · rename_i e2 e3
          have e2 := Nat.eq_of_beq_eq_true e2
          have e3 := Nat.eq_of_beq_eq_true e3
          subst e2; subst e3
          rintro ⟨p1, p2, p3, p4⟩
          obtain ⟨u, R, hl, hf⟩ := rows_src (C := C) H hx hra p3
          cases hx with
          | osl _ _ _ _ l A cc hl' hc hm hcl hA cs ee fr hb room =>
          have hcc := hcl rfl
          have hn : a.length = len := by
            have := hl w
            simp only [Builtin.lenOf, Sem.run_pure] at this
            injection this with this _
            exact this.symm
          subst hn
          exact append_grow (s := s) (ti := ⟨.slice e, sz, ag, z, by_, eq⟩) (ra := 0) (rc := 0) hC H hs hte htx hk he R rfl (hf w.drew (fun _ _ => rfl) _ (Nat.le_refl _)) hy hrc p4 (by omega) (by omega) (ty := ty)
        · trivial
      · rename_i s0 lo len ra a rc c hk hrc hra
        split
        · rename_i rows rs h0 e2 e3
          have h0 : h s0 = some (.arr rows rs) := h0
          have e2 := Nat.eq_of_beq_eq_true e2
          have e3 := Nat.eq_of_beq_eq_true e3
          subst e2; subst e3
          rintro ⟨p1, p2, p4⟩
          have p3 : lenOk h (.osl s0 lo len false) := by simp only [lenOk, h0]; omega
          obtain ⟨u, R, hl, hf⟩ := rows_src (C := C) H hx hra p3
          simp only [rowsOf, h0] at hra
          injection hra with hra; injection hra with q1 q2
          subst q1
          have htl : a.length = len := by rw [← q2, List.length_take, List.length_drop]; omega
          have hx' := hx
          cases hx with
          | osl _ _ _ _ l A cap hl' hc hm hcl hA cs ee fr hb room =>
          by_cases hg : len + c.length ≤ cap
          · have := append_room (s := s) hC H hs hte htx hk he (ty := ty) (vx := undef) hx' h0 p2 hy hrc p4 hg
            rw [q2] at this
            rw [htl]
            exact this
          · subst htl
            have := (append_grow (s := s) (ti := ⟨.slice e, sz, ag, z, by_, eq⟩) (ra := 0) (rc := 0) hC H hs hte htx hk he R rfl (hf w.drew (fun _ _ => rfl) _ (Nat.le_refl _)) hy hrc p4 (by omega) (by omega) (ty := ty)).forget s0
            have hss0 : s ≠ s0 := fun e => by rw [e, hl'] at hs; cases hs
            rw [show upd (upd h s (some (.arr (a ++ c) ei.sz))) s0 none = upd (upd h s0 none) s (some (.arr (a ++ c) ei.sz)) from by
              funext k
              by_cases h1 : k = s0
              · subst h1; rw [upd_same, upd_other _ _ (Ne.symm hss0), upd_same]
              · rw [upd_other _ _ h1]
                by_cases h2 : k = s
                · subst h2; rw [upd_same, upd_same]
                · rw [upd_other _ _ h2, upd_other _ _ h2, upd_other _ _ h1]] at this
            exact this
        · trivial
      · trivial
    · trivial
  · trivial
end
end Go.Proofs.YtpefnjbmbfdmmaaDoor
namespace Go.Proofs.YtpefnjbmbfdmmaaDoor
open Go.RowKit
section
variable {C : Ctx} {S : Nat → Prop} {w w' : World} {β : Bt} {B : Nat} {h : AH} {s : Nat}
theorem copy_ok (hC : CtxOk C) (H : SimH B S w β h) (ts : List TypeId) (ty : TypeId) {x y : AV} {vx vy : Value} (hx : Rep S w β x vx) (hy : Rep S w β y vy) :
    ResPost B S w β h s ((do pure (.value (← Builtin.copy_ ts.toArray ty #[vx, vy])) : Sem Next).run C.P w) (copyA C h ts x y) := by
  unfold copyA
  split
  · trivial
  · rename_i t rest
    split
    · rename_i e sz ag z by_ eq ht
      have hte : C.P.underlying t = some (.slice e) := (hC.ty t _ ht).kd
      split
      · rename_i ei s0 lo len clip he
        split
        · rename_i rows rs rc c h0 hrc
          split
          · rename_i e1 e2
            have e1 := Nat.eq_of_beq_eq_true e1
            have e2 := Nat.eq_of_beq_eq_true e2
            subst e1; subst e2
            rintro ⟨p1, p2⟩
            obtain ⟨u, R, hlen, hf⟩ := rows_src (C := C) H hy hrc p2
            obtain ⟨l, cs, ee, fr, k1, k2, k3, k4, k5, k6, k7, k8⟩ := H.own s0 _ h0
            cases hx with
            | osl _ _ _ _ l' A cap hl hc hm hcl hA cs' e' fr' hb room =>
            obtain rfl : l' = l := by rw [hl] at k1; exact Option.some.inj k1
            rw [k2] at hb
            injection hb with hb; injection hb with q1 q2 q3
            subst q1; subst q2; subst q3
            have hn : min c.length len ≤ c.length := Nat.min_le_left _ _
            have hn2 : min c.length len ≤ len := Nat.min_le_right _ _
            have hfirst := hf w (fun _ _ => rfl) (min c.length len) hn
            have fit : l'.base + lo * l'.rs + (flatU (min c.length len) ei.sz u).length ≤ cs.size := by
              rw [flatU_length, ← k6, Nat.add_assoc, ← Nat.add_mul]
              exact Nat.le_trans (Nat.add_le_add_left (Nat.mul_le_mul_right _ (by omega)) _) room
            have hone : ∀ x ∈ flatU (min c.length len) ei.sz u, x.oneCell' = true := by
              intro x hx
              simp only [flatU, List.mem_map, List.mem_range] at hx
              obtain ⟨k, hk, rfl⟩ := hx
              have h0' : 0 < ei.sz := Nat.pos_of_ne_zero fun e => by rw [e] at hk; simp at hk
              have hi : k / ei.sz < c.length := Nat.lt_of_lt_of_le (Nat.div_lt_of_lt_mul (by rw [Nat.mul_comm]; exact hk)) hn
              have hr : c[k / ei.sz]? = some c[k / ei.sz] := List.getElem?_eq_getElem hi
              have hj : k % ei.sz < c[k / ei.sz].length := by rw [R.len _ (List.mem_of_getElem? hr)]; exact Nat.mod_lt _ h0'
              exact (R.rep _ _ _ _ hr (List.getElem?_eq_getElem hj)).1
            have run : (Builtin.copy_ (t :: rest).toArray ty #[.slice A len cap, vy]).run C.P w = .ok (.int .i64 ((min c.length len : Nat) : Int)) (w.setCells l'.blk (l'.base + lo * l'.rs) (flatU (min c.length len) ei.sz u)) := by
              have hst : ∀ a, A = some a → (storeCells a (flatU (min c.length len) ei.sz u)).run C.P w = .ok () (w.setCells l'.blk (l'.base + lo * l'.rs) (flatU (min c.length len) ei.sz u)) := by
                intro a ha
                rcases Nat.eq_zero_or_pos cap with hc0 | hc0
                · have : min c.length len = 0 := by omega
                  rw [this]
                  simp [flatU, storeCells, World.setCells]
                · rw [hA hc0] at ha
                  injection ha with ha; subst ha
                  have := run_storeCells_cells (P := C.P) l'.blk (l'.base + lo * l'.rs) (flatU (min c.length len) ei.sz u) 0 w (fun j hj => by rw [cell_of_cells k2, Array.getElem?_eq_getElem (by omega)]; rfl) (fun j hj => frozen_of_cells k2 k3 _ (by omega)) hone
                  simpa using this
              have hnone : A = none → min c.length len = 0 := fun ha => by
                rcases Nat.eq_zero_or_pos cap with hc0 | hc0
                · omega
                · rw [hA hc0] at ha; cases ha
              cases A with
              | none =>
                have hz := hnone rfl
                rw [hz] at hfirst ⊢
                have hz' : Nat.min c.length len = 0 := hz
                simp only [Builtin.copy_, List.getElem?_toArray, List.getElem?_cons_zero, List.getElem?_cons_succ, Sem.run_bind, run_underlying hte, Result.andThen_ok, hlen, run_size hC he, hz', hfirst, Sem.run_pure, goInt]
                simp [flatU, World.setCells]
              | some a =>
                have hmin : Nat.min c.length len = min c.length len := rfl
                simp only [Builtin.copy_, List.getElem?_toArray, List.getElem?_cons_zero, List.getElem?_cons_succ, Sem.run_bind, run_underlying hte, Result.andThen_ok, hlen, run_size hC he, hmin, hfirst, hst a rfl, Sem.run_pure, goInt]
            have hrow : ∀ (i : Nat) row, (rows.take lo ++ c.take (min c.length len) ++ rows.drop (lo + min c.length len))[i]? = some row → (lo ≤ i ∧ i < lo + min c.length len ∧ c[i - lo]? = some row) ∨ (¬ (lo ≤ i ∧ i < lo + min c.length len) ∧ rows[i]? = some row) := by
              intro i row hi
              have h1 : (rows.take lo).length = lo := by rw [List.length_take]; omega
              have h2 : (c.take (min c.length len)).length = min c.length len := by rw [List.length_take]; omega
              by_cases g1 : i < lo
              · rw [List.append_assoc, List.getElem?_append_left (by omega), List.getElem?_take, if_pos g1] at hi
                exact .inr ⟨by omega, hi⟩
              · by_cases g2 : i < lo + min c.length len
                · rw [List.append_assoc, List.getElem?_append_right (by omega), List.getElem?_append_left (by omega), List.getElem?_take, h1, if_pos (by omega)] at hi
                  exact .inl ⟨by omega, g2, hi⟩
                · rw [List.getElem?_append_right (by rw [List.length_append]; omega), List.getElem?_drop, List.length_append, h1, h2] at hi
                  refine .inr ⟨by omega, ?_⟩
                  rw [← hi]; congr 1; omega
            obtain ⟨r1, r2⟩ := store_in (s := s) H h0 hl k2 k4 (flatU (min c.length len) ei.sz u) (l'.base + lo * l'.rs) fit (blk := .arr (rows.take lo ++ c.take (min c.length len) ++ rows.drop (lo + min c.length len)) ei.sz) (fun w' cs' hE hget => by
              refine ⟨k6, fun row hr => ?_, fun i row j a hi hj => ?_⟩
              · obtain ⟨i, hi⟩ := List.mem_iff_getElem?.1 hr
                rcases hrow i row hi with ⟨_, _, hh⟩ | ⟨_, hh⟩
                · exact R.len row (List.mem_of_getElem? hh)
                · exact k7 row (List.mem_of_getElem? hh)
              · rw [← k6]
                rcases hrow i row hi with ⟨g1, g2, hh⟩ | ⟨g1, hh⟩
                · have hjl : j < l'.rs := by rw [k6, ← R.len row (List.mem_of_getElem? hh)]; exact (List.getElem?_eq_some_iff.1 hj).1
                  obtain ⟨t1, t2⟩ := R.rep _ row j a hh hj
                  refine ⟨u (i - lo) j, ?_, t1, t2.mono (fun _ h => h) hE (BtLe.refl _)⟩
                  have hlt := rowcol_lt (rc := l'.rs) (by omega : i - lo < min c.length len) hjl
                  have e1 : i * l'.rs = lo * l'.rs + (i - lo) * l'.rs := by rw [← Nat.add_mul]; congr 1; omega
                  rw [hget, if_pos (by rw [flatU_length, ← k6]; omega), show l'.base + i * l'.rs + j - (l'.base + lo * l'.rs) = (i - lo) * l'.rs + j by omega, ← k6]
                  exact flatU_at _ _ _ (by omega) hjl
                · have hjl : j < l'.rs := by rw [k6, ← k7 row (List.mem_of_getElem? hh)]; exact (List.getElem?_eq_some_iff.1 hj).1
                  obtain ⟨v, t0, t1, t2⟩ := k8 i row j a hh hj
                  rw [← k6] at t0
                  refine ⟨v, ?_, t1, t2.mono (fun _ h => h) hE (BtLe.refl _)⟩
                  rw [hget, if_neg ?_]
                  · exact t0
                  · rw [flatU_length, ← k6]
                    rintro ⟨q1, q2⟩
                    by_cases g2 : i < lo
                    · have := rowcol_lt g2 hjl
                      omega
                    · have g3 : lo + min c.length len ≤ i := by omega
                      have : (lo + min c.length len) * l'.rs ≤ i * l'.rs := Nat.mul_le_mul_right _ g3
                      rw [Nat.add_mul] at this
                      omega)
            exact ⟨_, _, S, β, .inl (by simp only [Sem.run_bind, run, Result.andThen_ok, Sem.run_pure]), .v _, r1, r2⟩
          · trivial
        · trivial
      · trivial
    · trivial
end
end Go.Proofs.YtpefnjbmbfdmmaaDoor
namespace Go.Proofs.YtpefnjbmbfdmmaaDoor
open Go.RowKit
section
variable {C : Ctx} {S : Nat → Prop} {w w' : World} {β : Bt} {B : Nat} {h : AH} {s : Nat}
theorem make_ok (hC : CtxOk C) (H : SimH B S w β h) (hs : β s = none) {t e : TypeId} {ei : TI} (hte : C.P.underlying t = some (.slice e)) (he : C.ty e = some ei) {z : List AV} (hz : cellsA ei.zero = some z) (hcz : closedL z = true) (kl kc : IntKind) (l c : Int) (h0 : 0 ≤ l) (h1 : l ≤ c) (h2 : c ≤ capMax) :
    Post B S w β s ((do pure (.value (← Instr.makeSlice t (.int kl l) (.int kc c))) : Sem Next).run C.P w) (.osl s 0 l.toNat false) (upd h s (some (.arr (List.replicate l.toNat z) z.length))) := by
  obtain ⟨inf, zv, i1, i2, i3, i4, i5, i6, i7, i8⟩ := zero_cells (S := S) (w := w) (β := β) hC he hz
  have hzl : z.length = ei.sz := by rw [i4.rep.1, ← i5]; simp
  have hcap : c ≤ 1000000 := h2
  have hb : (inf.bytes : Int) * c ≤ 281474976710656 := by
    have e1 : (inf.bytes : Int) ≤ 1000 := by rw [i6]; omega
    have : (inf.bytes : Int) * c ≤ 1000 * 1000000 := Int.mul_le_mul e1 hcap (by omega) (by omega)
    omega
  have run := run_make (P := C.P) w t e inf zv hte i1 i3 kl kc l c h0 h1 hb (by omega)
  have hw : (w.alloc (.cells (madeCells zv.cells (c.toNat * inf.size)) e)).heap = w.heap.push (.cells (madeCells zv.cells (c.toNat * inf.size)) e) := rfl
  have hle : BtLe β (upd β s (some ⟨w.heap.size, 0, z.length⟩)) := BtLe.upd hs _
  have hE : Evo S w (w.alloc (.cells (madeCells zv.cells (c.toNat * inf.size)) e)) := Evo.of_kept (fun b hb => heap_push_old hw hb) H.lt
  obtain ⟨p1, p2⟩ := simH_alloc H hs hw (fun o _ => by simp) ((Below.refl B w).alloc H.big _) (l := ⟨w.heap.size, 0, z.length⟩) (blk := .arr (List.replicate l.toNat z) z.length) rfl ⟨rfl, fun row hr => by rw [(List.mem_replicate.1 hr).2], fun i row j a hi hj => by
    have hil : i < l.toNat := by have := (List.getElem?_eq_some_iff.1 hi).1; simpa using this
    rw [List.getElem?_replicate, if_pos hil] at hi
    injection hi with hi; subst hi
    have hjl : j < z.length := (List.getElem?_eq_some_iff.1 hj).1
    have hjv : j < zv.cells.toList.length := by rw [← i4.rep.1]; exact hjl
    have hjz : zv.cells.toList[j]? = some zv.cells.toList[j] := List.getElem?_eq_getElem hjv
    refine ⟨zv.cells.toList[j], ?_, i4.one j _ hjz, closed_rep ((i4.rep.2 j a _ hj hjz).mono (fun _ h => h) hE hle) (closedL_get z hcz j a hj) _⟩
    have hlt : i * z.length + j < c.toNat * inf.size := by rw [i2, ← hzl]; exact rowcol_lt (by omega) hjl
    rw [Nat.zero_add]
    simp only [madeCells, Array.getElem?_map]
    rw [show (Array.range (c.toNat * inf.size))[i * z.length + j]? = some (i * z.length + j) by simp [hlt], Option.map_some, i5, ← hzl, (rowcol hjl).2]
    congr 1
    have : j < zv.cells.size := by simpa using hjv
    rw [getElem!_pos zv.cells j this]
    rfl⟩
  refine ⟨.slice (some ⟨w.heap.size, 0, none⟩) l.toNat c.toNat, _, S, _, .inl (by simp only [Sem.run_bind, run, Result.andThen_ok, Sem.run_pure]), ?_, p1, p2⟩
  refine .osl s 0 l.toNat false ⟨w.heap.size, 0, z.length⟩ _ c.toNat (upd_same _ _ _) (by omega) (by unfold maxLen; omega) (fun h => by cases h) (fun _ => by simp) _ e _ (heap_push_new hw) ?_
  show 0 + (0 + c.toNat) * z.length ≤ _
  rw [size_madeCells, i2, hzl, Nat.zero_add, Nat.zero_add]
  exact Nat.le_refl _
theorem strBytes_ok (hC : CtxOk C) (H : SimH B S w β h) (hs : β s = none) {src dst e : TypeId} (hsrc : C.P.underlying src = some .string) (hdst : C.P.underlying dst = some (.slice e)) (he : C.P.underlying e = some (.int .u8)) (b : ByteArray) (hb : b.size ≤ capMax) :
    Post B S w β s ((do pure (.value (← convert src dst (.string b))) : Sem Next).run C.P w) (.osl s 0 b.size false) (upd h s (some (.arr (rowsOfBytes b) 1))) := by
  have run := run_bytes_of_string (P := C.P) w src dst e b hsrc hdst he
  have hcap : b.size ≤ 1000000 := hb
  have hge := grownCap_ge w b.size 0 e
  have hm : grownCap w b.size 0 e ≤ maxLen := grownCap_le_maxLen _ _ _ _ (by unfold maxLen; omega)
  have hsz : (bytesRow b (grownCap w b.size 0 e)).size = grownCap w b.size 0 e := by
    have : b.data.size = b.size := rfl
    simp [bytesRow, this]; omega
  have hw : (w.drew.alloc (.cells (bytesRow b (grownCap w b.size 0 e)) e ((bytesRow b (grownCap w b.size 0 e)).size, (bytesRow b (grownCap w b.size 0 e)).size + 1))).heap = w.heap.push (.cells (bytesRow b (grownCap w b.size 0 e)) e ((bytesRow b (grownCap w b.size 0 e)).size, (bytesRow b (grownCap w b.size 0 e)).size + 1)) := rfl
  have hlen : (rowsOfBytes b).length = b.size := by simp [rowsOfBytes]
  obtain ⟨p1, p2⟩ := simH_alloc H hs hw (fun o ho => by simp; omega) ((Below.refl B w).drew.alloc H.big _) (l := ⟨w.heap.size, 0, 1⟩) (blk := .arr (rowsOfBytes b) 1) rfl ⟨rfl, fun row hr => by
      simp only [rowsOfBytes, List.mem_map] at hr
      obtain ⟨x, _, rfl⟩ := hr
      rfl, fun i row j a hi hj => by
    have hil : i < b.size := by rw [← hlen]; exact (List.getElem?_eq_some_iff.1 hi).1
    simp only [rowsOfBytes, List.getElem?_map] at hi
    obtain ⟨x, hx, rfl⟩ := Option.map_eq_some_iff.1 hi
    cases j with
    | succ j => simp at hj
    | zero =>
      simp only [List.getElem?_cons_zero, Option.some.injEq] at hj
      subst hj
      refine ⟨.int .u8 x.toNat, ?_, rfl, .v _⟩
      rw [Array.getElem?_toList] at hx
      have hbd : b.data.size = b.size := rfl
      simp only [bytesRow, Nat.zero_add, Nat.mul_one, Nat.add_zero]
      rw [Array.getElem?_append_left (by simp; omega), Array.getElem?_map, hx]
      rfl⟩
  refine ⟨.slice (some ⟨w.heap.size, 0, none⟩) b.size (grownCap w b.size 0 e), _, S, _, .inl (by simp only [Sem.run_bind, run, Result.andThen_ok, Sem.run_pure]), ?_, p1, p2⟩
  refine .osl s 0 b.size false ⟨w.heap.size, 0, 1⟩ _ _ (upd_same _ _ _) hge hm (fun h => by cases h) (fun _ => by simp) _ e _ (heap_push_new hw) ?_
  show 0 + (0 + grownCap w b.size 0 e) * 1 ≤ _
  rw [hsz]; omega
theorem bytesOf_spec : ∀ (rows : List (List AV)) (l : List UInt8), bytesOfRows rows = some l → ∃ ns : List Int, rows = ns.map (fun n => [.v (.int .u8 n)]) ∧ l = ns.map (fun n => UInt8.ofNat n.toNat)
  | [], l, h => by simp only [bytesOfRows] at h; injection h with h; subst h; exact ⟨[], rfl, rfl⟩
  | r :: rows, l, h => by
    unfold bytesOfRows at h
    split at h
    · rename_i he; cases he
    · rename_i n rs he
      injection he with e1 e2
      subst e1; subst e2
      split at h
      · rename_i l' hl'
        injection h with h; subst h
        obtain ⟨ns, h1, h2⟩ := bytesOf_spec rows l' hl'
        exact ⟨n :: ns, by rw [h1]; rfl, by rw [h2]; rfl⟩
      · cases h
    · cases h
theorem foldl_push : ∀ (ns : List Int) (r : ByteArray), ns.foldl (fun r n => r.push (UInt8.ofNat n.toNat)) r = ⟨r.data ++ (ns.map fun n => UInt8.ofNat n.toNat).toArray⟩
  | [], r => by simp
  | n :: ns, r => by
    simp only [List.foldl_cons, List.map_cons]
    rw [foldl_push ns]
    simp [ByteArray.push]
theorem bytesStr_ok (hC : CtxOk C) (H : SimH B S w β h) {src dst e : TypeId} (hsrc : C.P.underlying src = some (.slice e)) (hdst : C.P.underlying dst = some .string) (he : C.P.underlying e = some (.int .u8)) {x : AV} {vx : Value} {rc : Nat} {rows : List (List AV)}
    (hx : Rep S w β x vx) (hns : ∀ b, x ≠ .v (.string b)) (hr : rowsOf h x = some (rc, rows)) (hlk : lenOk h x) (l : List UInt8) (hl : bytesOfRows rows = some l) : Yld C.P S w β (.v (.string ⟨l.toArray⟩)) (convert src dst vx) := by
  obtain ⟨u, R, hlen, hf⟩ := rows_src (C := C) H hx hr hlk
  obtain ⟨ns, e1, e2⟩ := bytesOf_spec rows l hl
  obtain ⟨A, c, hv⟩ : ∃ A c, vx = .slice A rows.length c := by
    have hl' := hlen w
    cases hx with
    | v => cases vx <;> first | exact absurd rfl (hns _) | (simp [rowsOf] at hr; done)
    | sl rs rows' clip A c b o u hc hm hcl hrs hA hw h1 hr' =>
      simp only [rowsOf] at hr
      injection hr with hr; injection hr with q1 q2
      subst q2
      exact ⟨A, c, rfl⟩
    | osl s0 lo len clip l A c hl hc hm hcl hA cs e fr hb room =>
      simp only [Builtin.lenOf, Sem.run_pure] at hl'
      injection hl' with hl' _
      exact ⟨A, c, by rw [hl']⟩
    | _ => simp only [rowsOf] at hr; cases hr
  subst hv
  refine ⟨_, ?_, .v _⟩
  rw [run_convert_bytes_string w src dst e A rows.length c hsrc he hdst]
  have hrc : 0 < rows.length → rc = 1 := fun h0 => by
    obtain ⟨row, hrow⟩ := List.exists_mem_of_length_pos h0
    rw [← R.len row hrow]
    rw [e1] at hrow
    obtain ⟨n, _, rfl⟩ := List.mem_map.1 hrow
    rfl
  have hu : ∀ i, i < rows.length → u i 0 = .int .u8 (ns.getD i 0) := fun i hi => by
    have hn : i < ns.length := by rw [e1] at hi; simpa using hi
    have hrow : rows[i]? = some [.v (.int .u8 (ns.getD i 0))] := by
      rw [e1, List.getElem?_map, List.getElem?_eq_getElem hn, List.getD_eq_getElem?_getD, List.getElem?_eq_getElem hn]; rfl
    exact (rep_v (R.rep i _ 0 _ hrow rfl).2)
  have hnl : ns.length = rows.length := by rw [e1]; simp
  cases A with
  | none =>
    have h0 : rows.length = 0 := by
      rcases Nat.eq_zero_or_pos rows.length with h | h
      · exact h
      · have := hf w (fun _ _ => rfl) rows.length (Nat.le_refl _)
        rw [run_firstCells_none] at this
        injection this with this _
        have h2 := congrArg Array.size this
        rw [hrc h] at h2
        simp [flatU_length] at h2
        omega
    have : ns = [] := List.eq_nil_of_length_eq_zero (by omega)
    subst this
    subst e2
    rfl
  | some a =>
    have hload : (loadCells a rows.length).run C.P w = .ok (ns.map (Value.int .u8)).toArray w := by
      rcases Nat.eq_zero_or_pos rows.length with h | h
      · have : ns = [] := List.eq_nil_of_length_eq_zero (by omega)
        subst this
        rw [h]; rfl
      · have := hf w (fun _ _ => rfl) rows.length (Nat.le_refl _)
        rw [hrc h] at this
        simp only [Builtin.firstCells, Nat.mul_one] at this
        rw [this]
        congr 2
        apply List.ext_getElem?
        intro k
        by_cases hk : k < rows.length
        · rw [flatU_get _ _ _ _ (by omega), Nat.div_one, Nat.mod_one, hu k hk, List.getElem?_map, List.getElem?_eq_getElem (by omega), List.getD_eq_getElem?_getD, List.getElem?_eq_getElem (by omega)]
          rfl
        · rw [List.getElem?_eq_none (by rw [flatU_length]; omega), List.getElem?_eq_none (by simp; omega)]
    rw [run_bytesToString w a rows.length c ns hload, foldl_push, e2]
    have he0 : ByteArray.empty.data = #[] := rfl
    rw [he0]
    simp
theorem putL_eq : ∀ (n : Nat) (cs l : List AV), n + cs.length ≤ l.length → putL n cs l = l.take n ++ cs ++ l.drop (n + cs.length)
  | 0, [], l, _ => by simp [putL]
  | 0, c :: cs, x :: l, h => by simp [putL, putL_eq 0 cs l (by simp at h; omega)]
  | 0, c :: cs, [], h => by simp at h
  | n + 1, cs, x :: l, h => by
    simp only [putL, putL_eq n cs l (by simp at h; omega), List.take_succ_cons, List.cons_append, List.append_assoc]
    rw [show n + 1 + cs.length = (n + cs.length) + 1 by omega, List.drop_succ_cons]
  | n + 1, cs, [], h => by simp at h
theorem fill_dense (sz : Nat) : ∀ (ps : List (Nat × AV)) (k : Nat) (rows : List (List AV)) (cells : List AV), rowsP sz k ps = some rows → cells.length = (k + rows.length) * sz →
    fillA C (fun i => some (i * sz, sz)) cells ps = some (cells.take (k * sz) ++ rows.flatten)
  | [], k, rows, cells, h, hl => by
    simp only [rowsP] at h
    injection h with h; subst h
    simp only [fillA, List.flatten_nil, List.append_nil]
    rw [List.take_of_length_le (by rw [hl]; simp)]
  | (i, x) :: ps, k, rows, cells, h, hl => by
    simp only [rowsP] at h
    split at h
    · rename_i cs rows' h1 h2 h3
      split at h
      · rename_i h4 h5
        injection h with h; subst h
        have h1 := Nat.eq_of_beq_eq_true h1
        subst h1
        have h4 := Nat.eq_of_beq_eq_true h4
        subst h4
        simp only [List.length_cons] at hl
        have e1 : i * cs.length + cs.length ≤ cells.length := by
          rw [hl]
          have : (i + 1) * cs.length ≤ (i + (rows'.length + 1)) * cs.length := Nat.mul_le_mul_right _ (by omega)
          rw [Nat.add_mul, Nat.one_mul] at this
          exact this
        have hp := putL_eq (i * cs.length) cs cells e1
        have hpl := putL_length (i * cs.length) cs cells e1
        have ih := fill_dense cs.length ps (i + 1) rows' (putL (i * cs.length) cs cells) h3 (by rw [hpl, hl]; congr 1; omega)
        simp only [fillA, h2]
        rw [show Nat.beq cs.length cs.length = true from Nat.beq_refl _, show Nat.ble (i * cs.length + cs.length) cells.length = true from Nat.ble_eq_true_of_le e1]
        simp only
        rw [ih, hp]
        congr 1
        have ht : (cells.take (i * cs.length)).length = i * cs.length := by rw [List.length_take]; omega
        rw [List.take_append_of_le_length (by rw [List.length_append, ht, Nat.add_mul, Nat.one_mul]; exact Nat.le_refl _), List.take_of_length_le (by rw [List.length_append, ht, Nat.add_mul, Nat.one_mul]; exact Nat.le_refl _)]
        simp
      · cases h
    · cases h
theorem flatten_get {sz : Nat} : ∀ (rows : List (List AV)), (∀ row ∈ rows, row.length = sz) → ∀ (i : Nat) row (j : Nat) a, rows[i]? = some row → row[j]? = some a → rows.flatten[i * sz + j]? = some a
  | [], _, i, row, j, a, h, _ => by simp at h
  | r :: rows, hl, 0, row, j, a, h, hj => by
    simp only [List.getElem?_cons_zero, Option.some.injEq] at h
    subst h
    rw [List.flatten_cons, Nat.zero_mul, Nat.zero_add, List.getElem?_append_left (List.getElem?_eq_some_iff.1 hj).1]
    exact hj
  | r :: rows, hl, i + 1, row, j, a, h, hj => by
    have hr : r.length = sz := hl r (List.mem_cons_self)
    rw [List.flatten_cons, List.getElem?_append_right (by rw [hr, Nat.add_mul]; omega), hr, show (i + 1) * sz + j - sz = i * sz + j by rw [Nat.add_mul]; omega]
    exact flatten_get rows (fun row hrow => hl row (List.mem_cons_of_mem _ hrow)) i row j a (by simpa using h) hj
theorem rowsP_spec (sz : Nat) : ∀ (ps : List (Nat × AV)) (k : Nat) (rows : List (List AV)), rowsP sz k ps = some rows → ∀ row ∈ rows, row.length = sz ∧ closedL row = true
  | [], k, rows, h, row, hr => by
    simp only [rowsP] at h
    injection h with h; subst h
    cases hr
  | (i, x) :: ps, k, rows, h, row, hr => by
    simp only [rowsP] at h
    split at h
    · rename_i cs rows' h1 h2 h3
      split at h
      · rename_i h4 h5
        injection h with h; subst h
        rcases List.mem_cons.1 hr with rfl | hr
        · exact ⟨Nat.eq_of_beq_eq_true h4, h5⟩
        · exact rowsP_spec sz ps (k + 1) rows' h3 row hr
      · cases h
    · cases h
theorem buildSlice_ok (hC : CtxOk C) (H : SimH B S w β h) {t e : TypeId} {ei : TI} (hte : C.P.underlying t = some (.slice e)) (he : C.ty e = some ei) (ps : List (Nat × AV)) (qs : Array (Nat × Value)) (hq : PartsL S w β ps qs.toList) {rows : List (List AV)} (hr : rowsP ei.sz 0 ps = some rows)
    {len : Nat} (hl : rows.length = len) (h0 : 0 < len) (hb : len * ei.sz ≤ 16777216) : Post B S w β s ((do pure (.value (← Instr.buildSlice t len qs)) : Sem Next).run C.P w) (.sl ei.sz rows true) h := by
  obtain ⟨inf, z, i1, i2, i3, i4, i5, i6, i7, i8⟩ := (hC.ty e _ he).info
  have hz : CellL S w β (List.replicate (len * ei.sz) AV.any) ((Array.range (len * ei.sz)).map (z.cells[· % z.cells.size]!)).toList := by
    have hone : ∀ (i : Nat) u, z.cells[i]? = some u → u.oneCell' = true := (hC.ty e _ he).one inf z i1 i4
    refine ⟨⟨by simp, fun i a u p q => by
      rw [List.getElem?_replicate] at p
      split at p
      · injection p with p; subst p; exact .any _
      · cases p⟩, fun i u hu => ?_⟩
    simp only [Array.getElem?_toList, Array.getElem?_map] at hu
    obtain ⟨k, hk, rfl⟩ := Option.map_eq_some_iff.1 hu
    have hlt : k % z.cells.size < z.cells.size := Nat.mod_lt _ (by omega)
    rw [getElem!_pos z.cells _ hlt]
    exact hone _ _ (Array.getElem?_eq_getElem hlt)
  obtain ⟨vr, g1, g2⟩ := fill_ok (C := C) (pv := fun i => some (i * ei.sz, ei.sz)) (fun i x hx => hx) ps qs.toList _ _ _ hq hz (fill_dense ei.sz ps 0 rows _ hr (by rw [List.length_replicate, hl, Nat.zero_add]))
  have hpos : ¬ len * ei.sz = 0 := Nat.ne_of_gt (Nat.mul_pos h0 i7)
  have run := run_buildSlice (P := C.P) w t e len qs vr inf z hte i1 i4 (by rw [i2]; omega) (by rw [i2]; exact hpos) (by rw [i2]; exact g1)
  have hw : (w.alloc (.cells vr e)).heap = w.heap.push (.cells vr e) := rfl
  have hE : Evo S w (w.alloc (.cells vr e)) := Evo.of_kept (fun b hb => heap_push_old hw hb) H.lt
  have spec := rowsP_spec ei.sz ps 0 rows hr
  have g2' : CellL S w β rows.flatten vr.toList := by simpa using g2
  have hS : ∀ b, S b → S b ∨ b = w.heap.size := fun b hb => .inl hb
  have cell : ∀ (i : Nat) row (j : Nat) a, rows[i]? = some row → row[j]? = some a → ∃ u, vr[i * ei.sz + j]? = some u ∧ u.oneCell' = true ∧ Rep S w β a u := by
    intro i row j a hi hj
    have hf := flatten_get rows (fun r hr => (spec r hr).1) i row j a hi hj
    have hlt : i * ei.sz + j < vr.toList.length := by rw [← g2'.rep.1]; exact (List.getElem?_eq_some_iff.1 hf).1
    exact ⟨vr.toList[i * ei.sz + j], by rw [← Array.getElem?_toList, List.getElem?_eq_getElem hlt], g2'.one _ _ (List.getElem?_eq_getElem hlt), g2'.rep.2 _ _ _ hf (List.getElem?_eq_getElem hlt)⟩
  refine ⟨.slice (some ⟨w.heap.size, 0, none⟩) len len, _, (fun b => S b ∨ b = w.heap.size), β, .inl (by simp only [Sem.run_bind, run, Result.andThen_ok, Sem.run_pure]), ?_, ?_, ⟨hS, hE, (Below.refl B w).alloc H.big _, BtLe.refl _, fun _ _ hx => .inl hx, fun b hb => hb.imp id fun e => ⟨by rw [e]; exact H.big, .inl (by rw [e]; exact Nat.le_refl _)⟩, fun b hb _ => heap_push_old hw hb⟩⟩
  · have hm : len ≤ maxLen := by
      have : len * 1 ≤ len * ei.sz := Nat.mul_le_mul_left _ i7
      unfold maxLen; omega
    rw [← hl]
    refine .sl ei.sz rows true _ rows.length w.heap.size 0 (fun i j => if i < rows.length ∧ j < ei.sz then vr.getD (i * ei.sz + j) (.bool false) else .bool false) (Nat.le_refl _) (by rw [hl]; exact hm) (fun _ => rfl) (fun row hrow => (spec row hrow).1) (fun _ => ⟨rfl, .inr rfl⟩) (fun i row j a hi hj => ?_) (fun i j => ?_) fun i row j a hi hj => ?_
    · obtain ⟨u, k1, k2, k3⟩ := cell i row j a hi hj
      have hil := (List.getElem?_eq_some_iff.1 hi).1
      have hjl : j < ei.sz := by rw [← (spec row (List.mem_of_getElem? hi)).1]; exact (List.getElem?_eq_some_iff.1 hj).1
      rw [if_pos ⟨hil, hjl⟩, cell_of_cells (heap_push_new hw), Nat.zero_add, Array.getD_eq_getD_getElem?, k1]
      rfl
    · show (if i < rows.length ∧ j < ei.sz then vr.getD (i * ei.sz + j) (.bool false) else .bool false).oneCell' = true
      by_cases hc : i < rows.length ∧ j < ei.sz
      · have hrow : rows[i]? = some rows[i] := List.getElem?_eq_getElem hc.1
        have hjl : j < rows[i].length := by rw [(spec _ (List.mem_of_getElem? hrow)).1]; exact hc.2
        obtain ⟨u, k1, k2, k3⟩ := cell i _ j _ hrow (List.getElem?_eq_getElem hjl)
        rw [if_pos hc, Array.getD_eq_getD_getElem?, k1]
        exact k2
      · rw [if_neg hc]; rfl
    · obtain ⟨u, k1, k2, k3⟩ := cell i row j a hi hj
      have hil := (List.getElem?_eq_some_iff.1 hi).1
      have hjl : j < ei.sz := by rw [← (spec row (List.mem_of_getElem? hi)).1]; exact (List.getElem?_eq_some_iff.1 hj).1
      rw [if_pos ⟨hil, hjl⟩, Array.getD_eq_getD_getElem?, k1]
      exact closed_rep (k3.mono hS hE (BtLe.refl _)) (closedL_get row (spec row (List.mem_of_getElem? hi)).2 j a hj) noB
  · have hsz : (w.alloc (.cells vr e)).heap.size = w.heap.size + 1 := by rw [hw]; simp
    refine ⟨fun s' blk' hs' => ?_, H.inj, fun b hb => ?_, by rw [hsz]; have := H.big; omega⟩
    · obtain ⟨l', cs', e', fr', k1, k2, k3, k4, k5, k6⟩ := H.own s' blk' hs'
      refine ⟨l', cs', e', fr', k1, (heap_push_old hw (lt_of_heap k2)).trans k2, k3, k4, fun hb => ?_, k6.mono hS hE (BtLe.refl _)⟩
      rcases hb with hb | hb
      · exact k5 hb
      · have := lt_of_heap k2; omega
    · rw [hsz]
      rcases hb with hb | hb
      · have := H.lt b hb; omega
      · omega
theorem buildSlice0_ok (hC : CtxOk C) (H : SimH B S w β h) {t e : TypeId} {ei : TI} (hte : C.P.underlying t = some (.slice e)) (he : C.ty e = some ei) (qs : Array (Nat × Value)) (hq : qs.toList = []) :
    Post B S w β s ((do pure (.value (← Instr.buildSlice t 0 qs)) : Sem Next).run C.P w) (.sl ei.sz [] true) h := by
  obtain ⟨inf, z, i1, i2, i3, i4, i5, i6, i7, i8⟩ := (hC.ty e _ he).info
  have run : (Instr.buildSlice t 0 qs).run C.P w = .ok (.slice (some ⟨w.heap.size, 0, none⟩) 0 0) (w.alloc (.cells #[] e)) := by
    have hr : Array.range 0 = #[] := rfl
    unfold Instr.buildSlice
    simp [run_underlying hte, sizeOf, typeInfo, i1, hq, hr, Instr.fill, newRow, newObj, Sem.run_bind, Result.andThen]
    rfl
  have hw : (w.alloc (.cells #[] e)).heap = w.heap.push (.cells #[] e) := rfl
  have hE : Evo S w (w.alloc (.cells #[] e)) := Evo.of_kept (fun b hb => heap_push_old hw hb) H.lt
  refine ⟨.slice (some ⟨w.heap.size, 0, none⟩) 0 0, _, S, β, .inl (by simp only [Sem.run_bind, run, Result.andThen_ok, Sem.run_pure]), ?_, ?_, ⟨fun _ h => h, hE, (Below.refl B w).alloc H.big _, BtLe.refl _, fun _ _ hx => .inl hx, fun b hb => .inl hb, fun b hb _ => heap_push_old hw hb⟩⟩
  · exact .sl ei.sz [] true _ 0 0 0 (fun _ _ => .bool false) (by simp) (by simp) (fun _ => rfl) (fun _ h => by simp at h) (fun h => by simp at h) (fun i row j a h => by simp at h) (fun _ _ => rfl) (fun i row j a h => by simp at h)
  · have hsz : (w.alloc (.cells #[] e)).heap.size = w.heap.size + 1 := by rw [hw]; simp
    refine ⟨fun s' blk' hs' => ?_, H.inj, fun b hb => ?_, by rw [hsz]; have := H.big; omega⟩
    · obtain ⟨l', cs', e', fr', k1, k2, k3, k4, k5, k6⟩ := H.own s' blk' hs'
      exact ⟨l', cs', e', fr', k1, (heap_push_old hw (lt_of_heap k2)).trans k2, k3, k4, k5, k6.mono (fun _ h => h) hE (BtLe.refl _)⟩
    · have := H.lt b hb; rw [hsz]; omega
end
end Go.Proofs.YtpefnjbmbfdmmaaDoor
