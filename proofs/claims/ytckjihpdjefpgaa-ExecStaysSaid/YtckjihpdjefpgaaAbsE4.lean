/- The second machine and the model: copy, make, slice literals, bytes and strings. -/
import Derived.Test.YtckjihpdjefpgaaAbsE3
namespace Go.Proofs.Ytckjihpdjefpgaa
open Go.RowKit
section
variable {C : Ctx} {S : Nat → Prop} {w w' : World} {β : Bt} {B : Nat} {h : AH} {s : Nat}

theorem copy_ok (hC : CtxOk C) (H : SimH B S w β h) (ts : List TypeId) (ty : TypeId) {x y : AV} {vx vy : Value} (hx : Rep S w β x vx) (hy : Rep S w β y vy) :
    ResPost B S w β h s ((do pure (.value (← Builtin.copy_ ts.toArray ty #[vx, vy])) : Sem Next).run C.P w) (copyA C h ts x y) := by
  unfold copyA
  split
  · trivial
  · rename_i t rest
    split
    · rename_i e sz ag z by_ eq ht
      have hte : C.P.underlying t = some (.slice e) := (hC.ty t _ ht).kd
      split
      · rename_i ei s0 lo len clip he
        split
        · rename_i rows rs rc c h0 hrc
          split
          · rename_i e1 e2
            have e1 := Nat.eq_of_beq_eq_true e1
            have e2 := Nat.eq_of_beq_eq_true e2
            subst e1; subst e2
            rintro ⟨p1, p2⟩
            obtain ⟨u, R, hlen, hf⟩ := rows_src (C := C) H hy hrc p2
            obtain ⟨l, cs, ee, fr, k1, k2, k3, k4, k5, k6, k7, k8⟩ := H.own s0 _ h0
            cases hx with
            | osl _ _ _ _ l' A cap hl hc hm hcl hA cs' e' fr' hb room =>
            obtain rfl : l' = l := by rw [hl] at k1; exact Option.some.inj k1
            rw [k2] at hb
            injection hb with hb; injection hb with q1 q2 q3
            subst q1; subst q2; subst q3
            have hn : min c.length len ≤ c.length := Nat.min_le_left _ _
            have hn2 : min c.length len ≤ len := Nat.min_le_right _ _
            have hfirst := hf w (fun _ _ => rfl) (min c.length len) hn
            have fit : l'.base + lo * l'.rs + (flatU (min c.length len) ei.sz u).length ≤ cs.size := by
              rw [flatU_length, ← k6, Nat.add_assoc, ← Nat.add_mul]
              exact Nat.le_trans (Nat.add_le_add_left (Nat.mul_le_mul_right _ (by omega)) _) room
            have hone : ∀ x ∈ flatU (min c.length len) ei.sz u, x.oneCell' = true := by
              intro x hx
              simp only [flatU, List.mem_map, List.mem_range] at hx
              obtain ⟨k, hk, rfl⟩ := hx
              have h0' : 0 < ei.sz := Nat.pos_of_ne_zero fun e => by rw [e] at hk; simp at hk
              have hi : k / ei.sz < c.length := Nat.lt_of_lt_of_le (Nat.div_lt_of_lt_mul (by rw [Nat.mul_comm]; exact hk)) hn
              have hr : c[k / ei.sz]? = some c[k / ei.sz] := List.getElem?_eq_getElem hi
              have hj : k % ei.sz < c[k / ei.sz].length := by rw [R.len _ (List.mem_of_getElem? hr)]; exact Nat.mod_lt _ h0'
              exact (R.rep _ _ _ _ hr (List.getElem?_eq_getElem hj)).1
            have run : (Builtin.copy_ (t :: rest).toArray ty #[.slice A len cap, vy]).run C.P w = .ok (.int .i64 ((min c.length len : Nat) : Int)) (w.setCells l'.blk (l'.base + lo * l'.rs) (flatU (min c.length len) ei.sz u)) := by
              have hst : ∀ a, A = some a → (storeCells a (flatU (min c.length len) ei.sz u)).run C.P w = .ok () (w.setCells l'.blk (l'.base + lo * l'.rs) (flatU (min c.length len) ei.sz u)) := by
                intro a ha
                rcases Nat.eq_zero_or_pos cap with hc0 | hc0
                · have : min c.length len = 0 := by omega
                  rw [this]
                  simp [flatU, storeCells, World.setCells]
                · rw [hA hc0] at ha
                  injection ha with ha; subst ha
                  have := run_storeCells_cells (P := C.P) l'.blk (l'.base + lo * l'.rs) (flatU (min c.length len) ei.sz u) 0 w (fun j hj => by rw [cell_of_cells k2, Array.getElem?_eq_getElem (by omega)]; rfl) (fun j hj => frozen_of_cells k2 k3 _ (by omega)) hone
                  simpa using this
              have hnone : A = none → min c.length len = 0 := fun ha => by
                rcases Nat.eq_zero_or_pos cap with hc0 | hc0
                · omega
                · rw [hA hc0] at ha; cases ha
              cases A with
              | none =>
                have hz := hnone rfl
                rw [hz] at hfirst ⊢
                have hz' : Nat.min c.length len = 0 := hz
                simp only [Builtin.copy_, List.getElem?_toArray, List.getElem?_cons_zero, List.getElem?_cons_succ, Sem.run_bind, run_underlying hte, Result.andThen_ok, hlen, run_size hC he, hz', hfirst, Sem.run_pure, goInt]
                simp [flatU, World.setCells]
              | some a =>
                have hmin : Nat.min c.length len = min c.length len := rfl
                simp only [Builtin.copy_, List.getElem?_toArray, List.getElem?_cons_zero, List.getElem?_cons_succ, Sem.run_bind, run_underlying hte, Result.andThen_ok, hlen, run_size hC he, hmin, hfirst, hst a rfl, Sem.run_pure, goInt]
            have hrow : ∀ (i : Nat) row, (rows.take lo ++ c.take (min c.length len) ++ rows.drop (lo + min c.length len))[i]? = some row → (lo ≤ i ∧ i < lo + min c.length len ∧ c[i - lo]? = some row) ∨ (¬ (lo ≤ i ∧ i < lo + min c.length len) ∧ rows[i]? = some row) := by
              intro i row hi
              have h1 : (rows.take lo).length = lo := by rw [List.length_take]; omega
              have h2 : (c.take (min c.length len)).length = min c.length len := by rw [List.length_take]; omega
              by_cases g1 : i < lo
              · rw [List.append_assoc, List.getElem?_append_left (by omega), List.getElem?_take, if_pos g1] at hi
                exact .inr ⟨by omega, hi⟩
              · by_cases g2 : i < lo + min c.length len
                · rw [List.append_assoc, List.getElem?_append_right (by omega), List.getElem?_append_left (by omega), List.getElem?_take, h1, if_pos (by omega)] at hi
                  exact .inl ⟨by omega, g2, hi⟩
                · rw [List.getElem?_append_right (by rw [List.length_append]; omega), List.getElem?_drop, List.length_append, h1, h2] at hi
                  refine .inr ⟨by omega, ?_⟩
                  rw [← hi]; congr 1; omega
            obtain ⟨r1, r2⟩ := store_in (s := s) H h0 hl k2 k4 (flatU (min c.length len) ei.sz u) (l'.base + lo * l'.rs) fit (blk := .arr (rows.take lo ++ c.take (min c.length len) ++ rows.drop (lo + min c.length len)) ei.sz) (fun w' cs' hE hget => by
              refine ⟨k6, fun row hr => ?_, fun i row j a hi hj => ?_⟩
              · obtain ⟨i, hi⟩ := List.mem_iff_getElem?.1 hr
                rcases hrow i row hi with ⟨_, _, hh⟩ | ⟨_, hh⟩
                · exact R.len row (List.mem_of_getElem? hh)
                · exact k7 row (List.mem_of_getElem? hh)
              · rw [← k6]
                rcases hrow i row hi with ⟨g1, g2, hh⟩ | ⟨g1, hh⟩
                · have hjl : j < l'.rs := by rw [k6, ← R.len row (List.mem_of_getElem? hh)]; exact (List.getElem?_eq_some_iff.1 hj).1
                  obtain ⟨t1, t2⟩ := R.rep _ row j a hh hj
                  refine ⟨u (i - lo) j, ?_, t1, t2.mono (fun _ h => h) hE (BtLe.refl _)⟩
                  have hlt := rowcol_lt (rc := l'.rs) (by omega : i - lo < min c.length len) hjl
                  have e1 : i * l'.rs = lo * l'.rs + (i - lo) * l'.rs := by rw [← Nat.add_mul]; congr 1; omega
                  rw [hget, if_pos (by rw [flatU_length, ← k6]; omega), show l'.base + i * l'.rs + j - (l'.base + lo * l'.rs) = (i - lo) * l'.rs + j by omega, ← k6]
                  exact flatU_at _ _ _ (by omega) hjl
                · have hjl : j < l'.rs := by rw [k6, ← k7 row (List.mem_of_getElem? hh)]; exact (List.getElem?_eq_some_iff.1 hj).1
                  obtain ⟨v, t0, t1, t2⟩ := k8 i row j a hh hj
                  rw [← k6] at t0
                  refine ⟨v, ?_, t1, t2.mono (fun _ h => h) hE (BtLe.refl _)⟩
                  rw [hget, if_neg ?_]
                  · exact t0
                  · rw [flatU_length, ← k6]
                    rintro ⟨q1, q2⟩
                    by_cases g2 : i < lo
                    · have := rowcol_lt g2 hjl
                      omega
                    · have g3 : lo + min c.length len ≤ i := by omega
                      have : (lo + min c.length len) * l'.rs ≤ i * l'.rs := Nat.mul_le_mul_right _ g3
                      rw [Nat.add_mul] at this
                      omega)
            exact ⟨_, _, S, β, .inl (by simp only [Sem.run_bind, run, Result.andThen_ok, Sem.run_pure]), .v _, r1, r2⟩
          · trivial
        · trivial
      · trivial
    · trivial
end
end Go.Proofs.Ytckjihpdjefpgaa
