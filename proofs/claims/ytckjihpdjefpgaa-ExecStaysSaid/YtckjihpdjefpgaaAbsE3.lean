/- The second machine and the model: append, copy, make, slice literals, bytes and strings. -/
import Derived.Test.YtckjihpdjefpgaaAbsE2
namespace Go.Proofs.Ytckjihpdjefpgaa
open Go.RowKit
section
variable {C : Ctx} {S : Nat → Prop} {w w' : World} {β : Bt} {B : Nat} {h : AH} {s : Nat}

def ResPost (B : Nat) (S : Nat → Prop) (w : World) (β : Bt) (h : AH) (s : Nat) (r : Result Next) : Res → Prop
  | .bad => True
  | .ok x => Post B S w β s r x h
  | .need p x => p → Post B S w β s r x h
  | .idx rows i f => ∀ row x, 0 ≤ i → rows[i.toNat]? = some row → f row = some x → Post B S w β s r x h
  | .fx p x h' => p → Post B S w β s r x h'
  | .idxfx rows i f => ∀ row h', 0 ≤ i → rows[i.toNat]? = some row → f row = some h' → Post B S w β s r .any h'
  | .str p rows => ∀ l, p → bytesOfRows rows = some l → Post B S w β s r (.v (.string ⟨l.toArray⟩)) h
  | .call _ _ => False

theorem ResOk.post {P : Program} {x : Res} {r : Sem Value} (H : SimH B S w β h) (hr : ResOk P S w β r x) : ResPost B S w β h s ((do pure (.value (← r)) : Sem Next).run P w) x := by
  cases x <;> simp only [ResOk, ResPost] at hr ⊢
  · exact Post.of_yld H hr
  · exact fun hp => Post.of_yld H (hr hp)
  · exact fun row x h0 h1 h2 => Post.of_yld H (hr row x h0 h1 h2)
  · exact fun l hp h0 => Post.of_yld H (hr l hp h0)

/-- An append into the room that is there. -/
theorem append_room (hC : CtxOk C) (H : SimH B S w β h) (hs : β s = none) {t tx ty e : TypeId} {tk ei : TI} (hte : C.P.underlying t = some (.slice e)) (htx : C.ty tx = some tk) (hk : appKd tk.kd = true) (he : C.ty e = some ei)
    {y : AV} {vx vy : Value} {s0 lo n cap : Nat} {A : Option Addr} {rows c : List (List AV)} (hx : Rep S w β (.osl s0 lo n false) (.slice A n cap)) (h0 : h s0 = some (.arr rows ei.sz)) (hln : lo + n = rows.length) (hy : Rep S w β y vy) (hr : rowsOf h y = some (ei.sz, c)) (hlk : lenOk h y)
    (hg : n + c.length ≤ cap) :
    Post B S w β s ((do pure (.value (← Builtin.append_ #[t, tx] ty #[.slice A n cap, vy])) : Sem Next).run C.P w) (.osl s 0 (n + c.length) false) (upd (upd h s0 none) s (some (.arr ((rows.drop lo).take n ++ c) ei.sz))) := by
  obtain ⟨uc, Rc, src⟩ := src_of (tk := tk) H (kd_src hC htx hk) hy hr hlk
  obtain ⟨inf, z, i1, i2, i3, i4, i5, i6, i7, i8⟩ := (hC.ty e _ he).info
  obtain ⟨l, cs, ee, fr, k1, k2, k3, k4, k5, k6, k7, k8⟩ := H.own s0 _ h0
  cases hx with
  | osl _ _ _ _ l' _ _ hl hc hm hcl hA cs' e' fr' hb room =>
  obtain rfl : l' = l := by rw [hl] at k1; exact Option.some.inj k1
  rw [k2] at hb
  injection hb with hb; injection hb with q1 q2 q3
  subst q1; subst q2; subst q3
  have hss0 : s ≠ s0 := fun e => by rw [e, hl] at hs; cases hs
  -- the step
  have fit : l'.base + lo * l'.rs + n * l'.rs + (flatU c.length ei.sz uc).length ≤ cs.size := by
    rw [flatU_length, ← k6, Nat.add_assoc, Nat.add_assoc, ← Nat.add_mul, ← Nat.add_mul]
    exact Nat.le_trans (Nat.add_le_add_left (Nat.mul_le_mul_right _ (by omega)) _) room
  obtain ⟨cs', a1, a2, a3, a4, a5⟩ := setCells_heap l'.blk (flatU c.length ei.sz uc) (l'.base + lo * l'.rs + n * l'.rs) w cs ee fr k2 fit
  have hbel := below_setCells (B := B) k4 (flatU c.length ei.sz uc) (l'.base + lo * l'.rs + n * l'.rs) w
  have run : (Builtin.append_ #[t, tx] ty #[.slice A n cap, vy]).run C.P w = .ok (.slice A (n + c.length) cap) (w.setCells l'.blk (l'.base + lo * l'.rs + n * l'.rs) (flatU c.length ei.sz uc)) := by
    rcases Nat.eq_zero_or_pos cap with hc0 | hc0
    · have hn0 : n = 0 := by omega
      have hcl0 : c.length = 0 := by omega
      have hlen := src.len
      rw [hcl0] at hlen
      have hcells := src.cells
      rw [hcl0] at hcells
      have hfl : flatU 0 ei.sz uc = [] := by simp [flatU]
      rw [hcl0, hfl] 
      rw [hfl] at hcells
      subst hn0
      rcases src.kind with ⟨e', hk'⟩ | hk' <;> cases A <;> simp [Builtin.append_, run_underlying hte, run_underlying hk', sizeOf, typeInfo, i1, i2, hlen, hcells, World.setCells, storeCells]
    · rw [hA hc0]
      have h1 : ∀ j, j < (flatU c.length ei.sz uc).length → (w.cell? ⟨l'.blk, l'.base + lo * l'.rs + n * inf.size + j, none⟩).isSome = true := fun j hj => by
        rw [i2, ← k6, cell_of_cells k2, Array.getElem?_eq_getElem (by omega)]; rfl
      have h2 : ∀ j, j < (flatU c.length ei.sz uc).length → w.frozen? ⟨l'.blk, l'.base + lo * l'.rs + n * inf.size + j, none⟩ = false := fun j hj => by
        rw [i2, ← k6]; exact frozen_of_cells k2 k3 _ (by omega)
      have := run_append_room_src (P := C.P) w t tx ty e inf hte i1 l'.blk (l'.base + lo * l'.rs) n cap vy c.length (flatU c.length ei.sz uc) (by rw [i2]; exact src) hg h1 h2
      rw [i2, ← k6] at this
      rw [← k6]
      exact this
  have hle : BtLe β (upd β s (some ⟨l'.blk, l'.base + lo * l'.rs, l'.rs⟩)) := BtLe.upd hs _
  have hE : Evo S w (w.setCells l'.blk (l'.base + lo * l'.rs + n * l'.rs) (flatU c.length ei.sz uc)) := ⟨fun b hSb => a5 b (fun e => k5 (e ▸ hSb)), fun b c1 e1 f1 h1 => by
    by_cases hq : b = l'.blk
    · subst hq
      rw [k2] at h1
      injection h1 with h1; injection h1 with q1 q2 q3
      subst q1; subst q2; subst q3
      exact ⟨cs', a1, a2⟩
    · exact ⟨c1, (a5 b hq).trans h1, rfl⟩⟩
  have htl : ((rows.drop lo).take n).length = n := by rw [List.length_take, List.length_drop]; omega
  refine ⟨.slice A (n + c.length) cap, _, S, upd β s (some ⟨l'.blk, l'.base + lo * l'.rs, l'.rs⟩), .inl (by simp only [Sem.run_bind, run, Result.andThen_ok, Sem.run_pure]), ?_, ?_, ⟨fun _ h => h, hE, hbel, hle, fun x k hx => ?_, fun _ h => .inl h⟩⟩
  · refine .osl s 0 (n + c.length) false ⟨l'.blk, l'.base + lo * l'.rs, l'.rs⟩ A cap (upd_same _ _ _) hg hm (fun h => by cases h) (fun h0 => by rw [hA h0]; simp) cs' ee fr a1 ?_
    rw [a2]
    show l'.base + lo * l'.rs + (0 + cap) * l'.rs ≤ cs.size
    rw [Nat.add_assoc, ← Nat.add_mul, Nat.zero_add]
    exact room
  · refine ⟨fun s' blk' hs' => ?_, fun s1 s2 l1 l2 h1 h2 e1 e2 hbb => ?_, fun b hb => by have := H.lt b hb; rw [a4]; exact this, by rw [a4]; exact H.big⟩
    · by_cases he' : s' = s
      · subst he'
        rw [upd_same] at hs'
        injection hs' with hs'; subst hs'
        refine ⟨⟨l'.blk, l'.base + lo * l'.rs, l'.rs⟩, cs', ee, fr, upd_same _ _ _, a1, by rw [a2]; exact k3, k4, k5, k6, fun row hrow => ?_, fun i row j a hi hj => ?_⟩
        · rcases List.mem_append.1 hrow with h | h
          · exact k7 row (List.mem_of_mem_drop (List.mem_of_mem_take h))
          · exact Rc.len row h
        · suffices hh : ∃ u, cs'[l'.base + lo * l'.rs + i * l'.rs + j]? = some u ∧ u.oneCell' = true ∧ Rep S (w.setCells l'.blk (l'.base + lo * l'.rs + n * l'.rs) (flatU c.length ei.sz uc)) noB a u by
            obtain ⟨u, hu, hu2⟩ := hh
            exact ⟨u, by show cs'[l'.base + lo * l'.rs + i * ei.sz + j]? = _; rw [← k6]; exact hu, hu2⟩
          by_cases hin : i < n
          · rw [List.getElem?_append_left (by rw [htl]; exact hin), List.getElem?_take, if_pos hin, List.getElem?_drop] at hi
            obtain ⟨u, p1, p2, p3⟩ := k8 (lo + i) row j a hi hj
            have hjl : j < l'.rs := by rw [k6, ← k7 row (List.mem_of_getElem? hi)]; exact (List.getElem?_eq_some_iff.1 hj).1
            refine ⟨u, ?_, p2, p3.mono (fun _ h => h) hE (BtLe.refl _)⟩
            rw [a3, if_neg ?_]
            · rw [← p1, ← k6]; congr 1; rw [Nat.add_mul]; omega
            · rintro ⟨g1, _⟩
              have := rowcol_lt hin hjl
              omega
          · rw [List.getElem?_append_right (by rw [htl]; omega), htl] at hi
            have hjl : j < l'.rs := by rw [k6, ← Rc.len row (List.mem_of_getElem? hi)]; exact (List.getElem?_eq_some_iff.1 hj).1
            have hil : i - n < c.length := (List.getElem?_eq_some_iff.1 hi).1
            obtain ⟨r1, r2⟩ := Rc.rep _ row j a hi hj
            refine ⟨uc (i - n) j, ?_, r1, r2.mono (fun _ h => h) hE (BtLe.refl _)⟩
            have e1 : i * l'.rs = n * l'.rs + (i - n) * l'.rs := by rw [← Nat.add_mul]; congr 1; omega
            have hlt := rowcol_lt (rc := l'.rs) hil hjl
            rw [a3, if_pos (by rw [flatU_length, ← k6]; omega), show l'.base + lo * l'.rs + i * l'.rs + j - (l'.base + lo * l'.rs + n * l'.rs) = (i - n) * l'.rs + j by omega, ← k6]
            exact flatU_at _ _ _ hil hjl
      · rw [upd_other _ _ he'] at hs'
        by_cases he2 : s' = s0
        · subst he2; rw [upd_same] at hs'; cases hs'
        · rw [upd_other _ _ he2] at hs'
          obtain ⟨l2, cs2, e2, fr2, j1, j2, j3, j4, j5, j6⟩ := H.own s' blk' hs'
          have hne : l2.blk ≠ l'.blk := fun q => he2 (H.inj s' s0 l2 l' (by rw [hs']; simp) (by rw [h0]; simp) j1 hl q)
          exact ⟨l2, cs2, e2, fr2, hle _ _ j1, (a5 _ hne).trans j2, j3, j4, j5, j6.mono (fun _ h => h) hE hle⟩
    · have old : ∀ s1 l1, s1 ≠ s → upd (upd h s0 none) s (some (.arr ((rows.drop lo).take n ++ c) ei.sz)) s1 ≠ none → upd β s (some ⟨l'.blk, l'.base + lo * l'.rs, l'.rs⟩) s1 = some l1 → s1 ≠ s0 ∧ h s1 ≠ none ∧ β s1 = some l1 := by
        intro s1 l1 hn h1 e1
        rw [upd_other _ _ hn] at h1 e1
        by_cases he2 : s1 = s0
        · rw [he2, upd_same] at h1; exact absurd rfl h1
        · rw [upd_other _ _ he2] at h1; exact ⟨he2, h1, e1⟩
      by_cases n1 : s1 = s
      · by_cases n2 : s2 = s
        · rw [n1, n2]
        · subst n1
          rw [upd_same] at e1
          injection e1 with e1; subst e1
          obtain ⟨b0, b1, b2⟩ := old s2 l2 n2 h2 e2
          exact absurd (H.inj s2 s0 l2 l' b1 (by rw [h0]; simp) b2 hl hbb.symm) b0
      · by_cases n2 : s2 = s
        · subst n2
          rw [upd_same] at e2
          injection e2 with e2; subst e2
          obtain ⟨b0, b1, b2⟩ := old s1 l1 n1 h1 e1
          exact absurd (H.inj s1 s0 l1 l' b1 (by rw [h0]; simp) b2 hl hbb) b0
        · obtain ⟨_, a1', a2'⟩ := old s1 l1 n1 h1 e1
          obtain ⟨_, b1, b2⟩ := old s2 l2 n2 h2 e2
          exact H.inj s1 s2 l1 l2 a1' b1 a2' b2 hbb
  · by_cases he' : x = s
    · exact .inr he'
    · rw [upd_other _ _ he'] at hx; exact .inl hx

/-- What was known of a block is forgotten. -/
theorem SimH.forget (H : SimH B S w β h) (s0 : Nat) : SimH B S w β (upd h s0 none) := by
  have old : ∀ s1, upd h s0 none s1 ≠ none → h s1 ≠ none := fun s1 h1 => by
    by_cases he : s1 = s0
    · rw [he, upd_same] at h1; exact absurd rfl h1
    · rwa [upd_other _ _ he] at h1
  refine ⟨fun s' blk hs' => ?_, fun s1 s2 l1 l2 h1 h2 e1 e2 hb => H.inj s1 s2 l1 l2 (old s1 h1) (old s2 h2) e1 e2 hb, H.lt, H.big⟩
  by_cases he : s' = s0
  · rw [he, upd_same] at hs'; cases hs'
  · rw [upd_other _ _ he] at hs'; exact H.own s' blk hs'
theorem Post.forget {r : Result Next} {x : AV} {h' : AH} (s0 : Nat) (hp : Post B S w β s r x h') : Post B S w β s r x (upd h' s0 none) :=
  let ⟨v, w', S', β', a, b, c, d⟩ := hp; ⟨v, w', S', β', a, b, c.forget s0, d⟩

def appendA (C : Ctx) (h : AH) (s : Nat) (ts : List TypeId) (x y : AV) : Res := builtinA C h s .append ts [x, y]

theorem append_ok (hC : CtxOk C) (H : SimH B S w β h) (hs : β s = none) (t tx ty : TypeId) {x y : AV} {vx vy : Value} (hx : Rep S w β x vx) (hy : Rep S w β y vy) :
    ResPost B S w β h s ((do pure (.value (← Builtin.append_ #[t, tx] ty #[vx, vy])) : Sem Next).run C.P w) (builtinA C h s .append [t, tx] [x, y]) := by
  simp only [builtinA, appendV]
  split
  · rename_i e sz ag z by_ eq tk ht htx
    have hte : C.P.underlying t = some (.slice e) := (hC.ty t _ ht).kd
    split
    · rename_i ei he
      split
      · rename_i r0 rows0 ra a rc c hk hrc hra
        simp only [rowsOf] at hra
        injection hra with hra; injection hra with q1 q2
        subst q1; subst q2
        split
        · rename_i e1 e3
          have e3 := Nat.eq_of_beq_eq_true e3
          subst e3
          rintro ⟨p1, p2, p3, p4⟩
          cases hx with
          | sl _ _ _ A cc b o u hc hm hcl hrs hA hw h1 hr' =>
          have ha : rows0 = [] := List.eq_nil_of_length_eq_zero p1
          subst ha
          have hcc := hcl rfl
          have hold : (Builtin.firstCells ei.sz 0 (.slice A 0 cc)).run C.P w.drew = .ok (flatU 0 ei.sz (fun _ _ => undef)).toArray w.drew := by
            have : flatU 0 ei.sz (fun _ _ => undef) = [] := by simp [flatU]
            rw [this]
            cases A with
            | none => exact run_firstCells_none w.drew ei.sz 0 0 cc
            | some A => exact run_firstCells_some w.drew ei.sz 0 A 0 cc [] (by simp) (by simp)
          have := append_grow (s := s) (ti := ⟨.slice e, sz, ag, z, by_, eq⟩) (ra := 0) (rc := 0) hC H hs hte htx hk he (a := []) (ua := fun _ _ => undef) (n := 0) ⟨by simp, by simp⟩ rfl hold hy hrc p4 (by simp at hcc; omega) (by omega) (ty := ty)
          simpa using this
        · rename_i e1 e2 e3
          have e2 := Nat.eq_of_beq_eq_true e2
          have e3 := Nat.eq_of_beq_eq_true e3
          subst e3
          rintro ⟨p1, p2, p3, p4⟩
          obtain ⟨u, R, hl, hf⟩ := rows_src (C := C) H hx (rc := r0) (rows := rows0) rfl p3
          cases hx with
          | sl _ _ _ A cc b o u' hc hm hcl hrs hA hw h1 hr' =>
          subst e2
          have hcc := hcl rfl
          exact append_grow (s := s) (ti := ⟨.slice e, sz, ag, z, by_, eq⟩) (ra := 0) (rc := 0) hC H hs hte htx hk he R rfl (hf w.drew (fun _ _ => rfl) _ (Nat.le_refl _)) hy hrc p4 (by omega) (by omega) (ty := ty)
        · trivial
      · rename_i s0 lo len ra a rc c hk hrc hra
        split
        · rename_i e2 e3
          have e2 := Nat.eq_of_beq_eq_true e2
          have e3 := Nat.eq_of_beq_eq_true e3
          subst e2; subst e3
          rintro ⟨p1, p2, p3, p4⟩
          obtain ⟨u, R, hl, hf⟩ := rows_src (C := C) H hx hra p3
          cases hx with
          | osl _ _ _ _ l A cc hl' hc hm hcl hA cs ee fr hb room =>
          have hcc := hcl rfl
          have hn : a.length = len := by
            have := hl w
            simp only [Builtin.lenOf, Sem.run_pure] at this
            injection this with this _
            exact this.symm
          subst hn
          exact append_grow (s := s) (ti := ⟨.slice e, sz, ag, z, by_, eq⟩) (ra := 0) (rc := 0) hC H hs hte htx hk he R rfl (hf w.drew (fun _ _ => rfl) _ (Nat.le_refl _)) hy hrc p4 (by omega) (by omega) (ty := ty)
        · trivial
      · rename_i s0 lo len ra a rc c hk hrc hra
        split
        · rename_i rows rs h0 e2 e3
          have h0 : h s0 = some (.arr rows rs) := h0
          have e2 := Nat.eq_of_beq_eq_true e2
          have e3 := Nat.eq_of_beq_eq_true e3
          subst e2; subst e3
          rintro ⟨p1, p2, p4⟩
          have p3 : lenOk h (.osl s0 lo len false) := by simp only [lenOk, h0]; omega
          obtain ⟨u, R, hl, hf⟩ := rows_src (C := C) H hx hra p3
          simp only [rowsOf, h0] at hra
          injection hra with hra; injection hra with q1 q2
          subst q1
          have htl : a.length = len := by rw [← q2, List.length_take, List.length_drop]; omega
          have hx' := hx
          cases hx with
          | osl _ _ _ _ l A cap hl' hc hm hcl hA cs ee fr hb room =>
          by_cases hg : len + c.length ≤ cap
          · have := append_room (s := s) hC H hs hte htx hk he (ty := ty) (vx := undef) hx' h0 p2 hy hrc p4 hg
            rw [q2] at this
            rw [htl]
            exact this
          · subst htl
            have := (append_grow (s := s) (ti := ⟨.slice e, sz, ag, z, by_, eq⟩) (ra := 0) (rc := 0) hC H hs hte htx hk he R rfl (hf w.drew (fun _ _ => rfl) _ (Nat.le_refl _)) hy hrc p4 (by omega) (by omega) (ty := ty)).forget s0
            have hss0 : s ≠ s0 := fun e => by rw [e, hl'] at hs; cases hs
            rw [show upd (upd h s (some (.arr (a ++ c) ei.sz))) s0 none = upd (upd h s0 none) s (some (.arr (a ++ c) ei.sz)) from by
              funext k
              by_cases h1 : k = s0
              · subst h1; rw [upd_same, upd_other _ _ (Ne.symm hss0), upd_same]
              · rw [upd_other _ _ h1]
                by_cases h2 : k = s
                · subst h2; rw [upd_same, upd_same]
                · rw [upd_other _ _ h2, upd_other _ _ h2, upd_other _ _ h1]] at this
            exact this
        · trivial
      · trivial
    · trivial
  · trivial
end
end Go.Proofs.Ytckjihpdjefpgaa
