/- The second machine and the model: one operation, whatever it is. -/
import Derived.Test.YtckjihpdjefpgaaAbsE5
namespace Go.Proofs.Ytckjihpdjefpgaa
open Go.RowKit
section
variable {C : Ctx} {S : Nat → Prop} {w w' : World} {β : Bt} {B : Nat} {h : AH} {s : Nat}

theorem RepL.of_map {ev : Operand → AV} {ρ : Operand → Value} : ∀ (l : List Operand), (∀ x ∈ l, Rep S w β (ev x) (ρ x)) → RepL S w β (l.map ev) (l.map ρ)
  | [], _ => RepL.nil _ _ _
  | x :: l, H => RepL.cons (H x (List.mem_cons_self)) (RepL.of_map l fun y hy => H y (List.mem_cons_of_mem _ hy))
theorem RepL.append {a b : List AV} {u v : List Value} (h : RepL S w β a u) (k : RepL S w β b v) : RepL S w β (a ++ b) (u ++ v) := by
  refine ⟨by simp [h.1, k.1], fun i x y p q => ?_⟩
  by_cases hi : i < a.length
  · rw [List.getElem?_append_left hi] at p
    rw [List.getElem?_append_left (by rw [← h.1]; exact hi)] at q
    exact h.2 i x y p q
  · rw [List.getElem?_append_right (by omega)] at p
    rw [List.getElem?_append_right (by rw [← h.1]; omega)] at q
    exact k.2 _ x y p (by rw [h.1]; exact q)
theorem PartsL.of_map {ev : Operand → AV} {ρ : Operand → Value} : ∀ (l : List (Nat × Operand)), (∀ x ∈ l, Rep S w β (ev x.2) (ρ x.2)) → PartsL S w β (l.map fun p => (p.1, ev p.2)) (l.map fun p => (p.1, ρ p.2))
  | [], _ => trivial
  | x :: l, H => ⟨rfl, H x (List.mem_cons_self), PartsL.of_map l fun y hy => H y (List.mem_cons_of_mem _ hy)⟩

def OpPost (P : Program) (B : Nat) (S : Nat → Prop) (w : World) (β : Bt) (h : AH) (s : Nat) (m : Sem Next) : Res → Prop
  | .call f args => ∃ vs, RepL S w β args vs ∧ m.run P w = (callFunc f vs.toArray).run P w
  | r => ResPost B S w β h s (m.run P w) r
theorem OpPost.of {P : Program} {m : Sem Next} {r : Res} (hr : ResPost B S w β h s (m.run P w) r) : OpPost P B S w β h s m r := by
  cases r <;> first | exact hr | exact hr.elim

theorem op_sound (hC : CtxOk C) (H : SimH B S w β h) (hs : β s = none) (ev : Operand → AV) (ρ : Operand → Value) (o : Oper) (hev : ∀ x ∈ o.op.operands, Rep S w β (ev x) (ρ x)) :
    OpPost C.P B S w β h s (execOp ρ o) (opA C ev h s o.op) := by
  obtain ⟨dst, op, type, pos, after, guard⟩ := o
  cases op <;> simp only [opA] <;> simp only [Op.operands] at hev <;> try (exact trivial)
  case move x => exact ⟨_, _, S, β, .inl rfl, hev x (by simp), H, StepK.refl _ _ _ _ _⟩
  case assign x => exact ⟨_, _, S, β, .inl rfl, hev x (by simp), H, StepK.refl _ _ _ _ _⟩
  case pick c a b =>
    have := (pick_ok (P := C.P) (hev c (by simp)) (hev a (by simp)) (hev b (by simp))).post (s := s) H
    exact OpPost.of (by simpa only [execOp, bind_pure_comp, Functor.map_map] using this)
  case alloc t =>
    split
    · rename_i cs hcs
      simp only [zeroCellsA] at hcs
      split at hcs
      · rename_i i hi
        exact fun _ => alloc_ok hC H hs t hi hcs
      · cases hcs
    · trivial
  case box t x =>
    split
    · rename_i cs hcs
      exact fun _ => box_ok (C := C) H hs t (hev x (by simp)) hcs
    · trivial
  case build t parts =>
    have hq : PartsL S w β (parts.toList.map fun p => (p.1, ev p.2)) (parts.map fun (i, x) => (i, ρ x)).toList := by
      rw [Array.toList_map]
      exact PartsL.of_map parts.toList fun x hx => hev x.2 (by simp; exact ⟨x.1, by simpa using hx⟩)
    exact OpPost.of ((build_ok hC t _ _ hq).post (s := s) H)
  case buildSlice t len parts =>
    have hq : PartsL S w β (parts.toList.map fun p => (p.1, ev p.2)) (parts.map fun (i, x) => (i, ρ x)).toList := by
      rw [Array.toList_map]
      exact PartsL.of_map parts.toList fun x hx => hev x.2 (by simp; exact ⟨x.1, by simpa using hx⟩)
    split
    · rename_i e sz ag z by_ eq ht
      have hte : C.P.underlying t = some (.slice e) := (hC.ty t _ ht).kd
      split
      · rename_i ei he
        split
        · rename_i rows hr
          split
          · rename_i h1 h2 h3
            exact buildSlice_ok hC H hte he _ _ hq hr (Nat.eq_of_beq_eq_true h1) (Nat.le_of_ble_eq_true h2) (Nat.le_of_ble_eq_true h3)
          · trivial
        · trivial
      · trivial
    · trivial
  case load t a => exact OpPost.of ((load_ok hC H t (hev a (by simp))).post (s := s) H)
  case store t a x =>
    have ha := hev a (by simp)
    have hx := hev x (by simp)
    split
    · rename_i ti cs ht hcs
      split
      · rename_i hl
        split
        · rename_i b c hea
          split
          · rename_i cells hb
            split
            · rename_i hroom
              rw [hea] at ha
              exact fun _ => storeBox_ok hC H ht hcs (Nat.eq_of_beq_eq_true hl) hb (Nat.le_of_ble_eq_true hroom) ha hx
            · trivial
          · trivial
        · rename_i b r c hea
          split
          · rename_i rows rs hb
            rw [hea] at ha
            intro row h' h0 hrow hf
            dsimp only at hf
            split at hf
            · rename_i hroom hcl
              injection hf with hf; subst hf
              exact storeArr_ok hC H ht hcs (Nat.eq_of_beq_eq_true hl) hb (by simpa using hrow) (Nat.le_of_ble_eq_true hroom) hcl ha hx
            · cases hf
          · trivial
        · trivial
      · trivial
    · trivial
  case nilCheck x =>
    have hx := hev x (by simp)
    have pass : ∀ (a : AV) (v : Value), Rep S w β a v → ρ x = v → (execOp ρ ⟨dst, .nilCheck x, type, pos, after, guard⟩).run C.P w = .ok (.value v) w → OpPost C.P B S w β h s (execOp ρ ⟨dst, .nilCheck x, type, pos, after, guard⟩) (.ok a) := fun a v hr hv hrun =>
      ⟨v, w, S, β, .inl hrun, hr, H, StepK.refl _ _ _ _ _⟩
    generalize hv : ρ x = v at hx
    unfold nilA
    split
    · rename_i b c he
      rw [he] at hx
      have hx' := hx
      cases hx with
      | ptr _ _ l hl => exact pass _ _ hx' hv (by simp only [execOp, hv, Sem.run_pure])
    · rename_i b r c he
      rw [he] at hx
      have hx' := hx
      cases hx with
      | ptr2 _ _ _ l hl => exact pass _ _ hx' hv (by simp only [execOp, hv, Sem.run_pure])
    · rename_i a b c he
      rw [he] at hx
      have hx' := hx
      cases hx with
      | dp => exact pass _ _ hx' hv (by simp only [execOp, hv, Sem.run_pure])
    · rename_i a b c he
      rw [he] at hx
      have hx' := hx
      cases hx with
      | clo => exact pass _ _ hx' hv (by simp only [execOp, hv, Sem.run_pure])
    · trivial
  case binOp op t x y yt => exact OpPost.of ((bin_ok hC op t x y (hev x (by simp)) (hev y (by simp))).post (s := s) H)
  case unOp op t x => exact OpPost.of ((un_ok (P := C.P) op (hev x (by simp))).post (s := s) H)
  case convert src dst x =>
    have hx := hev x (by simp)
    have plain : ResPost B S w β h s ((do pure (.value (← convert src dst (ρ x))) : Sem Next).run C.P w) (convA C src dst (ev x)) := (conv_ok hC src dst hx).post H
    unfold convO
    split
    · rename_i e _ _ _ _ _ h1 h2
      split
      · rename_i b _ _ _ _ _ he hq
        rw [he] at hx
        have hb := rep_v hx
        refine fun hb' => ?_
        have := strBytes_ok hC H hs (hC.ty _ _ h1).kd (hC.ty _ _ h2).kd (hC.ty _ _ hq).kd b hb'
        rw [← hb] at this
        exact this
      · trivial
    · rename_i e _ _ _ _ _ h1 h2
      split
      · trivial
      · rename_i a hna
        split
        · rename_i rc rows hq hr
          intro l hlk hl
          exact Post.of_yld H (bytesStr_ok hC H (hC.ty _ _ h1).kd (hC.ty _ _ h2).kd (hC.ty _ _ hq).kd hx (fun b hb => hna _ hb) hr hlk l hl)
        · trivial
    · exact OpPost.of plain
  case makeFunc fn first caps =>
    cases fn with
    | func f =>
      refine ⟨.func (.func f) (first.map ρ) (caps.map ρ), w, S, β, .inl rfl, ?_, H, StepK.refl _ _ _ _ _⟩
      have h1 := RepL.of_map (S := S) (w := w) (β := β) (ev := ev) (ρ := ρ) first.toList fun x hx => hev x (by simp; exact .inl (by simpa using hx))
      have h2 := RepL.of_map (S := S) (w := w) (β := β) (ev := ev) (ρ := ρ) caps.toList fun x hx => hev x (by simp; exact .inr (by simpa using hx))
      exact .clo f _ _ _ _ (by simp) (fun i a u p q => h1.2 i a u p (by rw [← Array.toList_map, Array.getElem?_toList]; exact q)) (by simp) (fun i a u p q => h2.2 i a u p (by rw [← Array.toList_map, Array.getElem?_toList]; exact q))
    | _ => exact trivial
  case makeSlice t l c =>
    have hl := hev l (by simp)
    have hc := hev c (by simp)
    unfold makeA
    split
    · rename_i e _ _ _ _ _ kl l' kc c' ht hel hec
      rw [hel] at hl
      rw [hec] at hc
      have hl' := rep_v hl
      have hc' := rep_v hc
      split
      · rename_i ei he
        split
        · rename_i z hz
          split
          · rename_i hcz
            rintro ⟨p0, p1, p2⟩
            have := make_ok hC H hs (hC.ty _ _ ht).kd he hz hcz kl kc l' c' p0 p1 p2
            rw [← hl', ← hc'] at this
            exact this
          · trivial
        · trivial
      · trivial
    · trivial
  case slice t x lo hi mx =>
    have opt : ∀ (y : Option Operand), (∀ z, y = some z → Rep S w β (ev z) (ρ z)) → (∀ a, y.map ev = some a → ∃ u, y.map ρ = some u ∧ Rep S w β a u) ∧ (y.map ev = none → y.map ρ = none) := by
      intro y hy
      cases y with
      | none => exact ⟨fun a h => (by cases h), fun _ => rfl⟩
      | some z => exact ⟨fun a h => (by injection h with h; subst h; exact ⟨_, rfl, hy z rfl⟩), fun h => (by cases h)⟩
    have h1 := opt lo fun z hz => hev z (by subst hz; simp)
    have h2 := opt hi fun z hz => hev z (by subst hz; simp)
    have h3 := opt mx fun z hz => hev z (by subst hz; simp)
    exact OpPost.of ((slice_ok hC H t (hev x (by simp)) h1.1 h1.2 h2.1 h2.2 h3.1 h3.2).post (s := s) H)
  case fieldAddr t x f => exact OpPost.of ((fieldAddr_ok hC t f (hev x (by simp))).post (s := s) H)
  case field t x f => exact OpPost.of ((field_ok hC t f (hev x (by simp))).post (s := s) H)
  case indexAddr t x i => exact OpPost.of ((indexAddr_ok hC H t (hev x (by simp)) (hev i (by simp))).post (s := s) H)
  case index t x i => exact OpPost.of ((index_ok hC t (hev x (by simp)) (hev i (by simp))).post (s := s) H)
  case extract x i => exact OpPost.of ((extract_ok (P := C.P) i (hev x (by simp))).post (s := s) H)
  case call c =>
    obtain ⟨callee, args, argTypes⟩ := c
    cases callee with
    | builtin b =>
      simp only [Call.operands, Array.empty_append] at hev
      have hargs : RepL S w β (args.toList.map ev) (args.toList.map ρ) := RepL.of_map _ fun x hx => hev x (by simpa using hx)
      have key : ∀ (m : Sem Value) (r : Res), (∀ consts, Go.builtin b argTypes type consts (args.map ρ) = (do pure (.value (← m)) : Sem Next)) → ResPost B S w β h s ((do pure (.value (← m)) : Sem Next).run C.P w) r →
          OpPost C.P B S w β h s (execOp ρ ⟨dst, .call ⟨.builtin b, args, argTypes⟩, type, pos, after, guard⟩) r := by
        intro m r h1 h2
        refine OpPost.of ?_
        have : (execOp ρ ⟨dst, .call ⟨.builtin b, args, argTypes⟩, type, pos, after, guard⟩).run C.P w = (do pure (.value (← m)) : Sem Next).run C.P w := by
          simp only [execOp, resolve, Sem.run_bind, Sem.run_pure, Result.andThen_ok, invoke, h1]
        rw [this]
        exact h2
      have one : ∀ (x : AV), args.toList.map ev = [x] → ∃ v, args.map ρ = #[v] ∧ Rep S w β x v := by
        intro x hx
        rw [hx] at hargs
        have hl : args.toList.length = 1 := by simpa using hargs.1.symm
        match hq : args.toList, hl with
        | [a], _ =>
          refine ⟨ρ a, (by apply Array.ext'; simp [hq]), hargs.2 0 x (ρ a) rfl (by simp [hq])⟩
      have two : ∀ (x y : AV), args.toList.map ev = [x, y] → ∃ v u, args.map ρ = #[v, u] ∧ Rep S w β x v ∧ Rep S w β y u := by
        intro x y hx
        rw [hx] at hargs
        have hl : args.toList.length = 2 := by simpa using hargs.1.symm
        match hq : args.toList, hl with
        | [a, b], _ =>
          refine ⟨ρ a, ρ b, (by apply Array.ext'; simp [hq]), hargs.2 0 x (ρ a) rfl (by simp [hq]), hargs.2 1 y (ρ b) rfl (by simp [hq])⟩
      have hat : ∀ t tx, argTypes.toList = [t, tx] → argTypes = #[t, tx] := fun t tx he => by apply Array.ext'; simp [he]
      have hat1 : ∀ t, argTypes.toList = [t] → argTypes = #[t] := fun t he => by apply Array.ext'; simp [he]
      simp only
      cases b <;> try (simp only [builtinA]; exact trivial)
      case append =>
        match hA : args.toList.map ev with
        | [] => simp only [builtinA]; exact trivial
        | [_] => simp only [builtinA]; exact trivial
        | _ :: _ :: _ :: _ => simp only [builtinA]; exact trivial
        | [x, y] =>
          match hT : argTypes.toList with
          | [] => simp only [builtinA]; exact trivial
          | [_] => simp only [builtinA]; exact trivial
          | _ :: _ :: _ :: _ => simp only [builtinA]; exact trivial
          | [t, tx] =>
            obtain ⟨v, u, hv, hx, hy⟩ := two x y hA
            refine key (Builtin.append_ argTypes type (args.map ρ)) _ (fun _ => rfl) ?_
            rw [hv, hat t tx hT]
            exact append_ok hC H hs t tx type hx hy
      case copy =>
        match hA : args.toList.map ev with
        | [] => simp only [builtinA]; exact trivial
        | [_] => simp only [builtinA]; exact trivial
        | _ :: _ :: _ :: _ => simp only [builtinA]; exact trivial
        | [x, y] =>
          obtain ⟨v, u, hv, hx, hy⟩ := two x y hA
          simp only [builtinA]
          refine key (Builtin.copy_ argTypes type (args.map ρ)) _ (fun _ => rfl) ?_
          rw [hv]
          exact copy_ok hC H argTypes.toList type hx hy
      case len =>
        match hA : args.toList.map ev with
        | [] => simp only [builtinA]; exact trivial
        | _ :: _ :: _ => simp only [builtinA]; exact trivial
        | [x] =>
          match hT : argTypes.toList with
          | [] => simp only [builtinA]; exact trivial
          | _ :: _ :: _ => simp only [builtinA]; exact trivial
          | [t] =>
            obtain ⟨v, hv, hx⟩ := one x hA
            simp only [builtinA]
            refine key (Builtin.len_ argTypes type (args.map ρ)) _ (fun _ => rfl) ?_
            rw [hv, hat1 t hT]
            exact (len_ok hC t type hx).post H
      case max =>
        match hA : args.toList.map ev with
        | [] => simp only [builtinA]; exact trivial
        | [_] => simp only [builtinA]; exact trivial
        | _ :: _ :: _ :: _ => simp only [builtinA]; exact trivial
        | [x, y] =>
          obtain ⟨v, u, hv, hx, hy⟩ := two x y hA
          simp only [builtinA]
          refine key (Builtin.max_ argTypes type (args.map ρ)) _ (fun _ => rfl) ?_
          rw [hv]
          exact (max_ok (P := C.P) _ _ hx hy).post H
      case min =>
        match hA : args.toList.map ev with
        | [] => simp only [builtinA]; exact trivial
        | [_] => simp only [builtinA]; exact trivial
        | _ :: _ :: _ :: _ => simp only [builtinA]; exact trivial
        | [x, y] =>
          obtain ⟨v, u, hv, hx, hy⟩ := two x y hA
          simp only [builtinA]
          refine key (Builtin.min_ argTypes type (args.map ρ)) _ (fun _ => rfl) ?_
          rw [hv]
          exact (min_ok (P := C.P) _ _ hx hy).post H
    | invoke r m => trivial
    | value f =>
      simp only
      split
      · rename_i g first caps he
        have hf := hev f (by simp [Call.operands])
        rw [he] at hf
        generalize hv : ρ f = v at hf
        cases hf with
        | clo _ _ _ vs us hl hr hl' hr' =>
        refine ⟨vs.toList ++ args.toList.map ρ ++ us.toList, ?_, ?_⟩
        · refine RepL.append (RepL.append ⟨by simpa using hl, fun i a u p q => hr i a u p (by simpa using q)⟩ (RepL.of_map _ fun x hx => hev x (by simp [Call.operands]; exact .inr (by simpa using hx)))) ⟨by simpa using hl', fun i a u p q => hr' i a u p (by simpa using q)⟩
        · simp only [execOp, resolve, hv, Deferred.ofValue, Sem.run_bind, Sem.run_pure, Result.andThen_ok, invoke]
          congr 2
          apply Array.ext'
          simp
      · trivial
end
end Go.Proofs.Ytckjihpdjefpgaa
