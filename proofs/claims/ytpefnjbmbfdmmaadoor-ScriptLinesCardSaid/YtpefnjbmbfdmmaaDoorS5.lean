/- Joined texts. -/
import Derived.Test.YtpefnjbmbfdmmaaDoorS4
namespace Go.Proofs.YtpefnjbmbfdmmaaDoor
open Go.RowKit
section
variable {C : Ctx} {V : Inv C.fr} {S : Nat → Prop} {w w' : World} {β : Bt} {B : Nat} {h : AH} {s : Nat}
theorem RepL.of_map {ev : Operand → AV} {ρ : Operand → Value} : ∀ (l : List Operand), (∀ x ∈ l, Rep S w β (ev x) (ρ x)) → RepL S w β (l.map ev) (l.map ρ)
  | [], _ => RepL.nil _ _ _
  | x :: l, H => RepL.cons (H x (List.mem_cons_self)) (RepL.of_map l fun y hy => H y (List.mem_cons_of_mem _ hy))
theorem RepL.append {a b : List AV} {u v : List Value} (h : RepL S w β a u) (k : RepL S w β b v) : RepL S w β (a ++ b) (u ++ v) := by
  refine ⟨by simp [h.1, k.1], fun i x y p q => ?_⟩
  by_cases hi : i < a.length
  · rw [List.getElem?_append_left hi] at p
    rw [List.getElem?_append_left (by rw [← h.1]; exact hi)] at q
    exact h.2 i x y p q
  · rw [List.getElem?_append_right (by omega)] at p
    rw [List.getElem?_append_right (by rw [← h.1]; omega)] at q
    exact k.2 _ x y p (by rw [h.1]; exact q)
theorem PartsL.of_map {ev : Operand → AV} {ρ : Operand → Value} : ∀ (l : List (Nat × Operand)), (∀ x ∈ l, Rep S w β (ev x.2) (ρ x.2)) → PartsL S w β (l.map fun p => (p.1, ev p.2)) (l.map fun p => (p.1, ρ p.2))
  | [], _ => trivial
  | x :: l, H => ⟨rfl, H x (List.mem_cons_self), PartsL.of_map l fun y hy => H y (List.mem_cons_of_mem _ hy)⟩
def OpPost (P : Program) (B : Nat) (S : Nat → Prop) (w : World) (β : Bt) (h : AH) (s : Nat) (m : Sem Next) : Res → Prop
  | .call f args => ∃ vs, RepL S w β args vs ∧ m.run P w = (callFunc f vs.toArray).run P w
  | r => ResPost B S w β h s (m.run P w) r
theorem OpPost.of {P : Program} {m : Sem Next} {r : Res} (hr : ResPost B S w β h s (m.run P w) r) : OpPost P B S w β h s m r := by
  cases r <;> first | exact hr | exact hr.elim
theorem op_sound (hC : CtxOk C) (H : SimH B S w β h) (hs : β s = none) (ev : Operand → AV) (ρ : Operand → Value) (o : Oper) (hev : ∀ x ∈ o.op.operands, Rep S w β (ev x) (ρ x)) (hρ : ∀ v, ρ (.const v) = v) :
    OpPost C.P B S w β h s (execOp ρ o) (opA C ev h s o.op) := by
  obtain ⟨dst, op, type, pos, after, guard⟩ := o
  cases op <;> simp only [opA] <;> simp only [Op.operands] at hev <;> try (exact trivial)
  case move x => exact ⟨_, _, S, β, .inl rfl, hev x (by simp), H, StepK.refl _ _ _ _ _⟩
  case assign x => exact ⟨_, _, S, β, .inl rfl, hev x (by simp), H, StepK.refl _ _ _ _ _⟩
  case pick c a b =>
    have := (pick_ok (P := C.P) (hev c (by simp)) (hev a (by simp)) (hev b (by simp))).post (s := s) H
    exact OpPost.of (by simpa only [execOp, bind_pure_comp, Functor.map_map] using this)
  case alloc t =>
    split
    · rename_i cs hcs
      simp only [zeroCellsA] at hcs
      split at hcs
      · rename_i i hi
        exact fun _ => alloc_ok hC H hs t hi hcs
      · cases hcs
    · trivial
  case box t x =>
    split
    · rename_i cs hcs
      exact fun _ => box_ok (C := C) H hs t (hev x (by simp)) hcs
    · trivial
  case build t parts =>
    have hq : PartsL S w β (parts.toList.map fun p => (p.1, ev p.2)) (parts.map fun (i, x) => (i, ρ x)).toList := by
      rw [Array.toList_map]
      exact PartsL.of_map parts.toList fun x hx => hev x.2 (by simp; exact ⟨x.1, by simpa using hx⟩)
    exact OpPost.of ((build_ok hC t _ _ hq).post (s := s) H)
  case buildSlice t len parts =>
    have hq : PartsL S w β (parts.toList.map fun p => (p.1, ev p.2)) (parts.map fun (i, x) => (i, ρ x)).toList := by
      rw [Array.toList_map]
      exact PartsL.of_map parts.toList fun x hx => hev x.2 (by simp; exact ⟨x.1, by simpa using hx⟩)
    split
    · rename_i e sz ag z by_ eq ht
      have hte : C.P.underlying t = some (.slice e) := (hC.ty t _ ht).kd
      split
      · rename_i ei he
        split
        · rename_i rows hr
          split
          · rename_i h1 h3
            have h1 := Nat.eq_of_beq_eq_true h1
            rcases Nat.eq_zero_or_pos len with h0 | h0
            · subst h0
              have hr0 : rows = [] := List.eq_nil_of_length_eq_zero h1
              subst hr0
              have hp : (parts.toList.map fun p => (p.1, ev p.2)) = [] := by
                cases hpp : (parts.toList.map fun p => (p.1, ev p.2)) with
                | nil => rfl
                | cons p ps =>
                  rw [hpp] at hr
                  obtain ⟨i, x⟩ := p
                  simp only [rowsP] at hr
                  split at hr
                  · split at hr <;> simp at hr
                  · cases hr
              have hp0 : parts.toList = [] := by simpa using hp
              exact buildSlice0_ok hC H hte he _ (by rw [Array.toList_map, hp0]; rfl)
            · exact buildSlice_ok hC H hte he _ _ hq hr h1 h0 (Nat.le_of_ble_eq_true h3)
          · trivial
        · trivial
      · trivial
    · trivial
  case load t a => exact OpPost.of ((load_ok hC H t (hev a (by simp))).post (s := s) H)
  case store t a x =>
    have ha := hev a (by simp)
    have hx := hev x (by simp)
    split
    · rename_i ti cs ht hcs
      split
      · rename_i hl
        split
        · rename_i b c hea
          split
          · rename_i cells hb
            split
            · rename_i hroom
              rw [hea] at ha
              exact fun _ => storeBox_ok hC H ht hcs (Nat.eq_of_beq_eq_true hl) hb (Nat.le_of_ble_eq_true hroom) ha hx
            · trivial
          · trivial
        · rename_i b r c hea
          split
          · rename_i rows rs hb
            rw [hea] at ha
            intro row h' h0 hrow hf
            dsimp only at hf
            split at hf
            · rename_i hroom hcl
              injection hf with hf; subst hf
              exact storeArr_ok hC H ht hcs (Nat.eq_of_beq_eq_true hl) hb (by simpa using hrow) (Nat.le_of_ble_eq_true hroom) hcl ha hx
            · cases hf
          · rename_i cells hb
            rw [hea] at ha
            intro row h' h0 hrow hf
            dsimp only at hf
            split at hf
            · injection hf with hf; subst hf
              have hlt : r < cells.length := by
                have := (List.getElem?_eq_some_iff.1 (show (cells.map fun x => [x])[r]? = some row by simpa using hrow)).1
                simpa using this
              exact storeRow_ok hC H ht hcs (Nat.eq_of_beq_eq_true hl) hb hlt ha hx
            · cases hf
          · trivial
        · trivial
      · trivial
    · trivial
  case nilCheck x =>
    have hx := hev x (by simp)
    have pass : ∀ (a : AV) (v : Value), Rep S w β a v → ρ x = v → (execOp ρ ⟨dst, .nilCheck x, type, pos, after, guard⟩).run C.P w = .ok (.value v) w → OpPost C.P B S w β h s (execOp ρ ⟨dst, .nilCheck x, type, pos, after, guard⟩) (.ok a) := fun a v hr hv hrun =>
      ⟨v, w, S, β, .inl hrun, hr, H, StepK.refl _ _ _ _ _⟩
    generalize hv : ρ x = v at hx
    unfold nilA
    split
    · rename_i b c he
      rw [he] at hx
      have hx' := hx
      cases hx with
      | ptr _ _ l hl => exact pass _ _ hx' hv (by simp only [execOp, hv, Sem.run_pure])
    · rename_i b r c he
      rw [he] at hx
      have hx' := hx
      cases hx with
      | ptr2 _ _ _ l hl => exact pass _ _ hx' hv (by simp only [execOp, hv, Sem.run_pure])
    · rename_i a b c he
      rw [he] at hx
      have hx' := hx
      cases hx with
      | dp => exact pass _ _ hx' hv (by simp only [execOp, hv, Sem.run_pure])
    · rename_i a b c he
      rw [he] at hx
      have hx' := hx
      cases hx with
      | clo => exact pass _ _ hx' hv (by simp only [execOp, hv, Sem.run_pure])
    · trivial
  case binOp op t x y yt =>
    split
    · rename_i neq hn
      exact OpPost.of ((nil_ok hC op t x y hn (fun v hv => by rw [hv]; exact hρ v) (hev x (by simp))).post (s := s) H)
    · exact OpPost.of ((bin_ok hC op t x y (hev x (by simp)) (hev y (by simp))).post (s := s) H)
  case unOp op t x => exact OpPost.of ((un_ok (P := C.P) op (hev x (by simp))).post (s := s) H)
  case convert src dst x =>
    have hx := hev x (by simp)
    have plain : ResPost B S w β h s ((do pure (.value (← convert src dst (ρ x))) : Sem Next).run C.P w) (convA C src dst (ev x)) := (conv_ok hC src dst hx).post H
    unfold convO
    split
    · rename_i e _ _ _ _ _ h1 h2
      split
      · rename_i b _ _ _ _ _ he hq
        rw [he] at hx
        have hb := rep_v hx
        refine fun hb' => ?_
        have := strBytes_ok hC H hs (hC.ty _ _ h1).kd (hC.ty _ _ h2).kd (hC.ty _ _ hq).kd b hb'
        rw [← hb] at this
        exact this
      · trivial
    · rename_i e _ _ _ _ _ h1 h2
      split
      · trivial
      · rename_i a hna
        split
        · rename_i rc rows hq hr
          intro l hlk hl
          exact Post.of_yld H (bytesStr_ok hC H (hC.ty _ _ h1).kd (hC.ty _ _ h2).kd (hC.ty _ _ hq).kd hx (fun b hb => hna _ hb) hr hlk l hl)
        · trivial
    · exact OpPost.of plain
  case makeFunc fn first caps =>
    cases fn with
    | func f =>
      refine ⟨.func (.func f) (first.map ρ) (caps.map ρ), w, S, β, .inl rfl, ?_, H, StepK.refl _ _ _ _ _⟩
      have h1 := RepL.of_map (S := S) (w := w) (β := β) (ev := ev) (ρ := ρ) first.toList fun x hx => hev x (by simp; exact .inl (by simpa using hx))
      have h2 := RepL.of_map (S := S) (w := w) (β := β) (ev := ev) (ρ := ρ) caps.toList fun x hx => hev x (by simp; exact .inr (by simpa using hx))
      exact .clo f _ _ _ _ (by simp) (fun i a u p q => h1.2 i a u p (by rw [← Array.toList_map, Array.getElem?_toList]; exact q)) (by simp) (fun i a u p q => h2.2 i a u p (by rw [← Array.toList_map, Array.getElem?_toList]; exact q))
    | _ => exact trivial
  case makeSlice t l c =>
    have hl := hev l (by simp)
    have hc := hev c (by simp)
    unfold makeA
    split
    · rename_i e _ _ _ _ _ kl l' kc c' ht hel hec
      rw [hel] at hl
      rw [hec] at hc
      have hl' := rep_v hl
      have hc' := rep_v hc
      split
      · rename_i ei he
        split
        · rename_i z hz
          split
          · rename_i hcz
            rintro ⟨p0, p1, p2⟩
            have := make_ok hC H hs (hC.ty _ _ ht).kd he hz hcz kl kc l' c' p0 p1 p2
            rw [← hl', ← hc'] at this
            exact this
          · trivial
        · trivial
      · trivial
    · trivial
  case slice t x lo hi mx =>
    have opt : ∀ (y : Option Operand), (∀ z, y = some z → Rep S w β (ev z) (ρ z)) → (∀ a, y.map ev = some a → ∃ u, y.map ρ = some u ∧ Rep S w β a u) ∧ (y.map ev = none → y.map ρ = none) := by
      intro y hy
      cases y with
      | none => exact ⟨fun a h => (by cases h), fun _ => rfl⟩
      | some z => exact ⟨fun a h => (by injection h with h; subst h; exact ⟨_, rfl, hy z rfl⟩), fun h => (by cases h)⟩
    have h1 := opt lo fun z hz => hev z (by subst hz; simp)
    have h2 := opt hi fun z hz => hev z (by subst hz; simp)
    have h3 := opt mx fun z hz => hev z (by subst hz; simp)
    exact OpPost.of ((slice_ok hC H t (hev x (by simp)) h1.1 h1.2 h2.1 h2.2 h3.1 h3.2).post (s := s) H)
  case fieldAddr t x f => exact OpPost.of ((fieldAddr_ok hC t f (hev x (by simp))).post (s := s) H)
  case field t x f => exact OpPost.of ((field_ok hC t f (hev x (by simp))).post (s := s) H)
  case indexAddr t x i => exact OpPost.of ((indexAddr_ok hC H t (hev x (by simp)) (hev i (by simp))).post (s := s) H)
  case index t x i => exact OpPost.of ((index_ok hC t (hev x (by simp)) (hev i (by simp))).post (s := s) H)
  case extract x i => exact OpPost.of ((extract_ok (P := C.P) i (hev x (by simp))).post (s := s) H)
  case call c =>
    obtain ⟨callee, args, argTypes⟩ := c
    cases callee with
    | builtin b =>
      simp only [Call.operands, Array.empty_append] at hev
      have hargs : RepL S w β (args.toList.map ev) (args.toList.map ρ) := RepL.of_map _ fun x hx => hev x (by simpa using hx)
      have key : ∀ (m : Sem Value) (r : Res), (∀ consts, Go.builtin b argTypes type consts (args.map ρ) = (do pure (.value (← m)) : Sem Next)) → ResPost B S w β h s ((do pure (.value (← m)) : Sem Next).run C.P w) r →
          OpPost C.P B S w β h s (execOp ρ ⟨dst, .call ⟨.builtin b, args, argTypes⟩, type, pos, after, guard⟩) r := by
        intro m r h1 h2
        refine OpPost.of ?_
        have : (execOp ρ ⟨dst, .call ⟨.builtin b, args, argTypes⟩, type, pos, after, guard⟩).run C.P w = (do pure (.value (← m)) : Sem Next).run C.P w := by
          simp only [execOp, resolve, Sem.run_bind, Sem.run_pure, Result.andThen_ok, invoke, h1]
        rw [this]
        exact h2
      have one : ∀ (x : AV), args.toList.map ev = [x] → ∃ v, args.map ρ = #[v] ∧ Rep S w β x v := by
        intro x hx
        rw [hx] at hargs
        have hl : args.toList.length = 1 := by simpa using hargs.1.symm
        match hq : args.toList, hl with
        | [a], _ =>
          refine ⟨ρ a, (by apply Array.ext'; simp [hq]), hargs.2 0 x (ρ a) rfl (by simp [hq])⟩
      have two : ∀ (x y : AV), args.toList.map ev = [x, y] → ∃ v u, args.map ρ = #[v, u] ∧ Rep S w β x v ∧ Rep S w β y u := by
        intro x y hx
        rw [hx] at hargs
        have hl : args.toList.length = 2 := by simpa using hargs.1.symm
        match hq : args.toList, hl with
        | [a, b], _ =>
          refine ⟨ρ a, ρ b, (by apply Array.ext'; simp [hq]), hargs.2 0 x (ρ a) rfl (by simp [hq]), hargs.2 1 y (ρ b) rfl (by simp [hq])⟩
      have hat : ∀ t tx, argTypes.toList = [t, tx] → argTypes = #[t, tx] := fun t tx he => by apply Array.ext'; simp [he]
      have hat1 : ∀ t, argTypes.toList = [t] → argTypes = #[t] := fun t he => by apply Array.ext'; simp [he]
      simp only
      cases b <;> try (simp only [builtinA]; exact trivial)
      case append =>
        match hA : args.toList.map ev with
        | [] => simp only [builtinA]; exact trivial
        | [_] => simp only [builtinA]; exact trivial
        | _ :: _ :: _ :: _ => simp only [builtinA]; exact trivial
        | [x, y] =>
          match hT : argTypes.toList with
          | [] => simp only [builtinA]; exact trivial
          | [_] => simp only [builtinA]; exact trivial
          | _ :: _ :: _ :: _ => simp only [builtinA]; exact trivial
          | [t, tx] =>
            obtain ⟨v, u, hv, hx, hy⟩ := two x y hA
            refine key (Builtin.append_ argTypes type (args.map ρ)) _ (fun _ => rfl) ?_
            rw [hv, hat t tx hT]
            exact append_ok hC H hs t tx type hx hy
      case copy =>
        match hA : args.toList.map ev with
        | [] => simp only [builtinA]; exact trivial
        | [_] => simp only [builtinA]; exact trivial
        | _ :: _ :: _ :: _ => simp only [builtinA]; exact trivial
        | [x, y] =>
          obtain ⟨v, u, hv, hx, hy⟩ := two x y hA
          simp only [builtinA]
          refine key (Builtin.copy_ argTypes type (args.map ρ)) _ (fun _ => rfl) ?_
          rw [hv]
          exact copy_ok hC H argTypes.toList type hx hy
      case len =>
        match hA : args.toList.map ev with
        | [] => simp only [builtinA]; exact trivial
        | _ :: _ :: _ => simp only [builtinA]; exact trivial
        | [x] =>
          match hT : argTypes.toList with
          | [] => simp only [builtinA]; exact trivial
          | _ :: _ :: _ => simp only [builtinA]; exact trivial
          | [t] =>
            obtain ⟨v, hv, hx⟩ := one x hA
            simp only [builtinA]
            refine key (Builtin.len_ argTypes type (args.map ρ)) _ (fun _ => rfl) ?_
            rw [hv, hat1 t hT]
            exact (len_ok hC t type hx).post H
      case max =>
        match hA : args.toList.map ev with
        | [] => simp only [builtinA]; exact trivial
        | [_] => simp only [builtinA]; exact trivial
        | _ :: _ :: _ :: _ => simp only [builtinA]; exact trivial
        | [x, y] =>
          obtain ⟨v, u, hv, hx, hy⟩ := two x y hA
          simp only [builtinA]
          refine key (Builtin.max_ argTypes type (args.map ρ)) _ (fun _ => rfl) ?_
          rw [hv]
          exact (max_ok (P := C.P) _ _ hx hy).post H
      case min =>
        match hA : args.toList.map ev with
        | [] => simp only [builtinA]; exact trivial
        | [_] => simp only [builtinA]; exact trivial
        | _ :: _ :: _ :: _ => simp only [builtinA]; exact trivial
        | [x, y] =>
          obtain ⟨v, u, hv, hx, hy⟩ := two x y hA
          simp only [builtinA]
          refine key (Builtin.min_ argTypes type (args.map ρ)) _ (fun _ => rfl) ?_
          rw [hv]
          exact (min_ok (P := C.P) _ _ hx hy).post H
    | invoke r m => trivial
    | value f =>
      simp only
      split
      · rename_i g first caps he
        have hf := hev f (by simp [Call.operands])
        rw [he] at hf
        generalize hv : ρ f = v at hf
        cases hf with
        | clo _ _ _ vs us hl hr hl' hr' =>
        refine ⟨vs.toList ++ args.toList.map ρ ++ us.toList, ?_, ?_⟩
        · refine RepL.append (RepL.append ⟨by simpa using hl, fun i a u p q => hr i a u p (by simpa using q)⟩ (RepL.of_map _ fun x hx => hev x (by simp [Call.operands]; exact .inr (by simpa using hx)))) ⟨by simpa using hl', fun i a u p q => hr' i a u p (by simpa using q)⟩
        · simp only [execOp, resolve, hv, Deferred.ofValue, Sem.run_bind, Sem.run_pure, Result.andThen_ok, invoke]
          congr 2
          apply Array.ext'
          simp
      · trivial
end
end Go.Proofs.YtpefnjbmbfdmmaaDoor
namespace Go.Proofs.YtpefnjbmbfdmmaaDoor
open Go.RowKit
def GOk (C : Ctx) (S : Nat → Prop) (w : World) : Prop := ∀ g cells, C.G g = some cells → GRow S w g cells
theorem GOk.g {C : Ctx} {S : Nat → Prop} {w : World} (h : GOk C S w) : GOkG C.G S w := h
def DCall (C : Ctx) (f : FuncId) (args : List AV) (r : AV) : Prop :=
  (∃ fn, C.P.funcs[f]? = some fn ∧ fn.body.isSome = true ∧ (fn.name == "runtime.NumGoroutine") = false) ∧
  ∀ (S : Nat → Prop) (w : World) (vs : List Value), (∀ b, S b → b < w.heap.size) → GOk C S w → RepL S w noB args vs →
    Calls C.P f vs.toArray w fun e w' => ∃ v, e = .returned v ∧ Below w.heap.size w w' ∧ Rep (fun b => S b ∨ (w.heap.size ≤ b ∧ b < w'.heap.size)) w' noB r v
def NodeR (C : Ctx) (R : FuncId → List AV → AV → Prop) (h : AH) (r : Res) (x : AV) (h' : AH) : Prop :=
  match r with
  | .bad => False
  | .ok y => x = y ∧ h' = h
  | .need p y => p ∧ x = y ∧ h' = h
  | .idx rows i f => ∃ row, 0 ≤ i ∧ rows[i.toNat]? = some row ∧ f row = some x ∧ h' = h
  | .fx p y h2 => p ∧ x = y ∧ h' = h2
  | .idxfx rows i f => ∃ row, 0 ≤ i ∧ rows[i.toNat]? = some row ∧ f row = some h' ∧ x = .any
  | .str p rows => ∃ l, p ∧ bytesOfRows rows = some l ∧ x = .v (.string ⟨l.toArray⟩) ∧ h' = h
  | .call f args => closedL (datL h args) = true ∧ (noOwnL args = true ∨ (flatA x = true ∧ lenOkL h args)) ∧ closedA x = true ∧ R f (datL h args) x ∧ h' = h
def isFx : Res → Bool
  | .fx _ _ _ | .idxfx _ _ _ | .bad => true
  | _ => false
def StepR (C : Ctx) (R : FuncId → List AV → AV → Prop) (all : List Oper) (o : Oper) (s : Nat) (t : Nat → AV) (h : AH) (x : AV) (h' : AH) : Prop :=
  match o.guard with
  | none => NodeR C R h (opA C (evA C t) h s o.op) x h'
  | some (i, pol) => ∃ d g y, (all[i]?).bind (·.dst) = some d ∧ guardA (t d) pol = some g ∧ ((x = .opt g y ∧ h' = h ∧
    ((condsO t o.op = none ∧ (g = true → isFx (opA C (evA C t) h s o.op) = false ∧ NodeR C R h (opA C (evA C t) h s o.op) y h)) ∨
     ∃ c, condsO t o.op = some c ∧ (g = true → c = true) ∧ (g = true → isFx (opA C (evS C t o.op) h s o.op) = false ∧ NodeR C R h (opA C (evS C t o.op) h s o.op) y h))) ∨ (g = true ∧ NodeR C R h (opA C (evA C t) h s o.op) x h'))
def NoH (C : Ctx) : Prop := ∀ f args h s Post, ¬ C.H f args h s Post
section
variable {C : Ctx} {V : Inv C.fr} {R : FuncId → List AV → AV → Prop} {all : List Oper} {o : Oper} {s : Nat} {t : Nat → AV} {h h' : AH} {K : AV → AH → Prop}
theorem node_inv {r : Res} (hn : node C R h s r K) : (∃ x h', NodeR C R h r x h' ∧ K x h') ∨ ∃ f args Post, r = .call f args ∧ C.H f args h s Post ∧ ∀ x h', Post x h' → K x h' := by
  cases r <;> simp only [node] at hn
  case ok x => exact .inl ⟨x, h, ⟨rfl, rfl⟩, hn⟩
  case need p x => obtain ⟨hp, hk⟩ := hn; exact .inl ⟨x, h, ⟨hp rfl, rfl, rfl⟩, hk⟩
  case idx rows i f =>
    obtain ⟨row, hr, hk⟩ := hn
    split at hk
    · rename_i x hx; exact .inl ⟨x, h, ⟨row, (hr rfl).1, (hr rfl).2, hx, rfl⟩, hk⟩
    · exact hk.elim
  case fx p x h2 => obtain ⟨hp, hk⟩ := hn; exact .inl ⟨x, h2, ⟨hp rfl, rfl, rfl⟩, hk⟩
  case idxfx rows i f =>
    obtain ⟨row, hr, hk⟩ := hn
    split at hk
    · rename_i h2 hx; exact .inl ⟨.any, h2, ⟨row, (hr rfl).1, (hr rfl).2, hx, rfl⟩, hk⟩
    · exact hk.elim
  case str p rows => obtain ⟨l, hl, hk⟩ := hn; exact .inl ⟨_, h, ⟨l, (hl rfl).1, (hl rfl).2, rfl, rfl⟩, hk⟩
  case call f args =>
    rcases hn with hn | hn
    · obtain ⟨x, h1, h2, h3, h4, hk⟩ := hn; exact .inl ⟨x, h, ⟨h1, h2, h3, h4 rfl, rfl⟩, hk⟩
    · obtain ⟨Post, hH, hk⟩ := hn; exact .inr ⟨f, args, Post, rfl, hH, hk⟩
theorem nodeG_inv {g : Bool} {r : Res} (hn : nodeG C R h g r K) : ∃ y, isFx r = false ∧ (g = true → NodeR C R h r y h) ∧ K (.opt g y) h := by
  cases r <;> simp only [nodeG] at hn
  case ok x => exact ⟨x, rfl, fun _ => ⟨rfl, rfl⟩, hn⟩
  case need p x => obtain ⟨hp, hk⟩ := hn; exact ⟨x, rfl, fun hg => ⟨hp hg, rfl, rfl⟩, hk⟩
  case idx rows i f =>
    obtain ⟨row, hr, hk⟩ := hn
    split at hk
    · rename_i x hx; exact ⟨x, rfl, fun hg => ⟨row, (hr hg).1, (hr hg).2, hx, rfl⟩, hk⟩
    · exact hk.elim
  case str p rows => obtain ⟨l, hl, hk⟩ := hn; exact ⟨_, rfl, fun hg => ⟨l, (hl hg).1, (hl hg).2, rfl, rfl⟩, hk⟩
  case call f args => obtain ⟨x, h1, h2, h3, h4, hk⟩ := hn; exact ⟨x, rfl, fun hg => ⟨h1, h2, h3, h4 hg, rfl⟩, hk⟩
def GOn (all : List Oper) (o : Oper) (t : Nat → AV) : Prop := o.guard = none ∨ ∃ i pol d, o.guard = some (i, pol) ∧ (all[i]?).bind (fun (o : Oper) => o.dst) = some d ∧ guardA (t d) pol = some true
theorem step_inv (hs : stepA C R all o s t h K) : (∃ x h', StepR C R all o s t h x h' ∧ K x h') ∨ (GOn all o t ∧ ∃ f args Post, opA C (evA C t) h s o.op = .call f args ∧ C.H f args h s Post ∧ ∀ x h', Post x h' → K x h') := by
  unfold stepA at hs
  unfold StepR
  cases hg : o.guard with
  | none => simp only [hg] at hs; exact (node_inv hs).imp id fun h => ⟨.inl hg, h⟩
  | some q =>
    obtain ⟨i, pol⟩ := q
    simp only [hg] at hs
    split at hs
    · exact hs.elim
    · rename_i d hd
      split at hs
      · exact hs.elim
      · rename_i g hgv
        split at hs
        · rename_i hc
          rcases hs with hs | ⟨hg1, hs⟩
          · obtain ⟨y, h1, h2, h3⟩ := nodeG_inv hs
            exact .inl ⟨_, h, ⟨d, g, y, hd, hgv, .inl ⟨rfl, rfl, .inl ⟨hc, fun hg => ⟨h1, h2 hg⟩⟩⟩⟩, h3⟩
          · rcases node_inv (C := C) (R := R) (h := h) hs with ⟨x, h', h1, h2⟩ | hq
            rotate_left
            · exact .inr ⟨.inr ⟨i, pol, d, hg, hd, by rw [hgv, hg1]⟩, hq⟩
            exact .inl ⟨x, h', ⟨d, g, x, hd, hgv, .inr ⟨hg1, h1⟩⟩, h2⟩
        · rename_i c hc
          obtain ⟨hs1, hs2⟩ := hs
          obtain ⟨y, h1, h2, h3⟩ := nodeG_inv hs2
          exact .inl ⟨_, h, ⟨d, g, y, hd, hgv, .inl ⟨rfl, rfl, .inr ⟨c, hc, hs1, fun hg => ⟨h1, h2 hg⟩⟩⟩⟩, h3⟩
end
structure SimD (C : Ctx) (V : Inv C.fr) (w0 : World) (S0 : Nat → Prop) (N : Nat) (D : Nat → Prop) (t : Nat → AV) (h : AH) (a : Act) (w : World) (S : Nat → Prop) (β : Bt) : Prop where
  T : ∀ i, Rep S w β (t i) (a.tmps.getD i undef)
  H : SimH w0.heap.size S w β h
  B : Below w0.heap.size w0 w
  dom : ∀ x l, β x = some l → D x
  df : a.defers = C.df
  sz : a.tmps.size = N
  G : GOk C S w
  nw : ∀ b, S b → S0 b ∨ w0.heap.size ≤ b
  iv : V.p S w β
section
variable {C : Ctx} {V : Inv C.fr} {R : FuncId → List AV → AV → Prop} {all : List Oper} {o : Oper} {s N : Nat} {t : Nat → AV} {h h' : AH} {a : Act} {w w0 : World} {D : Nat → Prop} {S0 : Nat → Prop} {S : Nat → Prop} {β : Bt}
theorem ev_rep (M : SimD C V w0 S0 N D t h a w S β) (x : Operand) : Rep S w β (evA C t x) (a.eval x) := by
  cases x with
  | tmp i => exact M.T i
  | const v => exact absV_rep v
  | global g =>
    show Rep S w β (match C.G g with | some cells => .dp cells.length 0 cells | none => .any) _
    split
    · rename_i cells hg
      exact (M.G g cells hg).1.mono (fun _ h => h) (Evo.refl _ _) (fun s l x => by cases x)
    · exact .any _
  | func f => exact .clo f [] [] #[] #[] rfl (fun i a u h => by simp at h) rfl (fun i a u h => by simp at h)
theorem conds_none : ∀ (l : List Operand), condsA t l = none → ∀ i, .tmp i ∈ l → stripC (t i) = none
  | [], _, i, hi => by cases hi
  | x :: l, hc, i, hi => by
    cases x with
    | tmp j =>
      simp only [condsA] at hc
      split at hc
      · rename_i r h1
        rcases List.mem_cons.1 hi with he | hi
        · injection he with he; subst he; exact h1
        · exact conds_none l hc i hi
      · cases hc
      · cases hc
    | _ =>
      simp only [condsA] at hc
      rcases List.mem_cons.1 hi with he | hi
      · cases he
      · exact conds_none l hc i hi
theorem conds_some : ∀ (l : List Operand) (c : Bool), condsA t l = some c → c = true → ∀ i g, .tmp i ∈ l → stripC (t i) = some g → g = true
  | [], _, hc, _, _, _, hi, _ => by cases hi
  | x :: l, c, hc, hct, i, g, hi, hg => by
    cases x with
    | tmp j =>
      simp only [condsA] at hc
      split at hc
      · rename_i r h1
        rcases List.mem_cons.1 hi with he | hi
        · injection he with he; subst he; rw [hg] at h1; cases h1
        · exact conds_some l c hc hct i g hi hg
      · rename_i g' h1 h2
        injection hc with hc; subst hc
        rcases List.mem_cons.1 hi with he | hi
        · injection he with he; subst he; rw [hg] at h1; injection h1 with h1; rw [h1]; exact hct
        · have := conds_none l h2 i hi; rw [hg] at this; cases this
      · rename_i g' r h1 h2
        injection hc with hc; subst hc
        simp only [Bool.and_eq_true] at hct
        rcases List.mem_cons.1 hi with he | hi
        · injection he with he; subst he; rw [hg] at h1; injection h1 with h1; rw [h1]; exact hct.1
        · exact conds_some l r h2 hct.2 i g hi hg
    | _ =>
      simp only [condsA] at hc
      rcases List.mem_cons.1 hi with he | hi
      · cases he
      · exact conds_some l c hc hct i g hi hg
theorem strip_rep (M : SimD C V w0 S0 N D t h a w S β) (x : Operand) (hx : ∀ i g, x = .tmp i → stripC (t i) = some g → g = true) : Rep S w β (strip (evA C t x)) (a.eval x) := by
  have hr := ev_rep M x
  cases x with
  | tmp i =>
    show Rep S w β (strip (t i)) _
    have hr' : Rep S w β (t i) (a.eval (.tmp i)) := hr
    cases ht : t i with
    | opt g y =>
      rw [ht] at hr'
      exact rep_optT hr' (hx i g rfl (by rw [ht]; rfl))
    | _ => rw [ht] at hr'; exact hr'
  | const v =>
    have : strip (absV v) = absV v := by
      unfold absV
      split
      · rfl
      · split <;> rfl
      · rfl
    show Rep S w β (strip (absV v)) _
    rw [this]; exact hr
  | global g =>
    have hr' : Rep S w β (evA C t (.global g)) (a.eval (.global g)) := hr
    show Rep S w β (strip (evA C t (.global g))) _
    simp only [evA] at hr' ⊢
    split <;> rename_i hq <;> simp only [hq] at hr' <;> exact hr'
  | func f => exact hr
theorem evS_rep (M : SimD C V w0 S0 N D t h a w S β) (op : Op) {c : Bool} (hc : condsO t op = some c) (hct : c = true) (x : Operand) (hx : x ∈ op.operands) : Rep S w β (evS C t op x) (a.eval x) := by
  have full : condsA t op.operands.toList = some c → Rep S w β (strip (evA C t x)) (a.eval x) := fun hc => strip_rep M x fun k g hk hgk => by
    subst hk; exact conds_some _ c hc hct k g (by simpa using hx) hgk
  cases op <;> first | exact full hc | skip
  case pick cc aa bb =>
    show Rep S w β (match sameO cc x with | true => strip (evA C t x) | false => evA C t x) _
    cases hs : sameO cc x with
    | false => exact ev_rep M x
    | true =>
      refine strip_rep M x fun k g hk hgk => ?_
      subst hk
      cases cc <;> simp only [sameO] at hs <;> try (cases hs; done)
      rename_i i
      rw [← Nat.eq_of_beq_eq_true hs] at hgk
      exact conds_some _ c hc hct i g (by simp) hgk
theorem wanted_iff (M : SimD C V w0 S0 N D t h a w S β) {ops : Array Oper} (hall : ops.toList = all) {i d : Nat} {pol g : Bool} (hgd : o.guard = some (i, pol)) (hd : (all[i]?).bind (·.dst) = some d) (hg : guardA (t d) pol = some g) (hlt : d < N) :
    Region.wanted o (yielded ops a.tmps) = g := by
  have hd' : (ops[i]?).bind (·.dst) = some d := by rw [← hd, ← hall, Array.getElem?_toList]
  have hT := M.T d
  have hsz : d < a.tmps.size := by rw [M.sz]; exact hlt
  have hget : a.tmps[d]? = some (a.tmps.getD d undef) := by rw [Array.getElem?_eq_getElem hsz, Array.getD_eq_getD_getElem?, Array.getElem?_eq_getElem hsz]; rfl
  have hw : Region.wanted o (yielded ops a.tmps) = (yielded ops a.tmps i == some pol) := by simp only [Region.wanted, hgd]
  have hy : yielded ops a.tmps i = (match (some (a.tmps.getD d undef) : Option Value) with | some (.bool b) => some b | _ => none) := by
    simp only [yielded, hd', Option.bind_some, hget]
    cases a.tmps.getD d undef <;> rfl
  rw [hw, hy]
  unfold guardA at hg
  split at hg
  · rename_i b hb
    rw [hb] at hT
    rw [rep_v hT]
    injection hg with hg; subst hg
    cases pol <;> cases b <;> rfl
  · rename_i a' b hb
    rw [hb] at hT
    injection hg with hg; subst hg
    generalize a.tmps.getD d undef = v at hT
    cases hT with
    | optT _ _ _ ha hr => rw [rep_v hr, ha]; cases pol <;> cases b <;> rfl
    | optF _ _ ha => rw [ha]; rfl
  · cases hg
mutual
theorem noOwn_len (h : AH) : ∀ (a : AV), noOwn a = true → lenOkA h a
  | .osl _ _ _ _, e => by simp only [noOwn] at e; cases e
  | .agg cs, e => noOwnL_len h cs e
  | .tup cs, e => by
    show (match noOwnL cs with | true => True | false => lenOkL h cs)
    rw [show noOwnL cs = true from e]
    trivial
  | .clo _ a b, e => by
    simp only [noOwn] at e
    split at e
    · rename_i ha; exact ⟨noOwnL_len h a ha, noOwnL_len h b e⟩
    · cases e
  | .v _, _ => trivial
  | .sl _ _ _, _ => trivial
  | .dp _ _ _, _ => trivial
  | .ptr _ _, _ => trivial
  | .ptr2 _ _ _, _ => trivial
  | .opt _ _, _ => trivial
  | .any, _ => trivial
theorem noOwnL_len (h : AH) : ∀ (cs : List AV), noOwnL cs = true → lenOkL h cs
  | [], _ => trivial
  | x :: xs, e => by
    simp only [noOwnL] at e
    split at e
    · rename_i ha; exact ⟨noOwn_len h x ha, noOwnL_len h xs e⟩
    · cases e
end
theorem anyL_len : ∀ (cs : List AV), (anyL cs).length = cs.length
  | [] => rfl
  | _ :: cs => congrArg (· + 1) (anyL_len cs)
theorem anyL_get : ∀ (cs : List AV) (j : Nat) (a : AV), (anyL cs)[j]? = some a → ∃ b, cs[j]? = some b ∧ (a = .any ∨ (a = b ∧ closedA b = true))
  | [], j, a, h => by simp [anyL] at h
  | c :: cs, 0, a, h => by
    simp only [anyL, List.getElem?_cons_zero, Option.some.injEq] at h
    refine ⟨c, rfl, ?_⟩
    cases hc : closedA c with
    | true => rw [hc] at h; exact .inr ⟨h.symm, rfl⟩
    | false => rw [hc] at h; exact .inl h.symm
  | c :: cs, j + 1, a, h => by
    simp only [anyL, List.getElem?_cons_succ] at h ⊢
    exact anyL_get cs j a h
theorem datA_rep {β : Bt} {a : AV} {v : Value} {B : Nat} (H : SimH B S w β h) (hr : Rep S w β a v) : lenOkA h a → Rep (fun b => S b ∨ (B ≤ b ∧ b < w.heap.size)) w β (datA h a) v := by
  have hS : ∀ b, S b → S b ∨ (B ≤ b ∧ b < w.heap.size) := fun b hb => .inl hb
  have plain : ∀ {a : AV} {v : Value}, Rep S w β a v → Rep (fun b => S b ∨ (B ≤ b ∧ b < w.heap.size)) w β a v := fun h => h.mono hS (Evo.refl _ _) (BtLe.refl _)
  have datL_get : ∀ (cs : List AV) (i : Nat) (x : AV), (datL h cs)[i]? = some x → ∃ y, cs[i]? = some y ∧ x = datA h y := by
    intro cs
    induction cs with
    | nil => intro i x hx; simp [datL] at hx
    | cons c cs ih =>
      intro i x hx
      cases i with
      | zero => simp [datL] at hx; exact ⟨c, rfl, hx.symm⟩
      | succ i => simp [datL] at hx; exact ih i x hx
  have datL_len : ∀ (cs : List AV), (datL h cs).length = cs.length := by
    intro cs
    induction cs with
    | nil => rfl
    | cons c cs ih => simp [datL, ih]
  have len_get : ∀ (cs : List AV), lenOkL h cs → ∀ (i : Nat) y, cs[i]? = some y → lenOkA h y := by
    intro cs
    induction cs with
    | nil => intro _ i y hy; simp at hy
    | cons c cs ih =>
      intro hl i y hy
      simp only [lenOkL] at hl
      cases i with
      | zero => simp at hy; subst hy; exact hl.1
      | succ i => exact ih hl.2 i y (by simpa using hy)
  induction hr with
  | v x => intro _; exact .v x
  | agg cs vs hl h1 hr ih =>
    intro hlk
    simp only [lenOkA] at hlk
    show Rep _ w _ (.agg (datL h cs)) _
    refine .agg _ _ (by rw [datL_len]; exact hl) h1 fun i x u p q => ?_
    obtain ⟨y, hy, rfl⟩ := datL_get cs i x p
    exact ih i y u hy q H plain (len_get cs hlk i y hy)
  | tup cs vs hl hr ih =>
    intro hlk
    cases hq : noOwnL cs with
    | true => rw [show datA h (.tup cs) = .tup cs by simp only [datA, hq]]; exact plain (.tup cs vs hl hr)
    | false =>
    have hlk' : lenOkL h cs := by simpa only [lenOkA, hq] using hlk
    rw [show datA h (.tup cs) = .tup (datL h cs) by simp only [datA, hq]]
    refine .tup _ _ (by rw [datL_len]; exact hl) fun i x u p q => ?_
    obtain ⟨y, hy, rfl⟩ := datL_get cs i x p
    exact ih i y u hy q H plain (len_get cs hlk' i y hy)
  | osl s lo len clip l A c hl hc hm hcl hA cs e fr hb room =>
    rename_i β'
    intro hlk
    simp only [lenOkA] at hlk
    show Rep _ w _ (match h s with | some (.arr rows rs) => .sl rs ((rows.drop lo).take len) clip | _ => .any) _
    split
    · rename_i rows rs hs
      simp only [hs] at hlk
      obtain ⟨l', ds, e', fr', k1, k2, k3, k4, k5, k6, k7, k8⟩ := H.own s _ hs
      obtain rfl : l' = l := by rw [hl] at k1; exact (Option.some.inj k1).symm
      subst k6
      have hlen : ((rows.drop lo).take len).length = len := by rw [List.length_take, List.length_drop]; omega
      have sub : ∀ (i : Nat) row, ((rows.drop lo).take len)[i]? = some row → rows[lo + i]? = some row := by
        intro i row hi
        rw [List.getElem?_take] at hi
        split at hi
        · rwa [List.getElem?_drop] at hi
        · cases hi
      have hds : ∀ (i : Nat) row (j : Nat) a, ((rows.drop lo).take len)[i]? = some row → row[j]? = some a → i < len ∧ j < l'.rs ∧ (ds.getD (l'.base + (lo + i) * l'.rs + j) undef).oneCell' = true ∧ ds[l'.base + (lo + i) * l'.rs + j]? = some (ds.getD (l'.base + (lo + i) * l'.rs + j) undef) ∧ Rep S w noB a (ds.getD (l'.base + (lo + i) * l'.rs + j) undef) := by
        intro i row j a hi hj
        obtain ⟨u, q1, q2, q3⟩ := k8 _ _ _ _ (sub i row hi) hj
        have hg : ds.getD (l'.base + (lo + i) * l'.rs + j) undef = u := by rw [Array.getD_eq_getD_getElem?, q1]; rfl
        rw [hg]
        exact ⟨by rw [← hlen]; exact (List.getElem?_eq_some_iff.1 hi).1, by rw [← k7 row (List.mem_of_getElem? (sub i row hi))]; exact (List.getElem?_eq_some_iff.1 hj).1, q2, q1, q3⟩
      have hval : (Value.slice A len c) = .slice A ((rows.drop lo).take len).length c := by rw [hlen]
      rw [hval]
      refine .sl l'.rs _ clip A c l'.blk (l'.base + lo * l'.rs) (fun i j => if i < len ∧ j < l'.rs then ds.getD (l'.base + (lo + i) * l'.rs + j) undef else .bool false) (by rw [hlen]; exact hc) hm (by rw [hlen]; exact hcl) (fun row hrow => k7 row (List.mem_of_mem_drop (List.mem_of_mem_take hrow)))
        (fun h0 => ⟨hA (by rw [hlen] at h0; omega), .inr ⟨k4, lt_of_heap k2⟩⟩) (fun i row j a hi hj => ?_) (fun i j => ?_) fun i row j a hi hj => ?_
      · obtain ⟨t1, t2, t3, t4, t5⟩ := hds i row j a hi hj
        rw [if_pos ⟨t1, t2⟩, cell_of_cells k2, ← t4]
        congr 1
        rw [Nat.add_mul]; omega
      · show (if i < len ∧ j < l'.rs then ds.getD (l'.base + (lo + i) * l'.rs + j) undef else .bool false).oneCell' = true
        by_cases hij : i < len ∧ j < l'.rs
        · have hi : ((rows.drop lo).take len)[i]? = some (((rows.drop lo).take len)[i]'(by rw [hlen]; exact hij.1)) := List.getElem?_eq_getElem _
          have hjl : j < (((rows.drop lo).take len)[i]'(by rw [hlen]; exact hij.1)).length := by
            rw [k7 _ (List.mem_of_getElem? (sub i _ hi))]; exact hij.2
          obtain ⟨t1, t2, t3, t4, t5⟩ := hds i _ j _ hi (List.getElem?_eq_getElem hjl)
          rw [if_pos hij]; exact t3
        · rw [if_neg hij]; rfl
      · obtain ⟨t1, t2, t3, t4, t5⟩ := hds i row j a hi hj
        rw [if_pos ⟨t1, t2⟩]
        exact t5.mono hS (Evo.refl _ _) (BtLe.refl _)
    · exact .any _
  | sl rs rows clip A c b o u hc hm hcl hrs hA hw h1 hr ih => intro _; exact plain (.sl rs rows clip A c b o u hc hm hcl hrs hA hw h1 hr)
  | dp rs col row b o u hrs hb hw h1 hr ih => intro _; exact plain (.dp rs col row b o u hrs hb hw h1 hr)
  | ptr s col l hl =>
    intro _
    show Rep _ w _ (match h s with | some (.box cells) => .dp cells.length col (anyL cells) | _ => .any) _
    split
    · rename_i cells hs
      obtain ⟨l', ds, e', fr', k1, k2, k3, k4, k5, k6⟩ := H.own s _ hs
      obtain rfl : l' = l := by rw [hl] at k1; exact (Option.some.inj k1).symm
      have hlt : ∀ (j : Nat) a, (anyL cells)[j]? = some a → ds[l'.base + j]? = some (ds.getD (l'.base + j) undef) ∧ (ds.getD (l'.base + j) undef).oneCell' = true ∧ Rep S w noB a (ds.getD (l'.base + j) undef) := by
        intro j a hj
        obtain ⟨b, hb, hab⟩ := anyL_get cells j a hj
        obtain ⟨u, q1, q2, q3⟩ := k6 j b hb
        have hg : ds.getD (l'.base + j) undef = u := by rw [Array.getD_eq_getD_getElem?, q1]; rfl
        rw [hg]
        rcases hab with rfl | ⟨rfl, hcl⟩
        · exact ⟨q1, q2, .any _⟩
        · exact ⟨q1, q2, closed_rep q3 hcl _⟩
      refine .dp cells.length col (anyL cells) l'.blk l'.base (fun j => if j < cells.length then ds.getD (l'.base + j) undef else .bool false) (anyL_len cells) (.inr ⟨k4, lt_of_heap k2⟩) (fun j a hj => ?_) (fun j => ?_) fun j a hj => ?_
      · have hjl : j < cells.length := by rw [← anyL_len cells]; exact (List.getElem?_eq_some_iff.1 hj).1
        rw [if_pos hjl, cell_of_cells k2]
        exact (hlt j a hj).1
      · show (if j < cells.length then ds.getD (l'.base + j) undef else .bool false).oneCell' = true
        by_cases hjl : j < cells.length
        · rw [if_pos hjl]; exact (hlt j _ (List.getElem?_eq_getElem (by rw [anyL_len]; exact hjl))).2.1
        · rw [if_neg hjl]; rfl
      · have hjl : j < cells.length := by rw [← anyL_len cells]; exact (List.getElem?_eq_some_iff.1 hj).1
        rw [if_pos hjl]
        exact (hlt j a hj).2.2.mono hS (Evo.refl _ _) (BtLe.refl _)
    · exact .any _
  | ptr2 s row col l hl => intro _; exact plain (.ptr2 s row col l hl)
  | clo f first caps vs us hl h hl' h' ih ih' =>
    intro hlk
    simp only [lenOkA] at hlk
    rename_i hh0
    refine .clo f _ _ vs us (by rw [datL_len]; exact hl) (fun i x u p q => ?_) (by rw [datL_len]; exact hl') fun i x u p q => ?_
    · obtain ⟨y, hy, rfl⟩ := datL_get first i x p
      exact ih i y u hy q H plain (len_get first hlk.1 i y hy)
    · obtain ⟨y, hy, rfl⟩ := datL_get caps i x p
      exact ih' i y u hy q H plain (len_get caps hlk.2 i y hy)
  | optT g a x hg h ih => intro _; exact plain (.optT g a x hg h)
  | optF g a hg => intro _; exact .optF g a hg
  | any x => intro _; exact .any x
theorem flat_rep {β β' : Bt} {S S' : Nat → Prop} {w w' : World} {a : AV} {v : Value} (hr : Rep S w β a v) : flatA a = true → Rep S' w' β' a v := by
  have get : ∀ (cs : List AV), flatL cs = true → ∀ (i : Nat) x, cs[i]? = some x → flatA x = true := by
    intro cs
    induction cs with
    | nil => intro _ i x hx; simp at hx
    | cons c cs ih =>
      intro hf i x hx
      simp only [flatL] at hf
      split at hf
      · rename_i hc
        cases i with
        | zero => simp at hx; subst hx; exact hc
        | succ i => exact ih hf i x (by simpa using hx)
      · cases hf
  induction hr with
  | v x => intro _; exact .v x
  | agg cs vs hl h1 h ih => intro hf; exact .agg cs vs hl h1 fun i a u p q => ih i a u p q (get cs (by simpa [flatA] using hf) i a p)
  | tup cs vs hl h ih => intro hf; exact .tup cs vs hl fun i a u p q => ih i a u p q (get cs (by simpa [flatA] using hf) i a p)
  | _ => intro hf; simp [flatA] at hf
theorem noOwn_dat : ∀ (cs : List AV), noOwnL cs = true → datL h cs = cs := by
  have key : ∀ (n : Nat) (cs : List AV), SizeOf.sizeOf cs ≤ n → noOwnL cs = true → datL h cs = cs := by
    intro n
    induction n with
    | zero => intro cs hn; cases cs <;> simp at hn
    | succ n ih =>
      intro cs hn hc
      cases cs with
      | nil => rfl
      | cons x xs =>
        simp only [noOwnL] at hc
        split at hc
        · rename_i hx
          have h2 := ih xs (by simp at hn; omega) hc
          simp only [datL, h2]
          congr 1
          cases x with
          | agg ds =>
            have := ih ds (by simp at hn; omega) (by simpa [noOwn] using hx)
            simp only [datA, this]
          | tup ds =>
            have hq : noOwnL ds = true := by simpa [noOwn] using hx
            simp only [datA, hq]
          | osl => simp [noOwn] at hx
          | ptr => simp [noOwn] at hx
          | clo f a b =>
            simp only [noOwn] at hx
            split at hx
            · rename_i ha
              have e1 := ih a (by simp at hn; omega) ha
              have e2 := ih b (by simp at hn; omega) hx
              simp only [datA, e1, e2]
            · cases hx
          | _ => rfl
        · cases hc
  exact fun cs hc => key _ cs (Nat.le_refl _) hc
theorem call_sound {f : FuncId} {args : List AV} {x : AV} {vs : List Value} (M : SimD C V w0 S0 N D t h a w S β) (hargs : RepL S w β args vs) (hcl : closedL (datL h args) = true) (hf : noOwnL args = true ∨ (flatA x = true ∧ lenOkL h args)) (hcx : closedA x = true) (hR : DCall C f (datL h args) x) :
    (callFunc f vs.toArray).run C.P w = .ok (.enter f vs.toArray) w ∧ Calls C.P f vs.toArray w fun e w' => ∃ v S', e = .returned v ∧ Rep S' w' β x v ∧ SimH w0.heap.size S' w' β h ∧ StepK w0.heap.size S w β s S' w' β := by
  obtain ⟨⟨fn, g1, g2, g3⟩, hcall⟩ := hR
  have lenL : ∀ (cs : List AV), (datL h cs).length = cs.length := by
    intro cs
    induction cs with
    | nil => rfl
    | cons c cs ih => simp [datL, ih]
  constructor
  · simp only [callFunc, Sem.run_bind, program, Sem.run, Result.andThen_ok, g1]
    have : fn.body.isNone = false := by cases hb : fn.body <;> simp_all
    simp [g3, this]
  ·
    have after : ∀ (S1 : Nat → Prop), (∀ b, S1 b → b < w.heap.size) → (∀ w' v, Below w.heap.size w w' → Rep (fun b => S1 b ∨ (w.heap.size ≤ b ∧ b < w'.heap.size)) w' noB x v → ∃ S', Rep S' w' β x v ∧ (∀ b, S b → S' b) ∧ (∀ b, S' b → S b ∨ w.heap.size ≤ b) ∧ ∀ b, S' b → b < w'.heap.size) → RepL S1 w noB (datL h args) vs → GOk C S1 w →
        Calls C.P f vs.toArray w fun e w' => ∃ v S', e = .returned v ∧ Rep S' w' β x v ∧ SimH w0.heap.size S' w' β h ∧ StepK w0.heap.size S w β s S' w' β := by
      intro S1 hS1 hback hrep hG
      refine (hcall S1 w vs hS1 hG hrep).mono ?_
      rintro e w' ⟨v, he, hB, hr⟩
      obtain ⟨S', r1, r2, r3, r4⟩ := hback w' v hB hr
      have hE : Evo S w w' := Evo.of_kept (fun b hb => hB.block b hb) M.H.lt
      refine ⟨v, S', he, r1, ⟨fun s' blk hs' => ?_, M.H.inj, r4, Nat.le_trans M.H.big hB.size⟩, ⟨r2, hE, hB.mono M.H.big, BtLe.refl _, fun _ _ hx => .inl hx, fun b hb => (r3 b hb).imp id fun h => ⟨Nat.le_trans M.H.big h, .inl h⟩, fun b hb _ => hB.block b hb⟩⟩
      obtain ⟨l, cs, e', fr, k1, k2, k3, k4, k5, k6⟩ := M.H.own s' blk hs'
      have hlt := lt_of_heap k2
      refine ⟨l, cs, e', fr, k1, (hB.block _ hlt).trans k2, k3, k4, fun hb => ?_, k6.mono r2 hE (BtLe.refl _)⟩
      rcases r3 _ hb with hb | hb
      · exact k5 hb
      · omega
    rcases hf with hf | ⟨hf, hlk⟩
    · have e1 := noOwn_dat (h := h) args hf
      rw [e1] at hcl
      refine after S M.H.lt (fun w' v hB hr => ⟨fun b => S b ∨ (w.heap.size ≤ b ∧ b < w'.heap.size), ?_, fun b hb => .inl hb, fun b hb => hb.imp id (·.1), fun b hb => ?_⟩) (by rw [e1]; exact ⟨hargs.1, fun i y u p q => closed_rep (hargs.2 i y u p q) (closedL_get args hcl i y p) _⟩) M.G
      · exact hr.mono (fun _ h => h) (Evo.refl _ _) (fun s l x => by cases x)
      · rcases hb with hb | hb
        · exact Nat.lt_of_lt_of_le (M.H.lt b hb) hB.size
        · exact hb.2
    · have datL_get : ∀ (cs : List AV) (i : Nat) (x : AV), (datL h cs)[i]? = some x → ∃ y, cs[i]? = some y ∧ x = datA h y := by
        intro cs
        induction cs with
        | nil => intro i x hx; simp [datL] at hx
        | cons c cs ih =>
          intro i x hx
          cases i with
          | zero => simp [datL] at hx; exact ⟨c, rfl, hx.symm⟩
          | succ i => simp [datL] at hx; exact ih i x hx
      have len_get : ∀ (cs : List AV), lenOkL h cs → ∀ (i : Nat) y, cs[i]? = some y → lenOkA h y := by
        intro cs
        induction cs with
        | nil => intro _ i y hy; simp at hy
        | cons c cs ih =>
          intro hl i y hy
          simp only [lenOkL] at hl
          cases i with
          | zero => simp at hy; subst hy; exact hl.1
          | succ i => exact ih hl.2 i y (by simpa using hy)
      refine after (fun b => b < w.heap.size) (fun _ h => h) (fun w' v hB hr => ⟨S, flat_rep hr hf, fun _ h => h, fun b hb => .inl hb, fun b hb => Nat.lt_of_lt_of_le (M.H.lt b hb) hB.size⟩) ⟨by rw [lenL]; exact hargs.1, fun i y u p q => ?_⟩ fun g cells hg => (M.G g cells hg).mono M.H.lt (Evo.refl _ _) (BtLe.refl _)
      obtain ⟨z, hz, rfl⟩ := datL_get args i y p
      exact closed_rep ((datA_rep M.H (hargs.2 i z u hz q) (len_get args hlk i z hz)).mono (fun b hb => hb.elim (M.H.lt b) (·.2)) (Evo.refl _ _) (BtLe.refl _)) (closedL_get _ hcl i _ p) _
end
end Go.Proofs.YtpefnjbmbfdmmaaDoor
namespace Go.Proofs.YtpefnjbmbfdmmaaDoor
open Go.RowKit
section
variable {C : Ctx} {V : Inv C.fr} {all : List Oper} {o : Oper} {s N : Nat} {t : Nat → AV} {h h' : AH} {a : Act} {w w0 : World} {D : Nat → Prop} {S0 : Nat → Prop} {S : Nat → Prop} {β : Bt}
theorem put_get (a : Act) {d : Option Nat} {v : Value} {x : AV} {S' : Nat → Prop} {w' : World} {β' : Bt} (hT : ∀ i, Rep S' w' β' (t i) (a.tmps.getD i undef)) (hx : Rep S' w' β' x v) (hd : ∀ k, d = some k → k < a.tmps.size) :
    ∀ i, Rep S' w' β' (updO t d x i) ((a.put d v).tmps.getD i undef) := by
  intro i
  cases d with
  | none => exact hT i
  | some k =>
    have hk := hd k rfl
    by_cases hi : i = k
    · subst hi
      have : ((a.put (some i) v).tmps.getD i undef) = v := by simp [Act.put, Array.getD_eq_getD_getElem?, hk]
      rw [this]
      show Rep S' w' β' (upd t i x i) v
      rw [upd_same]; exact hx
    · have : ((a.put (some k) v).tmps.getD i undef) = a.tmps.getD i undef := by simp [Act.put, Array.getD_eq_getD_getElem?, Array.getElem?_setIfInBounds_ne (Ne.symm hi)]
      rw [this]
      show Rep S' w' β' (upd t k x i) _
      rw [upd_other _ _ hi]; exact hT i
theorem sim_next (M : SimD C V w0 S0 N D t h a w S β) {S' : Nat → Prop} {w' : World} {β' : Bt} {h' : AH} (K : StepK w0.heap.size S w β s S' w' β') (H : SimH w0.heap.size S' w' β' h') {x : AV} {v : Value} (hx : Rep S' w' β' x v) {d : Option Nat} (hd : ∀ k, d = some k → k < N) :
    SimD C V w0 S0 N (fun n => D n ∨ n = s) (updO t d x) h' (a.put d v) w' S' β' := by
  refine ⟨put_get a (fun i => (M.T i).mono K.hS K.hE K.hle) hx (fun k hk => by rw [M.sz]; exact hd k hk), H, M.B.trans K.hB, fun y l hy => (K.hdom y l hy).imp (M.dom y l) (·.1), ?_, ?_, fun g cells hg => (M.G g cells hg).mono K.hS K.hE (BtLe.refl _), fun b hb => (K.hN b hb).elim (M.nw b) (fun h => .inr h.1), V.mono M.iv K⟩
  · cases d <;> exact M.df
  · cases d with
    | none => exact M.sz
    | some k => simp only [Act.put, Array.size_setIfInBounds]; exact M.sz
theorem nodeR_sound (hC : CtxOk C) (M : SimD C V w0 S0 N D t h a w S β) (hs : β s = none) (ev : Operand → AV) (hev : ∀ x ∈ o.op.operands, Rep S w β (ev x) (a.eval x)) {x : AV} (hn : NodeR C (DCall C) h (opA C ev h s o.op) x h') (hd : ∀ k, o.dst = some k → k < N)
    {K : Act → World → Prop} {Q : Exit → Act → World → Prop} (hK : ∀ v w' S' β', Rep S' w' β' x v → SimH w0.heap.size S' w' β' h' → StepK w0.heap.size S w β s S' w' β' → K (a.put o.dst v) w') : o.wp C.P a w K Q := by
  have hop := op_sound (B := w0.heap.size) hC M.H hs ev a.eval o hev (fun _ => rfl)
  have fin : Post w0.heap.size S w β s ((execOp a.eval o).run C.P w) x h' → o.wp C.P a w K Q := by
    rintro ⟨v, w', S', β', h1, h2, h3, h4⟩
    unfold Oper.wp
    rcases h1 with h1 | ⟨h1, hv⟩
    · rw [h1]; exact hK v w' S' β' h2 h3 h4
    · rw [h1]; subst hv; exact hK undef w' S' β' h2 h3 h4
  cases hr : opA C ev h s o.op with
  | bad => rw [hr] at hn; exact hn.elim
  | ok y => rw [hr] at hn hop; obtain ⟨rfl, rfl⟩ := hn; exact fin hop
  | need p y => rw [hr] at hn hop; obtain ⟨hp, rfl, rfl⟩ := hn; exact fin (hop hp)
  | idx rows i f => rw [hr] at hn hop; obtain ⟨row, h0, h1, h2, rfl⟩ := hn; exact fin (hop row x h0 h1 h2)
  | fx p y h2 => rw [hr] at hn hop; obtain ⟨hp, rfl, rfl⟩ := hn; exact fin (hop hp)
  | idxfx rows i f => rw [hr] at hn hop; obtain ⟨row, h0, h1, h2, rfl⟩ := hn; exact fin (hop row h' h0 h1 h2)
  | str p rows => rw [hr] at hn hop; obtain ⟨l, hp, h1, rfl, rfl⟩ := hn; exact fin (hop l hp h1)
  | call f args =>
    rw [hr] at hn hop
    obtain ⟨c1, c2, c3, c4, rfl⟩ := hn
    obtain ⟨vs, e1, e2⟩ := hop
    obtain ⟨g1, g2⟩ := call_sound (s := s) M e1 c1 c2 c3 c4
    unfold Oper.wp
    rw [e2, g1]
    show Calls C.P f vs.toArray w _
    refine g2.mono ?_
    rintro e w' ⟨v, S', he, k1, k2, k3⟩
    subst he
    exact hK v w' S' β k1 k2 k3
theorem hcall_sound (hC : CtxOk C) (M : SimD C V w0 S0 N D t h a w S β) (hsD : ∀ x, D x → x < s) {f : FuncId} {args : List AV} {Post : AV → AH → Prop} (hx : opA C (evA C t) h s o.op = .call f args) (hH : C.H f args h s Post)
    {K : Act → World → Prop} {Q : Exit → Act → World → Prop} (hd : ∀ k, o.dst = some k → k < N) (hK : ∀ x h' a' w' S' β', Post x h' → SimD C V w0 S0 N (fun n => D n ∨ n = s) (updO t o.dst x) h' a' w' S' β' → K a' w') : o.wp C.P a w K Q := by
  have hop := op_sound (B := w0.heap.size) hC M.H (show β s = none from by
    cases hq : β s with
    | none => rfl
    | some l => exact absurd (hsD s (M.dom s l hq)) (Nat.lt_irrefl _)) (evA C t) a.eval o (fun x _ => ev_rep M x) (fun _ => rfl)
  rw [hx] at hop
  obtain ⟨vs, e1, e2⟩ := hop
  obtain ⟨⟨fn, g1, g2, g3⟩, hcall⟩ := hC.hH _ _ _ _ _ hH
  unfold Oper.wp
  have g : (callFunc f vs.toArray).run C.P w = .ok (.enter f vs.toArray) w := by
    simp only [callFunc, Sem.run_bind, program, Sem.run, Result.andThen_ok, g1]
    have : fn.body.isNone = false := by cases hb : fn.body <;> simp_all
    simp [g3, this]
  rw [e2, g]
  show Calls C.P f vs.toArray w _
  refine (hcall _ S w β vs M.H (fun x l hx => hsD x (M.dom x l hx)) M.G.g e1).mono ?_
  rintro e w' ⟨v, S', β', r, h', hP, he, k1, k2, k3⟩
  subst he
  exact hK r h' _ _ _ _ hP (sim_next M k3 k2 k1 hd)
theorem step_sound (hC : CtxOk C) (M : SimD C V w0 S0 N D t h a w S β) (hs : β s = none) {ops : Array Oper} (hall : ops.toList = all) {x : AV} (hst : StepR C (DCall C) all o s t h x h') (hd : ∀ k, o.dst = some k → k < N) (hgd : ∀ i pol d, o.guard = some (i, pol) → (all[i]?).bind (·.dst) = some d → d < N)
    {K : Act → World → Prop} {Q : Exit → Act → World → Prop} (hK : ∀ a' w' S' β', SimD C V w0 S0 N (fun n => D n ∨ n = s) (updO t o.dst x) h' a' w' S' β' → K a' w') :
    if Region.wanted o (yielded ops a.tmps) then o.wp C.P a w K Q ∨ (o.asks C.P a w ∧ LetsOut Q) else K (a.put o.dst undef) w := by
  unfold StepR at hst
  cases hg : o.guard with
  | none =>
    simp only [hg] at hst
    have : Region.wanted o (yielded ops a.tmps) = true := by simp [Region.wanted, hg]
    rw [if_pos this]
    exact .inl (nodeR_sound hC M hs _ (fun x _ => ev_rep M x) hst hd fun v w' S' β' h1 h2 h3 => hK _ _ S' β' (sim_next M h3 h2 h1 hd))
  | some q =>
    obtain ⟨i, pol⟩ := q
    simp only [hg] at hst
    obtain ⟨d, g, y, q1, q2, ⟨rfl, rfl, q3⟩ | ⟨rfl, q3⟩⟩ := hst
    case inr =>
      rw [wanted_iff M hall hg q1 q2 (hgd i pol d hg q1), if_pos rfl]
      exact .inl (nodeR_sound hC M hs _ (fun x _ => ev_rep M x) q3 hd fun v w' S' β' h1 h2 h3 => hK _ _ S' β' (sim_next M h3 h2 h1 hd))
    rw [wanted_iff M hall hg q1 q2 (hgd i pol d hg q1)]
    cases g with
    | false =>
      rw [if_neg (by simp)]
      exact hK _ _ S β (sim_next M (StepK.refl _ _ _ _ _) M.H (.optF false y rfl) hd)
    | true =>
      rw [if_pos rfl]
      refine .inl ?_
      rcases q3 with ⟨_, q5⟩ | ⟨c, q4, q5, q6⟩
      · exact nodeR_sound hC M hs _ (fun x _ => ev_rep M x) (q5 rfl).2 hd fun v w' S' β' h1 h2 h3 => hK _ _ S' β' (sim_next M h3 h2 (.optT true y v rfl h1) hd)
      · exact nodeR_sound hC M hs _ (evS_rep M o.op q4 (q5 rfl)) (q6 rfl).2 hd fun v w' S' β' h1 h2 h3 => hK _ _ S' β' (sim_next M h3 h2 (.optT true y v rfl h1) hd)
def slotsOk (N : Nat) (l : List Oper) : Bool := l.all fun o => match o.dst with | some d => Nat.blt d N | none => true
theorem slots_lt {l : List Oper} (hb : slotsOk N l = true) {o : Oper} (ho : o ∈ l) : ∀ k, o.dst = some k → k < N := fun k hk => by
  have := List.all_eq_true.1 hb o ho
  simp only [hk] at this
  exact Nat.le_of_ble_eq_true this
theorem guard_lt (hb : slotsOk N all = true) : ∀ (i d : Nat), (all[i]?).bind (fun (o : Oper) => o.dst) = some d → d < N := fun i d h => by
  obtain ⟨o, ho, hd⟩ := Option.bind_eq_some_iff.1 h
  exact slots_lt hb (List.mem_of_getElem? ho) d hd
theorem seq_sound (hC : CtxOk C) {ops : Array Oper} (hall : ops.toList = all) (hb : slotsOk N all = true) {K : ASt → Prop} {Q : Exit → Act → World → Prop} {n : Nat} : ∀ (rest : List Oper) (j : Nat) (t : Nat → AV) (h : AH) (a : Act) (w : World) (S : Nat → Prop) (β : Bt), all.drop j = rest → regA C (DCall C) all rest j ⟨t, h, n⟩ K → SimD C V w0 S0 N (· < n + j) t h a w S β →
    (∀ st a' w' S' β', K st → SimD C V w0 S0 N (· < st.n) st.t st.h a' w' S' β' → Q .normal a' w') → wpOps C.P ops Q (List.range' j rest.length) a w
  | [], j, t, h, a, w, S, β, _, hr, M, hQ => hQ ⟨t, h, n + j⟩ a w S β hr M
  | o :: rest, j, t, h, a, w, S, β, hdrop, hr, M, hQ => by
    have hj : all[j]? = some o := by
      have : (all.drop j)[0]? = some o := by rw [hdrop]; rfl
      simpa using this
    have hoj : ops[j]? = some o := by rw [← hj, ← hall, Array.getElem?_toList]
    have hmem : o ∈ all := List.mem_of_getElem? hj
    have hs : β (n + j) = none := by
      cases hq : β (n + j) with
      | none => rfl
      | some l => have := M.dom _ _ hq; omega
    rw [List.length_cons, List.range'_succ]
    simp only [wpOps, hoj]
    have next : ∀ (x : AV) (h' : AH), regA C (DCall C) all rest (j + 1) ⟨updO t o.dst x, h', n⟩ K → ∀ a' w' S' β', SimD C V w0 S0 N (fun y => y < n + j ∨ y = n + j) (updO t o.dst x) h' a' w' S' β' → wpOps C.P ops Q (List.range' (j + 1) rest.length) a' w' := fun x h' h2 a' w' S' β' M' => by
      refine seq_sound hC hall hb rest (j + 1) _ h' a' w' S' β' ?_ h2 ?_ hQ
      · rw [← List.drop_drop, hdrop]; rfl
      · exact ⟨M'.T, M'.H, M'.B, fun y l hy => (M'.dom y l hy).elim (fun (h : y < n + j) => show y < n + (j + 1) by omega) (fun (h : y = n + j) => show y < n + (j + 1) by omega), M'.df, M'.sz, M'.G, M'.nw, M'.iv⟩
    rcases step_inv hr with ⟨x, h', h1, h2⟩ | ⟨hg, f, args, Post, hx, hH, hk⟩
    rotate_left
    · have : Region.wanted o (yielded ops a.tmps) = true := by
        rcases hg with hg | ⟨i, pol, d, g1, g2, g3⟩
        · simp [Region.wanted, hg]
        · exact wanted_iff M hall g1 g2 g3 (guard_lt hb i d g2)
      rw [if_pos this]
      exact .inl (hcall_sound hC M (fun x (hx : x < n + j) => hx) hx hH (slots_lt hb hmem) fun x h' a' w' S' β' hP M' => next x h' (hk x h' hP) a' w' S' β' M')
    refine step_sound hC M hs hall h1 (slots_lt hb hmem) (fun i pol d _ hd => guard_lt hb i d hd) fun a' w' S' β' M' => next x h' h2 a' w' S' β' M'
end
def HRel (h1 h2 : AH) (s : Nat) (wr : Bool) (β : Bt) (h1' h2' : AH) : Prop :=
  (∀ b, h2 b = h1 b → h2' b = h1' b) ∧ ∀ b, b ≠ s → (h1' b ≠ h1 b ∨ h2' b ≠ h2 b) → wr = true ∧ h1 b ≠ none ∧ ∃ l, β b = some l
def Tr (h1 h2 : AH) (s : Nat) (wr : Bool) (β : Bt) (r1 r2 : Res) : Prop :=
  match r1 with
  | .bad => True
  | .fx p x h1' => ∃ h2', r2 = .fx p x h2' ∧ HRel h1 h2 s wr β h1' h2'
  | .idxfx rows i f => ∃ f2, r2 = .idxfx rows i f2 ∧ ∀ row h1', f row = some h1' → ∃ h2', f2 row = some h2' ∧ HRel h1 h2 s wr β h1' h2'
  | r => r2 = r
section
variable {C : Ctx} {h1 h2 : AH} {s : Nat} {wr : Bool} {β : Bt} {S : Nat → Prop} {w : World}
theorem Tr.refl_of {r : Res} (hr : isFx r = false) : Tr h1 h2 s wr β r r := by
  cases r <;> first | rfl | (simp [isFx] at hr)
theorem HRel.new (blk : Option Blk) : HRel h1 h2 s wr β (upd h1 s blk) (upd h2 s blk) := by
  refine ⟨fun b hb => ?_, fun b hb h => ?_⟩
  · by_cases he : b = s
    · subst he; rw [upd_same, upd_same]
    · rw [upd_other _ _ he, upd_other _ _ he]; exact hb
  · rw [upd_other _ _ hb, upd_other _ _ hb] at h
    rcases h with h | h <;> exact absurd rfl h
theorem HRel.set {b0 : Nat} {l : Loc} (hl : β b0 = some l) (hn : h1 b0 ≠ none) (blk : Option Blk) : HRel h1 h2 s true β (upd h1 b0 blk) (upd h2 b0 blk) := by
  refine ⟨fun b hb => ?_, fun b hb h => ?_⟩
  · by_cases he : b = b0
    · subst he; rw [upd_same, upd_same]
    · rw [upd_other _ _ he, upd_other _ _ he]; exact hb
  · by_cases he : b = b0
    · subst he; exact ⟨rfl, hn, l, hl⟩
    · rw [upd_other _ _ he, upd_other _ _ he] at h
      rcases h with h | h <;> exact absurd rfl h
theorem HRel.set_new {b0 : Nat} {l : Loc} (hl : β b0 = some l) (hn : h1 b0 ≠ none) (blk blk' : Option Blk) : HRel h1 h2 s true β (upd (upd h1 b0 blk') s blk) (upd (upd h2 b0 blk') s blk) := by
  refine ⟨fun b hb => ?_, fun b hb h => ?_⟩
  · by_cases he : b = s
    · subst he; rw [upd_same, upd_same]
    · rw [upd_other _ _ he, upd_other _ _ he]
      by_cases he : b = b0
      · subst he; rw [upd_same, upd_same]
      · rw [upd_other _ _ he, upd_other _ _ he]; exact hb
  · rw [upd_other _ _ hb, upd_other _ _ hb] at h
    by_cases he : b = b0
    · subst he; exact ⟨rfl, hn, l, hl⟩
    · rw [upd_other _ _ he, upd_other _ _ he] at h
      rcases h with h | h <;> exact absurd rfl h
def Agree (β : Bt) (h1 h2 : AH) : Prop := ∀ b l, β b = some l → h1 b ≠ none → h2 b = h1 b
theorem rowsOf_congr {a : AV} {v : Value} (ha : Rep S w β a v) (hag : Agree β h1 h2) {r : Nat × List (List AV)} (hr : rowsOf h1 a = some r) : rowsOf h2 a = some r ∧ (lenOk h2 a ↔ lenOk h1 a) := by
  cases ha with
  | osl s lo len clip l A c hl hc hm hcl hA cs e fr hb room =>
    have hn : h1 s ≠ none := by
      intro h0; simp only [rowsOf, h0] at hr; cases hr
    have e := hag s l hl hn
    simp only [rowsOf, e] at hr ⊢
    exact ⟨hr, by simp only [lenOk, e]⟩
  | v => exact ⟨by cases v <;> exact hr, Iff.rfl⟩
  | _ => exact ⟨hr, Iff.rfl⟩
theorem load_tr (t : TypeId) {a : AV} {v : Value} (ha : Rep S w β a v) (hag : Agree β h1 h2) : Tr h1 h2 s wr β (loadAtA C h1 t a) (loadAtA C h2 t a) := by
  have ok : ∀ x : Option AV, Tr h1 h2 s wr β (okO x) (okO x) := fun x => by cases x <;> first | trivial | rfl
  cases ha <;> simp only [loadAtA] <;> try (exact trivial)
  case ptr b c l hl =>
    cases hb : h1 b with
    | none => exact trivial
    | some blk =>
      rw [hag b l hl (by rw [hb]; simp), hb]
      cases blk with
      | box cells => exact ok _
      | arr rows rs => exact trivial
      | row cells => exact trivial
  case ptr2 b r c l hl =>
    cases hb : h1 b with
    | none => exact trivial
    | some blk =>
      rw [hag b l hl (by rw [hb]; simp), hb]
      cases blk with
      | box cells => exact trivial
      | arr rows rs => rfl
      | row cells => rfl
  case dp => exact ok _
theorem Tr.of_eq {r1 r2 : Res} (he : r2 = r1) (hs : isFx r1 = false ∨ r1 = .bad) : Tr h1 h2 s wr β r1 r2 := by
  subst he
  rcases hs with hs | hs
  · exact Tr.refl_of hs
  · rw [hs]; trivial
theorem blkOf_congr {a : AV} {v : Value} (ha : Rep S w β a v) (hag : Agree β h1 h2) : blkOf h2 a = blkOf h1 a ∨ blkOf h1 a = none ∧ ∃ b lo len clip, a = .osl b lo len clip := by
  cases ha with
  | osl b lo len clip l A c hl hc hm hcl hA cs e fr hb room =>
    cases hb : h1 b with
    | none => exact .inr ⟨hb, b, lo, len, clip, rfl⟩
    | some blk => exact .inl (hag b l hl (by rw [hb]; simp))
  | _ => exact .inl rfl
theorem indexAddr_tr (t : TypeId) {a i : AV} {v : Value} (ha : Rep S w β a v) (hag : Agree β h1 h2) : Tr h1 h2 s wr β (indexAddrA C h1 t a i) (indexAddrA C h2 t a i) := by
  have self : isFx (indexAddrA C h1 t a i) = false ∨ indexAddrA C h1 t a i = .bad := by
    unfold indexAddrA indexAddrV
    repeat' split
    all_goals first | exact .inl rfl | exact .inr rfl
  rcases blkOf_congr ha hag with he | ⟨he, b, lo, len, clip, rfl⟩
  · exact Tr.of_eq (by unfold indexAddrA; rw [he]) self
  · have hbad : indexAddrA C h1 t (.osl b lo len clip) i = .bad := by
      unfold indexAddrA
      rw [he]
      unfold indexAddrV
      split
      · split
        · rename_i hq; cases hq
        · rfl
        · rfl
      · split
        · rename_i hq; cases hq
        · rename_i hq; cases hq
        · rename_i hq; cases hq
        · rfl
      · rfl
    rw [hbad]; trivial
theorem slice_tr (t : TypeId) {a : AV} {lo hi mx : Option AV} {v : Value} (ha : Rep S w β a v) (hag : Agree β h1 h2) : Tr h1 h2 s wr β (sliceA C h1 t a lo hi mx) (sliceA C h2 t a lo hi mx) := by
  have self : isFx (sliceA C h1 t a lo hi mx) = false ∨ sliceA C h1 t a lo hi mx = .bad := by
    unfold sliceA sliceV
    repeat' split
    all_goals first | exact .inl rfl | exact .inr rfl
  rcases blkOf_congr ha hag with he | ⟨he, b, lo', len, clip, rfl⟩
  · exact Tr.of_eq (by unfold sliceA; rw [he]) self
  · have hbad : sliceA C h1 t (.osl b lo' len clip) lo hi mx = .bad := by
      unfold sliceA
      rw [he]
      unfold sliceV
      repeat' split
      all_goals first | rfl | (simp_all; done)
    rw [hbad]; trivial
theorem conv_tr (src dst : TypeId) {a : AV} {v : Value} (ha : Rep S w β a v) (hag : Agree β h1 h2) : Tr h1 h2 s wr β (convO C h1 s src dst a) (convO C h2 s src dst a) := by
  have cself : isFx (convA C src dst a) = false ∨ convA C src dst a = .bad := by
    unfold convA
    split <;> first | exact .inl rfl | exact .inr rfl
  unfold convO
  split
  · split
    · exact ⟨_, rfl, HRel.new _⟩
    · trivial
  · split
    · trivial
    · split
      · rename_i rc rows hq hr
        obtain ⟨e1, e2⟩ := rowsOf_congr ha hag hr
        rw [e1, hq]
        show _ = _
        simp only [e2]
      · trivial
  · exact Tr.of_eq rfl cself
theorem append_tr (ts : List TypeId) {x y : AV} {vx vy : Value} (hx : Rep S w β x vx) (hy : Rep S w β y vy) (hag : Agree β h1 h2) : Tr h1 h2 s true β (builtinA C h1 s .append ts [x, y]) (builtinA C h2 s .append ts [x, y]) := by
  simp only [builtinA]
  have key : ∀ (rx ry : Option (Nat × List (List AV))) (blk : Option Blk) (px py : Prop), (∀ b lo len clip, x = .osl b lo len clip → blk ≠ none → (∃ l, β b = some l) ∧ h1 b ≠ none) → Tr h1 h2 s true β (appendV C s ts x rx ry blk px py h1) (appendV C s ts x rx ry blk px py h2) := by
    intro rx ry blk px py hb
    unfold appendV
    split
    · split
      · split
        · split
          · split
            · exact ⟨_, rfl, HRel.new _⟩
            · split
              · exact Tr.of_eq rfl (.inl rfl)
              · exact ⟨_, rfl, HRel.new _⟩
            · trivial
          · split
            · exact ⟨_, rfl, HRel.new _⟩
            · trivial
          · rename_i b lo len _ _ _ _ _ _
            split
            · obtain ⟨⟨l, hl⟩, hn⟩ := hb _ _ _ _ rfl (by simp)
              exact ⟨_, rfl, HRel.set_new hl hn _ _⟩
            · trivial
          · trivial
        · trivial
      · trivial
    · trivial
  have bad1 : ∀ (ry : Option (Nat × List (List AV))) (blk : Option Blk) (px py : Prop), appendV C s ts x none ry blk px py h1 = .bad := by
    intro ry blk px py
    unfold appendV
    split
    · split
      · split
        · split <;> first | rfl | (rename_i h _; cases h; done) | (rename_i h; cases h; done)
        · rfl
      · rfl
    · rfl
  have bad2 : ∀ (rx : Option (Nat × List (List AV))) (blk : Option Blk) (px py : Prop), appendV C s ts x rx none blk px py h1 = .bad := by
    intro rx blk px py
    unfold appendV
    split
    · split
      · split
        · split <;> first | rfl | (rename_i h _; cases h; done) | (rename_i h; cases h; done)
        · rfl
      · rfl
    · rfl
  cases hrx : rowsOf h1 x with
  | none => rw [bad1]; trivial
  | some rx =>
    cases hry : rowsOf h1 y with
    | none => rw [bad2]; trivial
    | some ry =>
      obtain ⟨e1, e2⟩ := rowsOf_congr hx hag hrx
      obtain ⟨e3, e4⟩ := rowsOf_congr hy hag hry
      have hbk : blkOf h2 x = blkOf h1 x := by
        rcases blkOf_congr hx hag with he | ⟨he, b, lo, len, clip, rfl⟩
        · exact he
        · simp only [blkOf] at he
          simp only [rowsOf, he] at hrx
          cases hrx
      rw [e1, e3, hbk, show lenOk h2 x = lenOk h1 x from propext e2, show lenOk h2 y = lenOk h1 y from propext e4]
      refine key _ _ _ _ _ fun b lo len clip hq hne => ?_
      subst hq
      cases hx with
      | osl _ _ _ _ l A c hl hc hm hcl hA cs e fr hb' room => exact ⟨⟨l, hl⟩, hne⟩
theorem copy_tr (ts : List TypeId) {x y : AV} {vx vy : Value} (hx : Rep S w β x vx) (hy : Rep S w β y vy) (hag : Agree β h1 h2) : Tr h1 h2 s true β (copyA C h1 ts x y) (copyA C h2 ts x y) := by
  unfold copyA
  split
  · trivial
  · split
    · split
      · rename_i ei b lo len clip he
        cases hb : h1 b with
        | none => simp only; split <;> trivial
        | some blk =>
          cases hx with
          | osl _ _ _ _ l A c hl hc hm hcl hA cs e fr hb' room =>
          have e := hag b l hl (by rw [hb]; simp)
          cases hr : rowsOf h1 y with
          | none => cases blk <;> trivial
          | some r =>
            obtain ⟨e1, e2⟩ := rowsOf_congr hy hag hr
            rw [e, hb, e1]
            cases blk with
            | box => trivial
            | row => trivial
            | arr rows rs =>
              simp only
              split
              · exact ⟨_, by simp only [e2], HRel.set hl (by rw [hb]; simp) _⟩
              · trivial
      · trivial
    · trivial
theorem datL_get' (h : AH) : ∀ (cs : List AV) (i : Nat), (datL h cs)[i]? = (cs[i]?).map (datA h)
  | [], i => by simp [datL]
  | c :: cs, 0 => by simp [datL]
  | c :: cs, i + 1 => by simp [datL, datL_get' h cs i]
theorem lenOkL_iff (h : AH) : ∀ (cs : List AV), lenOkL h cs ↔ ∀ (i : Nat) a, cs[i]? = some a → lenOkA h a
  | [] => ⟨fun _ i a h => by simp at h, fun _ => trivial⟩
  | c :: cs => by
    simp only [lenOkL, lenOkL_iff h cs]
    refine ⟨fun ⟨h0, hr⟩ i a hi => ?_, fun H => ⟨H 0 c rfl, fun i a hi => H (i + 1) a (by simpa using hi)⟩⟩
    cases i with
    | zero => simp at hi; subst hi; exact h0
    | succ i => exact hr i a (by simpa using hi)
theorem datA_congr {a : AV} {v : Value} (ha : Rep S w β a v) : Agree β h1 h2 → closedA (datA h1 a) = true → datA h2 a = datA h1 a ∧ (lenOkA h2 a ↔ lenOkA h1 a) := by
  induction ha with
  | agg cs vs hl h1' h ih =>
    intro hag hc
    have hc' : closedL (datL h1 cs) = true := hc
    have each : ∀ (i : Nat) a, cs[i]? = some a → datA h2 a = datA h1 a ∧ (lenOkA h2 a ↔ lenOkA h1 a) := by
      intro i a hi
      have hlt : i < vs.size := by rw [← hl]; exact (List.getElem?_eq_some_iff.1 hi).1
      exact ih i a vs[i] hi (Array.getElem?_eq_getElem hlt) hag (closedL_get _ hc' i _ (by rw [datL_get', hi]; rfl))
    constructor
    · show AV.agg (datL h2 cs) = .agg (datL h1 cs)
      congr 1
      apply List.ext_getElem?
      intro i
      rw [datL_get', datL_get']
      cases hi : cs[i]? with
      | none => rfl
      | some a => simp only [Option.map_some, (each i a hi).1]
    · show lenOkL h2 cs ↔ lenOkL h1 cs
      rw [lenOkL_iff, lenOkL_iff]
      exact ⟨fun H i a hi => (each i a hi).2.1 (H i a hi), fun H i a hi => (each i a hi).2.2 (H i a hi)⟩
  | tup cs vs hl h ih =>
    intro hag hc
    cases hq : noOwnL cs with
    | true => simp [datA, lenOkA, hq]
    | false =>
    have hc' : closedL (datL h1 cs) = true := by simpa only [datA, hq, closedA] using hc
    have each : ∀ (i : Nat) a, cs[i]? = some a → datA h2 a = datA h1 a ∧ (lenOkA h2 a ↔ lenOkA h1 a) := by
      intro i a hi
      have hlt : i < vs.size := by rw [← hl]; exact (List.getElem?_eq_some_iff.1 hi).1
      exact ih i a vs[i] hi (Array.getElem?_eq_getElem hlt) hag (closedL_get _ hc' i _ (by rw [datL_get', hi]; rfl))
    constructor
    · simp only [datA, hq]
      congr 1
      apply List.ext_getElem?
      intro i
      rw [datL_get', datL_get']
      cases hi : cs[i]? with
      | none => rfl
      | some a => simp only [Option.map_some, (each i a hi).1]
    · simp only [lenOkA, hq]
      rw [lenOkL_iff, lenOkL_iff]
      exact ⟨fun H i a hi => (each i a hi).2.1 (H i a hi), fun H i a hi => (each i a hi).2.2 (H i a hi)⟩
  | osl s lo len clip l A c hl hc hm hcl hA cs e fr hb room =>
    intro hag hcl'
    have hn : h1 s ≠ none := by
      intro h0
      simp only [datA, h0, closedA] at hcl'
      cases hcl'
    have e := hag s l hl hn
    simp only [datA, lenOkA, e]
    exact ⟨trivial, trivial⟩
  | ptr s col l hl =>
    intro hag hcl'
    have hn : h1 s ≠ none := by
      intro h0
      simp only [datA, h0, closedA] at hcl'
      cases hcl'
    have e := hag s l hl hn
    simp only [datA, lenOkA, e]
    exact ⟨trivial, trivial⟩
  | clo f first caps vs us hl h hl' h' ih ih' =>
    intro hag hc
    simp only [datA, closedA] at hc
    split at hc
    · rename_i hc1
      have each : ∀ (i : Nat) a, first[i]? = some a → datA h2 a = datA h1 a ∧ (lenOkA h2 a ↔ lenOkA h1 a) := by
        intro i a hi
        have hlt : i < vs.size := by rw [← hl]; exact (List.getElem?_eq_some_iff.1 hi).1
        exact ih i a vs[i] hi (Array.getElem?_eq_getElem hlt) hag (closedL_get _ hc1 i _ (by rw [datL_get', hi]; rfl))
      have each' : ∀ (i : Nat) a, caps[i]? = some a → datA h2 a = datA h1 a ∧ (lenOkA h2 a ↔ lenOkA h1 a) := by
        intro i a hi
        have hlt : i < us.size := by rw [← hl']; exact (List.getElem?_eq_some_iff.1 hi).1
        exact ih' i a us[i] hi (Array.getElem?_eq_getElem hlt) hag (closedL_get _ hc i _ (by rw [datL_get', hi]; rfl))
      have ext : ∀ (cs : List AV), (∀ (i : Nat) a, cs[i]? = some a → datA h2 a = datA h1 a ∧ (lenOkA h2 a ↔ lenOkA h1 a)) → datL h2 cs = datL h1 cs ∧ (lenOkL h2 cs ↔ lenOkL h1 cs) := by
        intro cs each
        constructor
        · apply List.ext_getElem?
          intro i
          rw [datL_get', datL_get']
          cases hi : cs[i]? with
          | none => rfl
          | some a => simp only [Option.map_some, (each i a hi).1]
        · rw [lenOkL_iff, lenOkL_iff]
          exact ⟨fun H i a hi => (each i a hi).2.1 (H i a hi), fun H i a hi => (each i a hi).2.2 (H i a hi)⟩
      obtain ⟨p1, p2⟩ := ext first each
      obtain ⟨q1, q2⟩ := ext caps each'
      refine ⟨by simp only [datA, p1, q1], ?_⟩
      show (lenOkL h2 first ∧ lenOkL h2 caps) ↔ (lenOkL h1 first ∧ lenOkL h1 caps)
      rw [p2, q2]
    · cases hc
  | _ => intro _ _; exact ⟨rfl, Iff.rfl⟩
theorem datL_congr {args : List AV} {vs : List Value} (hr : RepL S w β args vs) (hag : Agree β h1 h2) (hc : closedL (datL h1 args) = true) : datL h2 args = datL h1 args ∧ (lenOkL h2 args ↔ lenOkL h1 args) := by
  have each : ∀ (i : Nat) a, args[i]? = some a → datA h2 a = datA h1 a ∧ (lenOkA h2 a ↔ lenOkA h1 a) := by
    intro i a hi
    have hlt : i < vs.length := by rw [← hr.1]; exact (List.getElem?_eq_some_iff.1 hi).1
    exact datA_congr (hr.2 i a _ hi (List.getElem?_eq_getElem hlt)) hag (closedL_get _ hc i _ (by rw [datL_get', hi]; rfl))
  constructor
  · apply List.ext_getElem?
    intro i
    rw [datL_get', datL_get']
    cases hi : args[i]? with
    | none => rfl
    | some a => simp only [Option.map_some, (each i a hi).1]
  · rw [lenOkL_iff, lenOkL_iff]
    exact ⟨fun H i a hi => (each i a hi).2.1 (H i a hi), fun H i a hi => (each i a hi).2.2 (H i a hi)⟩
theorem HRel.refl : HRel h1 h2 s wr β h1 h2 := ⟨fun _ h => h, fun b _ h => by rcases h with h | h <;> exact absurd rfl h⟩
theorem opA_tr {ev : Operand → AV} {ρ : Operand → Value} (op : Op) (hev : ∀ x ∈ op.operands, Rep S w β (ev x) (ρ x)) (hag : readsO op = true → Agree β h1 h2) :
    Tr h1 h2 s (writesO op) β (opA C ev h1 s op) (opA C ev h2 s op) := by
  have ok : ∀ (wr : Bool) (x : Option AV), Tr h1 h2 s wr β (okO x) (okO x) := fun wr x => by cases x <;> first | trivial | rfl
  cases op <;> simp only [Op.operands] at hev <;> simp only [opA] <;> try (exact trivial)
  case move x => rfl
  case assign x => rfl
  case pick c a b =>
    refine Tr.of_eq rfl ?_
    unfold pickA
    split <;> first | exact .inl rfl | exact .inr rfl
  case alloc t => split <;> first | trivial | exact ⟨_, rfl, HRel.new _⟩
  case box t x => split <;> first | trivial | exact ⟨_, rfl, HRel.new _⟩
  case build t ps =>
    refine Tr.of_eq rfl ?_
    have o : ∀ x : Option AV, isFx (okO x) = false ∨ okO x = .bad := fun x => by cases x <;> first | exact .inl rfl | exact .inr rfl
    unfold buildA
    repeat' split
    all_goals first | exact o _ | exact .inr rfl
  case buildSlice t n ps =>
    refine Tr.of_eq rfl ?_
    repeat' split
    all_goals first | exact .inl rfl | exact .inr rfl
  case load t a => exact load_tr t (hev a (by simp)) (hag rfl)
  case store t a x =>
    have hag := hag rfl
    have ha := hev a (by simp)
    split
    · split
      · generalize ev a = av at ha
        generalize ρ a = va at ha
        cases ha <;> try (exact trivial)
        case ptr b c l hl =>
          simp only
          cases hb : h1 b with
          | none => exact trivial
          | some blk =>
            rw [hag b l hl (by rw [hb]; simp), hb]
            cases blk with
            | arr => exact trivial
            | row => exact trivial
            | box cells =>
              simp only
              split
              · exact ⟨_, rfl, HRel.set hl (by rw [hb]; simp) _⟩
              · trivial
        case ptr2 b r c l hl =>
          simp only
          cases hb : h1 b with
          | none => exact trivial
          | some blk =>
            rw [hag b l hl (by rw [hb]; simp), hb]
            cases blk with
            | box cells => exact trivial
            | arr rows rs =>
              refine ⟨_, rfl, fun row h1' hf => ?_⟩
              dsimp only at hf ⊢
              split at hf
              · rename_i e1 e2
                injection hf with hf; subst hf
                exact ⟨_, by simp only, HRel.set hl (by rw [hb]; simp) _⟩
              · cases hf
            | row cells =>
              refine ⟨_, rfl, fun row h1' hf => ?_⟩
              dsimp only at hf ⊢
              split at hf
              · injection hf with hf; subst hf
                exact ⟨_, rfl, HRel.set hl (by rw [hb]; simp) _⟩
              · cases hf
      · trivial
    · trivial
  case nilCheck x =>
    refine Tr.of_eq rfl ?_
    unfold nilA
    split <;> first | exact .inl rfl | exact .inr rfl
  case binOp op t x y yt =>
    refine Tr.of_eq rfl ?_
    unfold nilEqA binA intOp shOp boolOp strOp
    repeat' split
    all_goals first | exact .inl rfl | exact .inr rfl
  case unOp op t x =>
    refine Tr.of_eq rfl ?_
    unfold unA
    split <;> first | exact .inl rfl | exact .inr rfl
  case convert src dst x => exact conv_tr src dst (hev x (by simp)) (hag rfl)
  case makeFunc fn first caps => cases fn <;> first | trivial | rfl
  case makeSlice t l c =>
    unfold makeA
    repeat' split
    all_goals first | trivial | exact ⟨_, rfl, HRel.new _⟩
  case slice t x lo hi mx => exact slice_tr t (hev x (by simp)) (hag rfl)
  case fieldAddr t x f =>
    refine Tr.of_eq rfl ?_
    unfold fieldAddrA
    repeat' split
    all_goals first | exact .inl rfl | exact .inr rfl
  case field t x f =>
    have o : ∀ x : Option AV, isFx (okO x) = false ∨ okO x = .bad := fun x => by cases x <;> first | exact .inl rfl | exact .inr rfl
    refine Tr.of_eq rfl ?_
    unfold fieldA
    repeat' split
    all_goals first | exact o _ | exact .inr rfl
  case indexAddr t x i => exact indexAddr_tr t (hev x (by simp)) (hag rfl)
  case index t x i =>
    refine Tr.of_eq rfl ?_
    unfold indexA
    repeat' split
    all_goals first | exact .inl rfl | exact .inr rfl
  case extract x i =>
    have o : ∀ x : Option AV, isFx (okO x) = false ∨ okO x = .bad := fun x => by cases x <;> first | exact .inl rfl | exact .inr rfl
    refine Tr.of_eq rfl ?_
    unfold extractA
    split <;> first | exact o _ | exact .inr rfl
  case call c =>
    obtain ⟨callee, args, ats⟩ := c
    cases callee with
    | value f =>
      simp only
      split <;> first | rfl | trivial
    | invoke r m => trivial
    | builtin b =>
      simp only [Call.operands, Array.empty_append] at hev
      have two : ∀ (x y : AV), args.toList.map ev = [x, y] → ∃ v u, Rep S w β x v ∧ Rep S w β y u := by
        intro x y hx
        have hargs : RepL S w β (args.toList.map ev) (args.toList.map ρ) := RepL.of_map _ fun x hx => hev x (by simpa using hx)
        rw [hx] at hargs
        have hl : args.toList.length = 2 := by simpa using hargs.1.symm
        match hq : args.toList, hl with
        | [a, b], _ => exact ⟨ρ a, ρ b, hargs.2 0 x (ρ a) rfl (by simp [hq]), hargs.2 1 y (ρ b) rfl (by simp [hq])⟩
      simp only
      cases b <;> try (simp only [builtinA]; exact trivial)
      case append =>
        match hA : args.toList.map ev with
        | [] => simp only [builtinA]; exact trivial
        | [_] => simp only [builtinA]; exact trivial
        | _ :: _ :: _ :: _ => simp only [builtinA]; exact trivial
        | [x, y] =>
          obtain ⟨v, u, hx, hy⟩ := two x y hA
          exact append_tr ats.toList hx hy (hag rfl)
      case copy =>
        match hA : args.toList.map ev with
        | [] => simp only [builtinA]; exact trivial
        | [_] => simp only [builtinA]; exact trivial
        | _ :: _ :: _ :: _ => simp only [builtinA]; exact trivial
        | [x, y] =>
          obtain ⟨v, u, hx, hy⟩ := two x y hA
          simp only [builtinA]
          exact copy_tr ats.toList hx hy (hag rfl)
      case len =>
        match hA : args.toList.map ev with
        | [] => simp only [builtinA]; exact trivial
        | _ :: _ :: _ => simp only [builtinA]; exact trivial
        | [x] =>
          match hT : ats.toList with
          | [] => simp only [builtinA]; exact trivial
          | _ :: _ :: _ => simp only [builtinA]; exact trivial
          | [t] =>
            simp only [builtinA]
            refine Tr.of_eq rfl ?_
            unfold lenB
            split <;> first | exact .inl rfl | exact .inr rfl
      case min =>
        match hA : args.toList.map ev with
        | [] => simp only [builtinA]; exact trivial
        | [_] => simp only [builtinA]; exact trivial
        | _ :: _ :: _ :: _ => simp only [builtinA]; exact trivial
        | [x, y] =>
          simp only [builtinA]
          refine Tr.of_eq rfl ?_
          unfold minA
          repeat' split
          all_goals first | exact .inl rfl | exact .inr rfl
      case max =>
        match hA : args.toList.map ev with
        | [] => simp only [builtinA]; exact trivial
        | [_] => simp only [builtinA]; exact trivial
        | _ :: _ :: _ :: _ => simp only [builtinA]; exact trivial
        | [x, y] =>
          simp only [builtinA]
          refine Tr.of_eq rfl ?_
          unfold maxA
          repeat' split
          all_goals first | exact .inl rfl | exact .inr rfl
theorem opA_nocall {ev : Operand → AV} (op : Op) (hc : ∀ c : Call, op ≠ .call c) {f : FuncId} {args : List AV} : opA C ev h1 s op ≠ .call f args := by
  intro h
  have o : ∀ x : Option AV, okO x ≠ .call f args := fun x hx => by cases x <;> simp [okO] at hx
  cases op <;> simp only [opA] at h
  case call c => exact hc c rfl
  case makeFunc fn first caps => cases fn <;> cases h
  all_goals first
    | (simp only [pickA, zeroCellsA, buildA, loadAtA, nilA, unA, nilEqA, binA, intOp, shOp, boolOp, strOp, convO, convA, makeA, sliceA, sliceV, fieldAddrA, fieldA, indexAddrA, indexAddrV, indexA, extractA] at h
       (repeat' split at h) <;> first | (cases h; done) | (exact o _ h))
    | ((repeat' split at h) <;> first | (cases h; done) | (exact o _ h))
    | (cases h; done)
theorem opA_call {ev : Operand → AV} {ρ : Operand → Value} (op : Op) (hev : ∀ x ∈ op.operands, Rep S w β (ev x) (ρ x)) {f : FuncId} {args : List AV} (hc : opA C ev h1 s op = .call f args) : readsO op = true ∧ ∃ vs, RepL S w β args vs := by
  by_cases h : ∃ c : Call, op = .call c
  · obtain ⟨c, rfl⟩ := h
    refine ⟨rfl, ?_⟩
    obtain ⟨callee, as_, ats⟩ := c
    simp only [Op.operands] at hev
    cases callee with
    | invoke r m => simp only [opA] at hc; cases hc
    | value g =>
      simp only [opA] at hc
      split at hc
      · rename_i g' first caps he
        injection hc with q1 q2
        subst q2
        have hf := hev g (by simp [Call.operands])
        rw [he] at hf
        generalize ρ g = v at hf
        cases hf with
        | clo _ _ _ vs us hl hr hl' hr' =>
        exact ⟨vs.toList ++ as_.toList.map ρ ++ us.toList, RepL.append (RepL.append ⟨by simpa using hl, fun i a u p q => hr i a u p (by simpa using q)⟩ (RepL.of_map _ fun x hx => hev x (by simp [Call.operands]; exact .inr (by simpa using hx)))) ⟨by simpa using hl', fun i a u p q => hr' i a u p (by simpa using q)⟩⟩
      · cases hc
    | builtin b =>
      simp only [opA] at hc
      exfalso
      unfold builtinA at hc
      simp only [lenB, minA, maxA, copyA, appendV] at hc
      (repeat' split at hc) <;> cases hc
  · exact absurd hc (opA_nocall op fun c hc => h ⟨c, hc⟩)
theorem nodeR_tr {R : FuncId → List AV → AV → Prop} {ev : Operand → AV} {ρ : Operand → Value} (op : Op) (hev : ∀ x ∈ op.operands, Rep S w β (ev x) (ρ x)) (hag : readsO op = true → Agree β h1 h2) {x : AV} {h1' : AH} (hn : NodeR C R h1 (opA C ev h1 s op) x h1') :
    ∃ h2', NodeR C R h2 (opA C ev h2 s op) x h2' ∧ HRel h1 h2 s (writesO op) β h1' h2' := by
  have T := opA_tr (C := C) (s := s) op hev hag
  cases hr : opA C ev h1 s op with
  | bad => rw [hr] at hn; exact hn.elim
  | ok y => rw [hr] at hn T; obtain ⟨rfl, rfl⟩ := hn; exact ⟨h2, by rw [show opA C ev h2 s op = .ok x from T]; exact ⟨rfl, rfl⟩, HRel.refl⟩
  | need p y => rw [hr] at hn T; obtain ⟨hp, rfl, rfl⟩ := hn; exact ⟨h2, by rw [show opA C ev h2 s op = .need p x from T]; exact ⟨hp, rfl, rfl⟩, HRel.refl⟩
  | idx rows i f => rw [hr] at hn T; obtain ⟨row, h0, h3, h4, rfl⟩ := hn; exact ⟨h2, by rw [show opA C ev h2 s op = .idx rows i f from T]; exact ⟨row, h0, h3, h4, rfl⟩, HRel.refl⟩
  | fx p y k => rw [hr] at hn T; obtain ⟨hp, rfl, rfl⟩ := hn; obtain ⟨h2', e1, e2⟩ := T; exact ⟨h2', by rw [e1]; exact ⟨hp, rfl, rfl⟩, e2⟩
  | idxfx rows i f => rw [hr] at hn T; obtain ⟨row, h0, h3, h4, rfl⟩ := hn; obtain ⟨f2, e1, e2⟩ := T; obtain ⟨h2', e3, e4⟩ := e2 row h1' h4; exact ⟨h2', by rw [e1]; exact ⟨row, h0, h3, e3, rfl⟩, e4⟩
  | str p rows => rw [hr] at hn T; obtain ⟨l, hp, h3, rfl, rfl⟩ := hn; exact ⟨h2, by rw [show opA C ev h2 s op = .str p rows from T]; exact ⟨l, hp, h3, rfl, rfl⟩, HRel.refl⟩
  | call f args =>
    rw [hr] at hn T
    obtain ⟨c1, c2, c3, c4, rfl⟩ := hn
    obtain ⟨hrd, vs, hargs⟩ := opA_call (C := C) (s := s) op hev hr
    obtain ⟨e1, e2⟩ := datL_congr hargs (hag hrd) c1
    refine ⟨h2, ?_, HRel.refl⟩
    rw [show opA C ev h2 s op = .call f args from T]
    exact ⟨by rw [e1]; exact c1, c2.imp id (fun h => ⟨h.1, e2.2 h.2⟩), c3, by rw [e1]; exact c4, rfl⟩
end
end Go.Proofs.YtpefnjbmbfdmmaaDoor
