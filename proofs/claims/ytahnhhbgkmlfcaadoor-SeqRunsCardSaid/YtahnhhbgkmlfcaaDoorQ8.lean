/- The second machine and the model: code, and whole functions. -/
import Derived.Test.YtahnhhbgkmlfcaaDoorQ7
namespace Go.Proofs.YtahnhhbgkmlfcaaDoor
open Go.RowKit

def codeOk (N : Nat) : Code → Bool
  | .region _ ops dr => slotsOk N ops.toList && (!dr || lateR ops.toList || drawOk ops.toList)
  | .seq a b => codeOk N a && codeOk N b
  | .cond _ a b => codeOk N a && codeOk N b
  | .block _ b => codeOk N b
  | .loop b => codeOk N b
  | _ => true

def toExit : AEx → Exit
  | .normal => .normal
  | .exit i => .exit i
  | .ret => .ret

def Aft (C : Ctx) (w0 : World) (S0 : Nat → Prop) (N : Nat) (Q : AEx → ASt → Prop) (e : Exit) (a : Act) (w : World) : Prop := ∃ e' st S β, e = toExit e' ∧ Q e' st ∧ SimD C w0 S0 N (· < st.n) st.t st.h a w S β

section
variable {C : Ctx} {N : Nat} {w0 : World} {S0 : Nat → Prop}

theorem mapL_get (σ : Nat → Nat) : ∀ (cs : List AV) (i : Nat), (mapL σ cs)[i]? = (cs[i]?).map (mapA σ)
  | [], i => by simp [mapL]
  | c :: cs, 0 => by simp [mapL]
  | c :: cs, i + 1 => by simp [mapL, mapL_get σ cs i]
theorem mapL_len (σ : Nat → Nat) : ∀ (cs : List AV), (mapL σ cs).length = cs.length
  | [] => rfl
  | c :: cs => by simp [mapL, mapL_len σ cs]
theorem belowL_get (n : Nat) : ∀ (cs : List AV), belowL n cs = true → ∀ (i : Nat) a, cs[i]? = some a → belowA n a = true
  | [], _, i, a, h => by simp at h
  | c :: cs, hb, i, a, hi => by
    simp only [belowL] at hb
    split at hb
    · rename_i hc
      cases i with
      | zero => simp at hi; subst hi; exact hc
      | succ i => exact belowL_get n cs hb i a (by simpa using hi)
    · cases hb
theorem sizeOf_get : ∀ (cs : List AV) (i : Nat) a, cs[i]? = some a → SizeOf.sizeOf a < SizeOf.sizeOf cs
  | [], i, a, h => by simp at h
  | c :: cs, 0, a, h => by simp at h; subst h; simp; omega
  | c :: cs, i + 1, a, h => by
    have := sizeOf_get cs i a (by simpa using h)
    simp; omega

theorem map_rep {S : Nat → Prop} {w : World} {β : Bt} {n : Nat} {σ : Nat → Nat} : ∀ (k : Nat) (a : AV) (v : Value), SizeOf.sizeOf a ≤ k → belowA n a = true → Rep S w β (mapA σ a) v → Rep S w (fun s => if s < n then β (σ s) else none) a v := by
  intro k
  induction k with
  | zero => intro a v hk; cases a <;> simp at hk
  | succ k ih =>
    intro a v hk hb hr
    have site : ∀ s l, Nat.blt s n = true → β (σ s) = some l → (fun s => if s < n then β (σ s) else none) s = some l := fun s l h1 h2 => by
      have : s < n := Nat.le_of_ble_eq_true h1
      simp only [this, if_true, h2]
    have list : ∀ (cs : List AV) (us : Array Value), SizeOf.sizeOf cs ≤ k → belowL n cs = true → (∀ (i : Nat) a u, (mapL σ cs)[i]? = some a → us[i]? = some u → Rep S w β a u) → ∀ (i : Nat) a u, cs[i]? = some a → us[i]? = some u → Rep S w (fun s => if s < n then β (σ s) else none) a u := by
      intro cs us hs hb h i a u p q
      have := sizeOf_get cs i a p
      exact ih a u (by omega) (belowL_get n cs hb i a p) (h i (mapA σ a) u (by rw [mapL_get, p]; rfl) q)
    cases a with
    | v x =>
      simp only [mapA] at hr
      cases hr
      exact .v _
    | agg cs =>
      simp only [mapA] at hr
      cases hr with
      | agg _ vs hl h1 h => exact .agg cs vs (by rw [← mapL_len σ cs]; exact hl) h1 (list cs vs (by simp at hk; omega) (by simpa [belowA] using hb) h)
    | tup cs =>
      simp only [mapA] at hr
      cases hr with
      | tup _ vs hl h => exact .tup cs vs (by rw [← mapL_len σ cs]; exact hl) (list cs vs (by simp at hk; omega) (by simpa [belowA] using hb) h)
    | sl rs rows clip =>
      simp only [mapA] at hr
      cases hr with
      | sl _ _ _ A c b o u hc hm hcl hrs hA hw h1 hr => exact .sl rs rows clip A c b o u hc hm hcl hrs hA hw h1 hr
    | dp rs col row =>
      simp only [mapA] at hr
      cases hr with
      | dp _ _ _ b o u hrs hb hw h1 hr => exact .dp rs col row b o u hrs hb hw h1 hr
    | ptr s c =>
      simp only [mapA] at hr
      cases hr with
      | ptr _ _ l hl => exact .ptr s c l (site s l hb hl)
    | ptr2 s r c =>
      simp only [mapA] at hr
      cases hr with
      | ptr2 _ _ _ l hl => exact .ptr2 s r c l (site s l hb hl)
    | osl s lo len clip =>
      simp only [mapA] at hr
      cases hr with
      | osl _ _ _ _ l A c hl hc hm hcl hA cs e fr hb' room => exact .osl s lo len clip l A c (site s l hb hl) hc hm hcl hA cs e fr hb' room
    | clo f a b =>
      simp only [mapA] at hr
      simp only [belowA] at hb
      split at hb
      · rename_i ha
        cases hr with
        | clo _ _ _ vs us hl h hl' h' => exact .clo f a b vs us (by rw [← mapL_len σ a]; exact hl) (list a vs (by simp at hk; omega) ha h) (by rw [← mapL_len σ b]; exact hl') (list b us (by simp at hk; omega) hb h')
      · cases hb
    | opt g x =>
      simp only [mapA] at hr
      cases hr with
      | optT _ _ _ hg h => exact .optT g x v hg (ih x v (by simp at hk; omega) (by simpa [belowA] using hb) h)
      | optF _ _ hg => exact .optF g x hg
    | any => exact .any v

theorem weak_sound {st st' : ASt} {σ : Nat → Nat} (W : Weak st st' σ) {a : Act} {w : World} {S : Nat → Prop} {β : Bt} (M : SimD C w0 S0 N (· < st.n) st.t st.h a w S β) : SimD C w0 S0 N (· < st'.n) st'.t st'.h a w S (fun s => if s < st'.n then β (σ s) else none) := by
  refine ⟨fun i => ?_, ⟨fun s blk hs => ?_, fun s s' l l' h1 h2 e1 e2 hb => ?_, M.H.lt, M.H.big⟩, M.B, fun x l hx => ?_, M.df, M.sz, M.G, M.nw⟩
  · rcases W.t i with h | ⟨h, hb⟩
    · rw [h]; exact .any _
    · have := M.T i
      rw [h] at this
      exact map_rep _ _ _ (Nat.le_refl _) hb this
  · obtain ⟨h1, h2, h3⟩ := W.h s blk hs
    obtain ⟨l, cs, e, fr, k1, k2, k3, k4, k5, k6⟩ := M.H.own _ _ h2
    refine ⟨l, cs, e, fr, by simp only [h1, if_true]; exact k1, k2, k3, k4, k5, ?_⟩
    cases blk with
    | box cells =>
      intro j a hj
      obtain ⟨u, q1, q2, q3⟩ := k6 j (mapA σ a) (by rw [mapL_get, hj]; rfl)
      exact ⟨u, q1, q2, map_rep _ _ _ (Nat.le_refl _) (belowL_get _ cells (by simpa [belowB] using h3) j a hj) q3⟩
    | arr rows rs => exact k6
  · have get : ∀ s l, st'.h s ≠ none → (if s < st'.n then β (σ s) else none) = some l → st.h (σ s) ≠ none ∧ β (σ s) = some l := by
      intro s l hs hl
      cases hq : st'.h s with
      | none => exact absurd hq hs
      | some blk =>
        obtain ⟨h1, h2, h3⟩ := W.h s blk hq
        rw [if_pos h1] at hl
        exact ⟨by rw [h2]; simp, hl⟩
    obtain ⟨a1, a2⟩ := get s l h1 e1
    obtain ⟨b1, b2⟩ := get s' l' h2 e2
    exact W.inj s s' h1 h2 (M.H.inj _ _ _ _ a1 b1 a2 b2 hb)
  · show x < st'.n
    by_cases h : x < st'.n
    · exact h
    · simp only [h, if_false] at hx; cases hx

theorem late_sound (hC : CtxOk C) {ops : Array Oper} (hb : slotsOk N ops.toList = true) {K : ASt → Prop} {Q : Exit → Act → World → Prop} {n : Nat} (hQ : ∀ st a' w' S' β', K st → SimD C w0 S0 N (· < st.n) st.t st.h a' w' S' β' → Q .normal a' w') :
    ∀ (fuel : Nat) (listed : Array Bool) (t : Nat → AV) (h : AH) (a : Act) (w : World) (S : Nat → Prop) (β : Bt), listed.size = ops.size → anyA C (DCall C) ops K fuel listed ⟨t, h, n⟩ → SimD C w0 S0 N (fun s => s < n ∨ ∃ i, listed.getD i false = true ∧ s = n + i) t h a w S β → wpAny C.P .any ops Q fuel listed a w
  | 0, listed, t, h, a, w, S, β, hsz, hr, M => by
    refine ⟨hr.1, hQ _ a w S β hr.2 ⟨M.T, M.H, M.B, fun y l hy => ?_, M.df, M.sz, M.G, M.nw⟩⟩
    show y < n + ops.size
    rcases M.dom y l hy with h | ⟨i, hi, rfl⟩
    · omega
    · rcases Nat.lt_or_ge i listed.size with k | k
      · omega
      · rw [Array.getD_eq_getD_getElem?, Array.getElem?_eq_none k] at hi; cases hi
  | fuel + 1, listed, t, h, a, w, S, β, hsz, hr, M => by
    refine ⟨fun hn => absurd hn hr.1, fun i hi => ?_⟩
    have hall : ∀ (l : List Nat), forL (aOne C (DCall C) ops (anyA C (DCall C) ops K fuel) listed t h n) l → ∀ i ∈ l, aOne C (DCall C) ops (anyA C (DCall C) ops K fuel) listed t h n i := by
      intro l
      induction l with
      | nil => intro _ i hi; cases hi
      | cons x l ih =>
        intro hl i hi
        rcases List.mem_cons.1 hi with rfl | hi
        · exact hl.1
        · exact ih hl.2 i hi
    have h1 := hall _ hr.2 i hi
    obtain ⟨k1, o, ho, _⟩ := mem_ready.1 hi
    have hil : i < listed.size := by have := (Array.getElem?_eq_some_iff.1 ho).1; omega
    have hni : listed.getD i false = false := by
      rw [Array.getD_eq_getD_getElem?, Array.getElem?_eq_getElem hil] at k1 ⊢
      exact k1
    have hoi : ops.toList[i]? = some o := by rw [Array.getElem?_toList]; exact ho
    have hmem : o ∈ ops.toList := List.mem_of_getElem? hoi
    have hs : β (n + i) = none := by
      cases hq : β (n + i) with
      | none => rfl
      | some l =>
        rcases M.dom _ _ hq with h | ⟨j, hj, he⟩
        · omega
        · have : j = i := by omega
          subst this; rw [hni] at hj; cases hj
    simp only [aOne, ho] at h1
    obtain ⟨x, h', e1, e2⟩ := step_inv h1
    unfold wpOp
    simp only [ho]
    refine step_sound hC M hs rfl e1 (slots_lt hb hmem) (fun i pol d _ hd => guard_lt hb i d hd) fun a' w' S' β' M' => ?_
    refine late_sound hC hb hQ fuel _ _ h' a' w' S' β' (by simp [hsz]) e2 ⟨M'.T, M'.H, M'.B, fun y l hy => ?_, M'.df, M'.sz, M'.G, M'.nw⟩
    have hset : ∀ j, (listed.setIfInBounds i true).getD j false = true ↔ listed.getD j false = true ∨ j = i := fun j => by
      by_cases hj : j = i
      · subst hj
        rw [Array.getD_eq_getD_getElem?, Array.getElem?_setIfInBounds_self_of_lt hil]; simp
      · rw [Array.getD_eq_getD_getElem?, Array.getElem?_setIfInBounds_ne (Ne.symm hj), ← Array.getD_eq_getD_getElem?]; simp [hj]
    rcases M'.dom y l hy with (h | ⟨j, hj, he⟩) | h
    · exact .inl h
    · exact .inr ⟨j, (hset j).2 (.inl hj), he⟩
    · exact .inr ⟨i, (hset i).2 (.inr rfl), h⟩

theorem code_sound (hC : CtxOk C) : ∀ (c : Code), codeOk N c = true → ∀ (st : ASt) (Q : AEx → ASt → Prop), codeA C (DCall C) c st Q → ∀ (a : Act) (w : World) (S : Nat → Prop) (β : Bt), SimD C w0 S0 N (· < st.n) st.t st.h a w S β →
    c.wp C.P (Aft C w0 S0 N Q) a w := by
  intro c
  induction c with
  | skip => intro _ st Q hq a w S β M; exact wp_skip ⟨.normal, st, S, β, rfl, hq, M⟩
  | label l => intro _ st Q hq a w S β M; exact wp_label ⟨.normal, st, S, β, rfl, hq, M⟩
  | exit id => intro _ st Q hq a w S β M; exact wp_exit ⟨.exit id, st, S, β, rfl, hq, M⟩
  | ret => intro _ st Q hq a w S β M; exact wp_ret ⟨.ret, st, S, β, rfl, hq, M⟩
  | region id ops dr =>
    intro hk st Q hq a w S β M
    simp only [codeOk, Bool.and_eq_true] at hk
    obtain ⟨t, h, n⟩ := st
    simp only [codeA] at hq
    cases dr with
    | false =>
      simp only [Bool.false_and] at hq
      refine wp_region ?_
      have := seq_sound (Q := Aft C w0 S0 N Q) (K := Q .normal) hC (ops := ops) rfl hk.1 ops.toList 0 t h a w S β rfl hq M (fun st' a' w' S' β' hk' M' => ⟨.normal, st', S', β', rfl, hk', M'⟩)
      rw [show List.range' 0 ops.toList.length = List.range ops.size by rw [List.range_eq_range', Array.length_toList]] at this
      exact this
    | true =>
      refine wp_region_any hC.mixed ?_
      simp only [Bool.true_and] at hq
      cases hl : lateR ops.toList with
      | true =>
        rw [hl] at hq
        rcases hq with hq | ⟨_, hq⟩
        rotate_left
        · exact draw2_sound hC hk.1 hq M (fun st' a' w' S' β' hk' M' => ⟨.normal, st', S', β', rfl, hk', M'⟩)
        have M' := M.drawn (w.drawn + 1)
        refine late_sound hC hk.1 (fun st' a' w' S' β' hk' M' => ⟨.normal, st', S', β', rfl, hk', M'⟩) ops.size _ t h a _ S β (by simp) hq ⟨M'.T, M'.H, M'.B, fun y l hy => .inl (M'.dom y l hy), M'.df, M'.sz, M'.G, M'.nw⟩
      | false =>
      rw [hl] at hq
      have hd : drawOk ops.toList = true := by simpa [hl] using hk.2
      exact draw_sound hC hk.1 hd hq M (fun st' a' w' S' β' hk' M' => ⟨.normal, st', S', β', rfl, hk', M'⟩)
  | seq x y ihx ihy =>
    intro hk st Q hq a w S β M
    simp only [codeOk, Bool.and_eq_true] at hk
    simp only [codeA] at hq
    refine wp_seq (wp_mono (ihx hk.1 st _ hq a w S β M) ?_)
    rintro e a' w' ⟨e', st', S', β', rfl, h1, h2⟩
    cases e' with
    | normal => exact ihy hk.2 st' Q h1 a' w' S' β' h2
    | exit i => exact ⟨.exit i, st', S', β', rfl, h1, h2⟩
    | ret => exact ⟨.ret, st', S', β', rfl, h1, h2⟩
  | cond c x y ihx ihy =>
    intro hk st Q hq a w S β M
    simp only [codeOk, Bool.and_eq_true] at hk
    simp only [codeA] at hq
    split at hq
    · rename_i b hb
      obtain ⟨h1, h2⟩ := hq
      have hv := ev_rep M c
      rw [hb] at hv
      refine wp_cond_split (rep_v hv) (fun ht => ihx hk.1 st Q (h1 ht) a w S β M) (fun hf => ihy hk.2 st Q (h2 hf) a w S β M)
    · exact hq.elim
  | block id b ih =>
    intro hk st Q hq a w S β M
    simp only [codeOk] at hk
    simp only [codeA] at hq
    refine wp_block (wp_mono (ih hk st _ hq a w S β M) ?_)
    rintro e a' w' ⟨e', st', S', β', rfl, h1, h2⟩
    cases e' with
    | normal => exact ⟨.normal, st', S', β', rfl, h1, h2⟩
    | ret => exact ⟨.ret, st', S', β', rfl, h1, h2⟩
    | exit i =>
      show Exit.inBlock id _ (.exit i) a' w'
      simp only at h1
      simp only [Exit.inBlock]
      by_cases hi : i = id
      · subst hi
        rw [if_pos rfl]
        rw [show Nat.beq i i = true from Nat.beq_refl i] at h1
        exact ⟨.normal, st', S', β', rfl, h1, h2⟩
      · rw [if_neg hi]
        have : Nat.beq i id = false := by rw [← Bool.not_eq_true]; exact fun e => hi (Nat.eq_of_beq_eq_true e)
        rw [this] at h1
        exact ⟨.exit i, st', S', β', rfl, h1, h2⟩
  | loop b ih =>
    intro hk st Q hq a w S β M
    simp only [codeOk] at hk
    simp only [codeA] at hq
    obtain ⟨I, μ, st0, σ, hw, h0, round⟩ := hq
    -- by the measure
    have key : ∀ (m : Nat) (st : ASt) (a : Act) (w : World) (S : Nat → Prop) (β : Bt), μ st = m → I st → SimD C w0 S0 N (· < st.n) st.t st.h a w S β → ∀ (fb : Frame) (k : List Item) (cs : List Frame),
        ∃ e a' w', Aft C w0 S0 N Q e a' w' ∧ Arrives C.P (lone (fb.at a (.code b :: .inLoop b :: k)) cs w) fb k cs e a' w' := by
      intro m
      induction m using Nat.strongRecOn with
      | _ m ihm =>
        intro st a w S β hm hI M fb k cs
        obtain ⟨e, a₁, w₁, hq, harr⟩ := ih hk st _ (round st hI) a w S β M fb (.inLoop b :: k) cs
        obtain ⟨e', st1, S1, β1, rfl, hq1, M1⟩ := hq
        cases e' with
        | normal =>
          obtain ⟨stw, σ', W, hIw, hlt⟩ := hq1
          obtain ⟨e₂, a₂, w₂, hq₂, harr₂⟩ := ihm (μ stw) (hm ▸ hlt) stw a₁ w₁ S1 _ rfl hIw (weak_sound W M1) fb k cs
          exact ⟨e₂, a₂, w₂, hq₂, .of_steps (Steps.trans harr (.one step_inLoop)) harr₂⟩
        | exit id => exact ⟨_, a₁, w₁, ⟨.exit id, st1, S1, β1, rfl, hq1, M1⟩, .pass (x := .inLoop b) rfl (fun _ _ => .inl (by simp [toExit])) harr⟩
        | ret => exact ⟨_, a₁, w₁, ⟨.ret, st1, S1, β1, rfl, hq1, M1⟩, .pass (x := .inLoop b) rfl (fun _ _ => .inl (by simp [toExit])) harr⟩
    intro fb k cs
    obtain ⟨e, a', w', hq, harr⟩ := key _ st0 a w S _ rfl h0 (weak_sound hw M) fb k cs
    exact ⟨e, a', w', hq, .of_steps (.one step_loop) harr⟩
  | _ => intro _ st Q hq; exact hq.elim

/-! ### whole functions -/
/-- What a result is worth, said of known values. -/
def Sub (a b : AV) : Prop := ∀ (S : Nat → Prop) (w : World) (v : Value), Rep S w noB a v → Rep S w noB b v
theorem Sub.refl (a : AV) : Sub a a := fun _ _ _ h => h

def RetA (C : Ctx) (fn : Func) (r : AV) (st : ASt) : Prop :=
  ∃ rs, resA C st fn.results.toList = some rs ∧ lenOkA st.h (retA rs) ∧ closedA (datA st.h (retA rs)) = true ∧ Sub (datA st.h (retA rs)) r

def Fin (C : Ctx) (fn : Func) (r : AV) : AEx → ASt → Prop
  | .exit _, _ => False
  | _, st => RetA C fn r st

def resF (tmps : Array Value) : ResultVar → Sem Value
  | .tmp t => pure (tmps.getD t undef)
  | .cell a t => do loadVar t (← asAddr (tmps.getD a undef))
theorem results_eq (fn : Func) (tmps : Array Value) : results fn tmps = (do let vs ← fn.results.mapM (resF tmps); pure (if h : vs.size = 1 then vs[0] else .tuple vs)) := rfl
theorem run_results {P : Program} {w : World} {tmps : Array Value} (l : List ResultVar) (vs : List Value) (h : (l.mapM (resF tmps)).run P w = .ok vs w) (fn : Func) (hl : fn.results.toList = l) :
    (results fn tmps).run P w = .ok (if h : vs.toArray.size = 1 then vs.toArray[0] else .tuple vs.toArray) w := by
  rw [results_eq, Array.mapM_eq_mapM_toList, hl]
  simp only [Sem.run_bind, map_eq_pure_bind, Sem.run_pure]
  rw [h]
  simp only [Result.andThen_ok, Sem.run_pure]

theorem res_ok (hC : CtxOk C) {t : Nat → AV} {h : AH} {n : Nat} {a : Act} {w : World} {D : Nat → Prop} {S : Nat → Prop} {β : Bt} (M : SimD C w0 S0 N D t h a w S β) : ∀ (l : List ResultVar) (rs : List AV), resA C ⟨t, h, n⟩ l = some rs →
    ∃ vs, (l.mapM (resF a.tmps)).run C.P w = .ok vs w ∧ RepL S w β rs vs
  | [], rs, hr => by simp only [resA] at hr; injection hr with hr; subst hr; exact ⟨[], rfl, RepL.nil _ _ _⟩
  | .tmp i :: l, rs, hr => by
    simp only [resA] at hr
    split at hr
    · rename_i r hl
      injection hr with hr; subst hr
      obtain ⟨vs, h1, h2⟩ := res_ok hC M l r hl
      exact ⟨a.tmps.getD i undef :: vs, by simp only [List.mapM_cons, Sem.run_bind, resF, Sem.run_pure, Result.andThen_ok, h1], RepL.cons (M.T i) h2⟩
    · cases hr
  | .cell c ty :: l, rs, hr => by
    simp only [resA] at hr
    split at hr
    · rename_i b col r hp hl
      split at hr
      · rename_i cells hb
        split at hr
        · rename_i x hx
          injection hr with hr; subst hr
          obtain ⟨vs, h1, h2⟩ := res_ok hC M l r hl
          obtain ⟨lo, cs, e, fr, k1, k2, k3⟩ := own_box M.H hb
          have hT := M.T c
          rw [hp] at hT
          generalize hv : a.tmps.getD c undef = v at hT
          cases hT with
          | ptr _ _ l' hl' =>
          obtain rfl : l' = lo := by rw [hl'] at k1; exact Option.some.inj k1
          obtain ⟨u, p1, p2⟩ := load_row hC k3 rfl hx
          exact ⟨u :: vs, by simp only [List.mapM_cons, Sem.run_bind, resF, hv, asAddr, Sem.run_pure, Result.andThen_ok, p1, h1], RepL.cons p2 h2⟩
        · cases hr
      · cases hr
    · cases hr

theorem argsT_get : ∀ (args : List AV) (i : Nat), argsT args i = (args[i]?).getD .any
  | [], i => by simp [argsT]
  | x :: xs, 0 => by simp [argsT]
  | x :: xs, i + 1 => by simp [argsT, argsT_get xs i]

theorem DCall.intro (hC : CtxOk C) {f : FuncId} {fn : Func} {body : Code} {args : List AV} {r : AV} (hf : C.P.funcs[f]? = some fn) (hb : fn.body = some body) (hnm : (fn.name == "runtime.NumGoroutine") = false)
    (hN : codeOk fn.ntmps body = true) (hlen : Nat.ble args.length fn.ntmps = true) (hw : codeA C (DCall C) body ⟨argsT args, fun _ => none, 0⟩ (Fin C fn r)) (hdf : C.df = [] := by rfl) : DCall C f args r := by
  refine ⟨⟨fn, hf, by rw [hb]; rfl, hnm⟩, fun S w vs hS hG hargs => ?_⟩
  have hlen := Nat.le_of_ble_eq_true hlen
  refine calls_of_wp hf hb ?_
  have M0 : SimD C w S fn.ntmps (· < (0 : Nat)) (argsT args) (fun _ => none) { tmps := vs.toArray ++ Array.replicate (fn.ntmps - vs.toArray.size) undef, defers := [] } w S noB := by
    have hl : vs.length = args.length := hargs.1.symm
    refine ⟨fun i => ?_, ⟨fun s blk h => (by cases h), fun s s' l l' h => absurd rfl h, hS, Nat.le_refl _⟩, Below.refl _ _, fun x l h => (by cases h), hdf.symm, by simp; omega, hG, fun _ h => .inl h⟩
    rw [argsT_get]
    cases ha : args[i]? with
    | none => exact .any _
    | some x =>
      have hi : i < vs.length := by rw [hl]; exact (List.getElem?_eq_some_iff.1 ha).1
      have hv : vs[i]? = some vs[i] := List.getElem?_eq_getElem hi
      have : (vs.toArray ++ Array.replicate (fn.ntmps - vs.toArray.size) undef).getD i undef = vs[i] := by
        rw [Array.getD_eq_getD_getElem?, Array.getElem?_append_left (by simpa using hi), List.getElem?_toArray, hv]; rfl
      rw [this]
      exact hargs.2 i x _ ha hv
  refine wp_mono (code_sound hC body hN ⟨argsT args, fun _ => none, 0⟩ _ hw _ w S noB M0) ?_
  rintro e a' w' ⟨e', st, S', β', rfl, hfin, M⟩
  have fin : RetA C fn r st → a'.defers = [] ∧ ∃ v, (results fn a'.tmps).run C.P w' = .ok v w' ∧ ∃ v', Ending.returned v = .returned v' ∧ Below w.heap.size w w' ∧ Rep (fun b => S b ∨ (w.heap.size ≤ b ∧ b < w'.heap.size)) w' noB r v' := by
    rintro ⟨rs, h1, h2, h3, h4⟩
    obtain ⟨t, h, n⟩ := st
    obtain ⟨us, g1, g2⟩ := res_ok hC M _ rs h1
    refine ⟨M.df.trans hdf, _, run_results _ us g1 fn rfl, _, rfl, M.B, ?_⟩
    have hret : Rep S' w' β' (retA rs) (if h : us.toArray.size = 1 then us.toArray[0] else .tuple us.toArray) := by
      match rs, us, g2 with
      | [], us, g2 =>
        have : us = [] := List.eq_nil_of_length_eq_zero g2.1.symm
        subst this
        exact .tup [] #[] rfl fun i a u p => by simp at p
      | [x], us, g2 =>
        match us, g2 with
        | [u], g2 => simpa [retA] using g2.2 0 x u rfl rfl
        | [], g2 => exact absurd g2.1 (by simp)
        | _ :: _ :: _, g2 => exact absurd g2.1 (by simp)
      | x :: y :: zs, us, g2 =>
        have hne : ¬ us.toArray.size = 1 := by
          have := g2.1
          simp at this ⊢
          omega
        rw [dif_neg hne]
        exact .tup _ _ (by simpa using g2.1) fun i a u p q => g2.2 i a u p (by simpa using q)
    have hd := datA_rep M.H hret h2
    refine h4 _ _ _ ?_
    exact (closed_rep hd h3 noB).mono (fun b hb => hb.elim (fun hb => (M.nw b hb).imp id fun h => ⟨h, M.H.lt b hb⟩) .inr) (Evo.refl _ _) (BtLe.refl _)
  cases e' with
  | normal => exact fin hfin
  | ret => exact fin hfin
  | exit i => exact hfin.elim
end
end Go.Proofs.YtahnhhbgkmlfcaaDoor

namespace Go.Proofs.YtahnhhbgkmlfcaaDoor
open Go.RowKit

inductive TT where
  | leaf (k : Nat) (i : TI)
  | node (k : Nat) (l r : TT)
def TT.find : TT → Nat → Option TI
  | .leaf k i, t => match Nat.beq t k with | true => some i | false => none
  | .node k l r, t => match Nat.blt t k with | true => l.find t | false => r.find t
def AllTy (P : Program) : TT → Prop
  | .leaf k i => TyOk P k i
  | .node _ l r => AllTy P l ∧ AllTy P r
theorem TT.find_ok {P : Program} : ∀ (T : TT), AllTy P T → ∀ t i, T.find t = some i → TyOk P t i
  | .leaf k i, h, t, i', hf => by
    simp only [TT.find] at hf
    split at hf
    · rename_i hb
      injection hf with hf; subst hf
      rw [Nat.eq_of_beq_eq_true hb]; exact h
    · cases hf
  | .node k l r, h, t, i, hf => by
    simp only [TT.find] at hf
    split at hf
    · exact TT.find_ok l h.1 t i hf
    · exact TT.find_ok r h.2 t i hf

/-- What the kernel reckons of a type. -/
def chkTy (P : Program) (inf : TypeInfo) (z : Value) (i : TI) : Bool :=
  inf.size == i.sz && inf.bytes == i.bytes && z.cells.size == i.sz && Nat.blt 0 i.sz && Nat.ble i.bytes 1000 && oneC z.cells.toList
theorem chkTy_ok {P : Program} {t : TypeId} {i : TI} {inf : TypeInfo} {z : Value} (h1 : P.info? t = some inf) (h2 : inf.zero = some z) (h3 : i.zero = absV z) (hc : chkTy P inf z i = true) {d : TypeDesc} (hd : P.underlying t = some d) (hrow : d.isRow = i.ag)
    (hk : match i.kd with
    | .bool => d = .bool
    | .int k => d = .int k
    | .string => d = .string
    | .slice e => d = .slice e
    | .array n e => d = .array n e
    | .struct fs => ∃ fields, d = .struct fields ∧ fields.toList.map (fun f => (f.offset, f.type)) = fs ∧ (fields.toList.all fun f => match P.info? f.type with | some i => !(i.size == 0) | none => false) = true
    | _ => True) (he : i.eq ≠ [] → EqOk P t i.eq) : TyOk P t i := by
  simp only [chkTy, Bool.and_eq_true, beq_iff_eq] at hc
  obtain ⟨⟨⟨⟨⟨c1, c2⟩, c3⟩, c4⟩, c5⟩, c6⟩ := hc
  refine ⟨⟨inf, z, h1, c1, c2, h2, h3, c3, Nat.le_of_ble_eq_true c4, Nat.le_of_ble_eq_true c5⟩, fun inf' z' e1 e2 k u hu => ?_, ⟨d, hd, hrow⟩, ?_, he⟩
  · rw [h1] at e1; injection e1 with e1; subst e1
    rw [h2] at e2; injection e2 with e2; subst e2
    exact oneC_spec _ c6 k u (by simpa using hu)
  · cases hkd : i.kd <;> rw [hkd] at hk <;> simp only at hk ⊢ <;> first | (rw [hd, hk]; done) | trivial | skip
    obtain ⟨fields, rfl, g1, g2⟩ := hk
    refine ⟨fields, hd, g1, fun f hf => ?_⟩
    have := List.all_eq_true.1 g2 f hf
    split at this
    · rename_i inf' hi
      exact ⟨inf', hi, by simpa using this⟩
    · cases this
end Go.Proofs.YtahnhhbgkmlfcaaDoor

namespace Go.Proofs.YtahnhhbgkmlfcaaDoor
open Go.RowKit

theorem eqVL_len : ∀ (ks : List CK) (xs ys : List Value) (b : Bool), eqVL ks xs ys = some b → xs.length = ks.length ∧ ys.length = ks.length
  | [], [], [], _, _ => ⟨rfl, rfl⟩
  | k :: ks, x :: xs, y :: ys, b, h => by
    simp only [eqVL] at h
    split at h
    · rename_i a c h1 h2
      obtain ⟨e1, e2⟩ := eqVL_len ks xs ys c h2
      exact ⟨by simp [e1], by simp [e2]⟩
    · cases h
  | [], [], _ :: _, _, h => by simp [eqVL] at h
  | [], _ :: _, _, _, h => by simp [eqVL] at h
  | _ :: _, [], _, _, h => by simp [eqVL] at h
  | _ :: _, _ :: _, [], _, h => by simp [eqVL] at h
theorem eqVL_append : ∀ (ks js : List CK) (xs ys : List Value) (b : Bool), eqVL (ks ++ js) xs ys = some b →
    ∃ b1 b2, eqVL ks (xs.take ks.length) (ys.take ks.length) = some b1 ∧ eqVL js (xs.drop ks.length) (ys.drop ks.length) = some b2 ∧ b = (b1 && b2)
  | [], js, xs, ys, b, h => ⟨true, b, by simp [eqVL], by simpa using h, by simp⟩
  | k :: ks, js, x :: xs, y :: ys, b, h => by
    simp only [List.cons_append, eqVL] at h
    split at h
    · rename_i a c h1 h2
      injection h with h; subst h
      obtain ⟨b1, b2, e1, e2, e3⟩ := eqVL_append ks js xs ys c h2
      refine ⟨a && b1, b2, ?_, by simpa using e2, by rw [e3, Bool.and_assoc]⟩
      simp only [List.length_cons, List.take_succ_cons, eqVL, h1, e1]
    · cases h
  | _ :: _, _, [], _, _, h => by simp [eqVL] at h
  | _ :: _, _, _ :: _, [], _, h => by simp [eqVL] at h

/-- The cells of a struct's fields, at running places. -/
def fieldsK (P : Program) (K : TypeId → Option (List CK)) : Nat → List Field → Option (List CK)
  | _, [] => some []
  | off, f :: fs => match f.name == "_", f.offset == off, P.info? f.type, K f.type with
    | false, true, some inf, some ks => match inf.size == ks.length, fieldsK P K (off + ks.length) fs with
      | true, some js => some (ks ++ js)
      | _, _ => none
    | _, _, _, _ => none
def cellK (P : Program) : Nat → TypeId → Option (List CK)
  | 0, _ => none
  | d + 1, t => match P.underlying t with
    | some .bool => some [.b]
    | some (.int _) => some [.i]
    | some .string => some [.s]
    | some (.struct fs) => match P.stoodInHeld t with | true => none | false => fieldsK P (cellK P d) 0 fs.toList
    | some (.array n e) => match P.info? e, cellK P d e with
      | some inf, some ks => (match inf.size == ks.length with | true => some (List.flatten (List.replicate n ks)) | false => none)
      | _, _ => none
    | _ => none

/-- Two parts of rows are found equal as their cells are. -/
def PartEq (P : Program) (D : Nat) (t : TypeId) (ks : List CK) : Prop := ∀ (xs ys : Array Value) (off : Nat) (b : Bool) (w : World),
  eqVL ks ((xs.toList.drop off).take ks.length) ((ys.toList.drop off).take ks.length) = some b →
  ∃ u v, (part t xs off).run P w = .ok u w ∧ (part t ys off).run P w = .ok v w ∧ (Op.equalIn D t u v).run P w = .ok b w

theorem eqFields {P : Program} {D : Nat} {K : TypeId → Option (List CK)} (hK : ∀ t ks inf, K t = some ks → P.info? t = some inf → inf.size = ks.length → PartEq P D t ks) :
    ∀ (fs : List Field) (off : Nat) (js : List CK) (xs ys : Array Value) (b : Bool) (w : World), fieldsK P K off fs = some js → eqVL js (xs.toList.drop off) (ys.toList.drop off) = some b →
    (forIn fs ((none, ()) : Option Bool × PUnit) (fun f r => do
        if f.name ≠ "_" then
          if !(← Op.equalIn D f.type (← part f.type xs f.offset) (← part f.type ys f.offset)) then pure (ForInStep.done (some false, ())) else pure (ForInStep.yield (none, ()))
        else pure (ForInStep.yield (none, ())) : Field → Option Bool × PUnit → Sem (ForInStep (Option Bool × PUnit)))).run P w = .ok (match b with | true => (none, ()) | false => (some false, ())) w
  | [], off, js, xs, ys, b, w, hf, h => by
    simp only [fieldsK, Option.some.injEq] at hf; subst hf
    have hb : b = true := by
      cases hx : xs.toList.drop off <;> cases hy : ys.toList.drop off <;> rw [hx, hy] at h <;> simp [eqVL] at h <;> first | exact h | exact h.symm
    subst hb; rfl
  | f :: fs, off, js, xs, ys, b, w, hf, h => by
    simp only [fieldsK] at hf
    split at hf
    · rename_i inf ks h1 h2 h3 h4
      split at hf
      · rename_i js' h5 h6
        injection hf with hf; subst hf
        have e2 : f.offset = off := by simpa using h2
        have e5 : inf.size = ks.length := by simpa using h5
        have e1 : f.name ≠ "_" := by simpa using h1
        obtain ⟨b1, b2, g1, g2, g3⟩ := eqVL_append ks js' _ _ b h
        obtain ⟨u, v, p1, p2, p3⟩ := hK f.type ks inf h4 h3 e5 xs ys off b1 w g1
        have IH := eqFields hK fs (off + ks.length) js' xs ys b2 w h6 (by simpa [List.drop_drop] using g2)
        simp only [List.forIn_cons, Sem.run_bind, e1, e2, ne_eq, not_false_eq_true, if_true, p1, p2, p3, Result.andThen_ok]
        cases b1 with
        | false => subst g3; simp
        | true =>
          simp only [Bool.not_true, Bool.false_eq_true, if_false, Sem.run_pure, Result.andThen_ok]
          rw [g3, Bool.true_and]
          simpa only [ne_eq] using IH
      · cases hf
    · cases hf

theorem eqRow {P : Program} {D : Nat} {t : TypeId} {K : TypeId → Option (List CK)} (hK : ∀ t ks inf, K t = some ks → P.info? t = some inf → inf.size = ks.length → PartEq P D t ks)
    {fs : Array Field} (hu : P.underlying t = some (.struct fs)) (hst : P.stoodInHeld t = false) {ks : List CK} (hf : fieldsK P K 0 fs.toList = some ks) {xs ys : Array Value} {b : Bool} (w : World) (h : eqVL ks xs.toList ys.toList = some b) :
    (Op.equalIn (D + 1) t (.agg xs) (.agg ys)).run P w = .ok b w := by
  rw [Op.equalIn]
  have := eqFields hK fs.toList 0 ks xs ys b w hf (by simpa using h)
  simp only [Sem.run_bind, run_underlying hu, Result.andThen_ok, show Sem.run P program w = .ok P w from rfl, hst, Bool.false_eq_true, if_false]
  rw [← Array.forIn_toList]
  simp only [ne_eq, Sem.run_bind] at this ⊢
  rw [this]
  cases b <;> rfl

theorem eqElems {P : Program} {D : Nat} {e : TypeId} {ks : List CK} {inf : TypeInfo} (hi : P.info? e = some inf) (hsz : inf.size = ks.length) (hK : PartEq P D e ks) :
    ∀ (m s : Nat) (xs ys : Array Value) (b : Bool) (w : World), eqVL (List.flatten (List.replicate m ks)) (xs.toList.drop (s * ks.length)) (ys.toList.drop (s * ks.length)) = some b →
    (forIn (List.range' s m) ((none, ()) : Option Bool × PUnit) (fun i r => do
        if !(← Op.equalIn D e (← part e xs (i * ks.length)) (← part e ys (i * ks.length))) then pure (ForInStep.done (some false, ())) else pure (ForInStep.yield (none, ())) : Nat → Option Bool × PUnit → Sem (ForInStep (Option Bool × PUnit)))).run P w = .ok (match b with | true => (none, ()) | false => (some false, ())) w
  | 0, s, xs, ys, b, w, h => by
    have hb : b = true := by
      simp only [List.replicate_zero, List.flatten_nil] at h
      cases hx : xs.toList.drop (s * ks.length) <;> cases hy : ys.toList.drop (s * ks.length) <;> rw [hx, hy] at h <;> simp [eqVL] at h <;> first | exact h | exact h.symm
    subst hb; rfl
  | m + 1, s, xs, ys, b, w, h => by
    rw [List.replicate_succ, List.flatten_cons] at h
    obtain ⟨b1, b2, g1, g2, g3⟩ := eqVL_append ks _ _ _ b h
    obtain ⟨u, v, p1, p2, p3⟩ := hK xs ys (s * ks.length) b1 w g1
    have IH := eqElems hi hsz hK m (s + 1) xs ys b2 w (by rw [Nat.add_mul, Nat.one_mul]; simpa [List.drop_drop] using g2)
    rw [List.range'_succ]
    simp only [List.forIn_cons, Sem.run_bind, p1, p2, p3, Result.andThen_ok]
    cases b1 with
    | false => subst g3; simp
    | true =>
      simp only [Bool.not_true, Bool.false_eq_true, if_false, Sem.run_pure, Result.andThen_ok]
      rw [g3, Bool.true_and]
      exact IH

theorem partEq {P : Program} : ∀ (d D : Nat), d ≤ D → ∀ t ks inf, cellK P d t = some ks → P.info? t = some inf → inf.size = ks.length → PartEq P D t ks
  | 0, _, _, t, ks, _, h, _, _ => by simp [cellK] at h
  | d + 1, 0, hD, _, _, _, _, _, _ => by omega
  | d + 1, D + 1, hD, t, ks, inf, h, hi, hsz => by
    intro xs ys off b w he
    simp only [cellK] at h
    have sc : ∀ (k : CK), ks = [k] → ∃ u v, xs.toList[off]? = some u ∧ ys.toList[off]? = some v ∧ eqV k u v = some b := by
      intro k hk; subst hk
      obtain ⟨l1, l2⟩ := eqVL_len _ _ _ _ he
      cases hx : (xs.toList.drop off) with
      | nil => rw [hx] at l1; simp at l1
      | cons u us =>
        cases hy : (ys.toList.drop off) with
        | nil => rw [hy] at l2; simp at l2
        | cons v vs =>
          rw [hx, hy] at he
          simp only [List.length_cons, List.length_nil, Nat.zero_add, List.take_succ_cons, List.take_zero, eqVL] at he
          refine ⟨u, v, ?_, ?_, ?_⟩
          · have : (xs.toList.drop off)[0]? = some u := by rw [hx]; rfl
            simpa using this
          · have : (ys.toList.drop off)[0]? = some v := by rw [hy]; rfl
            simpa using this
          · split at he
            · rename_i a c g1 g2
              injection g2 with g2; subst g2
              rw [g1]; simpa using he
            · cases he
    have pt : ∀ (dd : TypeDesc) (zs : Array Value) (u : Value), P.underlying t = some dd → dd.isRow = false → zs.toList[off]? = some u → (part t zs off).run P w = .ok u w := by
      intro dd zs u hu hr hz
      have hz' : zs[off]? = some u := by simpa using hz
      unfold part isAgg
      simp only [Sem.run_bind, run_underlying hu, Result.andThen_ok]
      cases dd <;> first | (simp [TypeDesc.isRow] at hr; done) | (simp [hz'])
    split at h
    · rename_i hu
      injection h with h; subst h
      obtain ⟨u, v, g1, g2, g3⟩ := sc .b rfl
      refine ⟨u, v, pt _ _ _ hu rfl g1, pt _ _ _ hu rfl g2, ?_⟩
      cases u <;> cases v <;> simp [eqV] at g3
      rw [Op.equalIn]
      simp only [Sem.run_bind, run_underlying hu, Result.andThen_ok, Sem.run_pure]
      simp [g3]
    · rename_i k0 hu
      injection h with h; subst h
      obtain ⟨u, v, g1, g2, g3⟩ := sc .i rfl
      refine ⟨u, v, pt _ _ _ hu rfl g1, pt _ _ _ hu rfl g2, ?_⟩
      cases u <;> cases v <;> simp only [eqV] at g3 <;> try (cases g3; done)
      split at g3
      · rename_i hk
        have := sameKind_eq hk; subst this
        rw [Op.equalIn]
        simp only [Sem.run_bind, run_underlying hu, Result.andThen_ok, if_true, Sem.run_pure]
        simpa using g3
      · cases g3
    · rename_i hu
      injection h with h; subst h
      obtain ⟨u, v, g1, g2, g3⟩ := sc .s rfl
      refine ⟨u, v, pt _ _ _ hu rfl g1, pt _ _ _ hu rfl g2, ?_⟩
      cases u <;> cases v <;> simp [eqV] at g3
      rw [Op.equalIn]
      simp only [Sem.run_bind, run_underlying hu, Result.andThen_ok, Sem.run_pure]
      simp [g3]
    · rename_i fs hu
      split at h
      · cases h
      · rename_i hst
        have IH : ∀ t ks inf, cellK P d t = some ks → P.info? t = some inf → inf.size = ks.length → PartEq P D t ks := partEq d D (by omega)
        have pa : ∀ zs : Array Value, (part t zs off).run P w = .ok (.agg (zs.extract off (off + ks.length))) w := by
          intro zs
          unfold part isAgg sizeOf typeInfo
          simp [run_underlying hu, hi, hsz]
        refine ⟨_, _, pa xs, pa ys, eqRow IH hu hst h w ?_⟩
        simpa [Array.toList_extract, List.extract] using he
    · rename_i n e hu
      split at h
      · rename_i inf' ks' h1 h2
        split at h
        · rename_i h3
          injection h with h
          have hs' : inf'.size = ks'.length := by simpa using h3
          have IH : PartEq P D e ks' := partEq d D (by omega) e ks' inf' h2 h1 hs'
          have pa : ∀ zs : Array Value, (part t zs off).run P w = .ok (.agg (zs.extract off (off + ks.length))) w := by
            intro zs
            unfold part isAgg sizeOf typeInfo
            simp [run_underlying hu, hi, hsz]
          refine ⟨_, _, pa xs, pa ys, ?_⟩
          rw [Op.equalIn]
          have hz : (sizeOf e).run P w = .ok ks'.length w := by unfold sizeOf typeInfo; simp [h1, hs']
          have L := eqElems h1 hs' IH n 0 (xs.extract off (off + ks.length)) (ys.extract off (off + ks.length)) b w (by rw [h]; simpa [Array.toList_extract, List.extract] using he)
          simp only [Sem.run_bind, run_underlying hu, Result.andThen_ok, hz]
          simp only [Std.Legacy.Range.forIn_eq_forIn_range', Std.Legacy.Range.size, Nat.sub_zero, Nat.add_one_sub_one, Nat.div_one]
          (try simp only [Sem.run_bind] at L)
          rw [L]
          cases b <;> rfl
        · cases h
      · cases h
    · cases h

/-- The cells' kinds of a struct are as the kernel reckons them. -/
theorem eqOk_of {P : Program} {d : Nat} {t : TypeId} {ks : List CK} (h : (match P.underlying t with
    | some (.struct fs) => if (!P.stoodInHeld t && !P.eqGuardType P.depth t) = true then fieldsK P (cellK P d) 0 fs.toList else none
    | _ => none) = some ks) (hd : Nat.ble d 9999 = true := by rfl) : EqOk P t ks := by
  intro xs ys b x y w he
  split at h
  · rename_i fs hu
    split at h
    · rename_i hc
      simp only [Bool.and_eq_true, Bool.not_eq_true'] at hc
      have e1 : (Op.equal t (.agg xs) (.agg ys)).run P w = .ok b w := by
        unfold Op.equal
        rw [show Op.maxDepth = 9999 + 1 from rfl]
        exact eqRow (partEq d 9999 (Nat.le_of_ble_eq_true hd)) hu hc.1 h w he
      have e2 : ∀ op, (op = .eql ∨ op = .neq) → (eqGuard op t x y (.agg xs) (.agg ys)).run P w = .ok () w := by
        intro op ho
        unfold eqGuard
        rcases ho with rfl | rfl <;> simp [show Sem.run P program w = .ok P w from rfl, hc.2]
      constructor
      · simp only [Sem.run_bind, e2 .eql (.inl rfl), Result.andThen_ok, binOp, e1, Sem.run_pure]
      · simp only [Sem.run_bind, e2 .neq (.inr rfl), Result.andThen_ok, binOp, e1, Sem.run_pure]
    · cases h
  · cases h
/-- Of an array. -/
theorem eqOk_arr {P : Program} {d : Nat} {t e : TypeId} {n : Nat} {inf : TypeInfo} {ks ks' : List CK} (hu : P.underlying t = some (.array n e)) (h1 : P.info? e = some inf) (h2 : cellK P d e = some ks') (hs : inf.size = ks'.length) (h : List.flatten (List.replicate n ks') = ks) (hg : P.eqGuardType P.depth t = false) (hd : Nat.ble d 9999 = true := by rfl) : EqOk P t ks := by
  intro xs ys b x y w he
  have e1 : (Op.equal t (.agg xs) (.agg ys)).run P w = .ok b w := by
    unfold Op.equal
    rw [show Op.maxDepth = 9999 + 1 from rfl, Op.equalIn]
    have hz : (sizeOf e).run P w = .ok ks'.length w := by unfold sizeOf typeInfo; simp [h1, hs]
    have L := eqElems h1 hs (partEq d 9999 (Nat.le_of_ble_eq_true hd) e ks' inf h2 h1 hs) n 0 xs ys b w (by rw [h]; simpa using he)
    simp only [Sem.run_bind, run_underlying hu, Result.andThen_ok, hz]
    simp only [Std.Legacy.Range.forIn_eq_forIn_range', Std.Legacy.Range.size, Nat.sub_zero, Nat.add_one_sub_one, Nat.div_one]
    (try simp only [Sem.run_bind] at L)
    rw [L]
    cases b <;> rfl
  have e2 : ∀ op, (op = .eql ∨ op = .neq) → (eqGuard op t x y (.agg xs) (.agg ys)).run P w = .ok () w := by
    intro op ho
    unfold eqGuard
    rcases ho with rfl | rfl <;> simp [show Sem.run P program w = .ok P w from rfl, hg]
  constructor
  · simp only [Sem.run_bind, e2 .eql (.inl rfl), Result.andThen_ok, binOp, e1, Sem.run_pure]
  · simp only [Sem.run_bind, e2 .neq (.inr rfl), Result.andThen_ok, binOp, e1, Sem.run_pure]
end Go.Proofs.YtahnhhbgkmlfcaaDoor
