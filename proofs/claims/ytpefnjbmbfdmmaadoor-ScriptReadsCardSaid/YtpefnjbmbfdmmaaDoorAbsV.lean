/- The second machine and the model: code, and whole functions. -/
import Derived.Test.YtpefnjbmbfdmmaaDoorAbsD
namespace Go.Proofs.YtpefnjbmbfdmmaaDoor
open Go.RowKit

def codeOk (N : Nat) : Code → Bool
  | .region _ ops dr => slotsOk N ops.toList && (!dr || lateR ops.toList || drawOk ops.toList)
  | .seq a b => codeOk N a && codeOk N b
  | .cond _ a b => codeOk N a && codeOk N b
  | .block _ b => codeOk N b
  | .loop b => codeOk N b
  | _ => true

def toExit : AEx → Exit
  | .normal => .normal
  | .exit i => .exit i
  | .ret => .ret

def Aft (C : Ctx) (V : Inv C.fr) (w0 : World) (S0 : Nat → Prop) (N : Nat) (Q : AEx → ASt → Prop) (e : Exit) (a : Act) (w : World) : Prop := ∃ e' st S β, e = toExit e' ∧ Q e' st ∧ SimD C V w0 S0 N (· < st.n) st.t st.h a w S β

section
variable {C : Ctx} {V : Inv C.fr} {N : Nat} {w0 : World} {S0 : Nat → Prop}

theorem mapL_get (σ : Nat → Nat) : ∀ (cs : List AV) (i : Nat), (mapL σ cs)[i]? = (cs[i]?).map (mapA σ)
  | [], i => by simp [mapL]
  | c :: cs, 0 => by simp [mapL]
  | c :: cs, i + 1 => by simp [mapL, mapL_get σ cs i]
theorem mapL_len (σ : Nat → Nat) : ∀ (cs : List AV), (mapL σ cs).length = cs.length
  | [] => rfl
  | c :: cs => by simp [mapL, mapL_len σ cs]
theorem belowL_get (n : Nat) : ∀ (cs : List AV), belowL n cs = true → ∀ (i : Nat) a, cs[i]? = some a → belowA n a = true
  | [], _, i, a, h => by simp at h
  | c :: cs, hb, i, a, hi => by
    simp only [belowL] at hb
    split at hb
    · rename_i hc
      cases i with
      | zero => simp at hi; subst hi; exact hc
      | succ i => exact belowL_get n cs hb i a (by simpa using hi)
    · cases hb
theorem sizeOf_get : ∀ (cs : List AV) (i : Nat) a, cs[i]? = some a → SizeOf.sizeOf a < SizeOf.sizeOf cs
  | [], i, a, h => by simp at h
  | c :: cs, 0, a, h => by simp at h; subst h; simp; omega
  | c :: cs, i + 1, a, h => by
    have := sizeOf_get cs i a (by simpa using h)
    simp; omega

theorem map_rep {S : Nat → Prop} {w : World} {β : Bt} {n : Nat} {σ : Nat → Nat} : ∀ (k : Nat) (a : AV) (v : Value), SizeOf.sizeOf a ≤ k → belowA n a = true → Rep S w β (mapA σ a) v → Rep S w (fun s => if s < n then β (σ s) else none) a v := by
  intro k
  induction k with
  | zero => intro a v hk; cases a <;> simp at hk
  | succ k ih =>
    intro a v hk hb hr
    have site : ∀ s l, Nat.blt s n = true → β (σ s) = some l → (fun s => if s < n then β (σ s) else none) s = some l := fun s l h1 h2 => by
      have : s < n := Nat.le_of_ble_eq_true h1
      simp only [this, if_true, h2]
    have list : ∀ (cs : List AV) (us : Array Value), SizeOf.sizeOf cs ≤ k → belowL n cs = true → (∀ (i : Nat) a u, (mapL σ cs)[i]? = some a → us[i]? = some u → Rep S w β a u) → ∀ (i : Nat) a u, cs[i]? = some a → us[i]? = some u → Rep S w (fun s => if s < n then β (σ s) else none) a u := by
      intro cs us hs hb h i a u p q
      have := sizeOf_get cs i a p
      exact ih a u (by omega) (belowL_get n cs hb i a p) (h i (mapA σ a) u (by rw [mapL_get, p]; rfl) q)
    cases a with
    | v x =>
      simp only [mapA] at hr
      cases hr
      exact .v _
    | agg cs =>
      simp only [mapA] at hr
      cases hr with
      | agg _ vs hl h1 h => exact .agg cs vs (by rw [← mapL_len σ cs]; exact hl) h1 (list cs vs (by simp at hk; omega) (by simpa [belowA] using hb) h)
    | tup cs =>
      simp only [mapA] at hr
      cases hr with
      | tup _ vs hl h => exact .tup cs vs (by rw [← mapL_len σ cs]; exact hl) (list cs vs (by simp at hk; omega) (by simpa [belowA] using hb) h)
    | sl rs rows clip =>
      simp only [mapA] at hr
      cases hr with
      | sl _ _ _ A c b o u hc hm hcl hrs hA hw h1 hr => exact .sl rs rows clip A c b o u hc hm hcl hrs hA hw h1 hr
    | dp rs col row =>
      simp only [mapA] at hr
      cases hr with
      | dp _ _ _ b o u hrs hb hw h1 hr => exact .dp rs col row b o u hrs hb hw h1 hr
    | ptr s c =>
      simp only [mapA] at hr
      cases hr with
      | ptr _ _ l hl => exact .ptr s c l (site s l hb hl)
    | ptr2 s r c =>
      simp only [mapA] at hr
      cases hr with
      | ptr2 _ _ _ l hl => exact .ptr2 s r c l (site s l hb hl)
    | osl s lo len clip =>
      simp only [mapA] at hr
      cases hr with
      | osl _ _ _ _ l A c hl hc hm hcl hA cs e fr hb' room => exact .osl s lo len clip l A c (site s l hb hl) hc hm hcl hA cs e fr hb' room
    | clo f a b =>
      simp only [mapA] at hr
      simp only [belowA] at hb
      split at hb
      · rename_i ha
        cases hr with
        | clo _ _ _ vs us hl h hl' h' => exact .clo f a b vs us (by rw [← mapL_len σ a]; exact hl) (list a vs (by simp at hk; omega) ha h) (by rw [← mapL_len σ b]; exact hl') (list b us (by simp at hk; omega) hb h')
      · cases hb
    | opt g x =>
      simp only [mapA] at hr
      cases hr with
      | optT _ _ _ hg h => exact .optT g x v hg (ih x v (by simp at hk; omega) (by simpa [belowA] using hb) h)
      | optF _ _ hg => exact .optF g x hg
    | any => exact .any v

theorem weak_sound {st st' : ASt} {σ : Nat → Nat} (W : Weak st st' σ) (hf : keepB C.fr σ st'.n = true) {a : Act} {w : World} {S : Nat → Prop} {β : Bt} (M : SimD C V w0 S0 N (· < st.n) st.t st.h a w S β) : SimD C V w0 S0 N (· < st'.n) st'.t st'.h a w S (fun s => if s < st'.n then β (σ s) else none) := by
  refine ⟨fun i => ?_, ⟨fun s blk hs => ?_, fun s s' l l' h1 h2 e1 e2 hb => ?_, M.H.lt, M.H.big⟩, M.B, fun x l hx => ?_, M.df, M.sz, M.G, M.nw, V.weak M.iv hf⟩
  · rcases W.t i with h | ⟨h, hb⟩
    · rw [h]; exact .any _
    · have := M.T i
      rw [h] at this
      exact map_rep _ _ _ (Nat.le_refl _) hb this
  · obtain ⟨h1, h2, h3⟩ := W.h s blk hs
    obtain ⟨l, cs, e, fr, k1, k2, k3, k4, k5, k6⟩ := M.H.own _ _ h2
    refine ⟨l, cs, e, fr, by simp only [h1, if_true]; exact k1, k2, k3, k4, k5, ?_⟩
    cases blk with
    | box cells =>
      intro j a hj
      obtain ⟨u, q1, q2, q3⟩ := k6 j (mapA σ a) (by rw [mapL_get, hj]; rfl)
      exact ⟨u, q1, q2, map_rep _ _ _ (Nat.le_refl _) (belowL_get _ cells (by simpa [belowB] using h3) j a hj) q3⟩
    | arr rows rs => exact k6
    | row cells =>
      refine ⟨k6.1, fun j a hj => ?_⟩
      obtain ⟨u, q1, q2, q3⟩ := k6.2 j (mapA σ a) (by rw [mapL_get, hj]; rfl)
      exact ⟨u, q1, q2, map_rep _ _ _ (Nat.le_refl _) (belowL_get _ cells (by simpa [belowB] using h3) j a hj) q3⟩
  · have get : ∀ s l, st'.h s ≠ none → (if s < st'.n then β (σ s) else none) = some l → st.h (σ s) ≠ none ∧ β (σ s) = some l := by
      intro s l hs hl
      cases hq : st'.h s with
      | none => exact absurd hq hs
      | some blk =>
        obtain ⟨h1, h2, h3⟩ := W.h s blk hq
        rw [if_pos h1] at hl
        exact ⟨by rw [h2]; simp, hl⟩
    obtain ⟨a1, a2⟩ := get s l h1 e1
    obtain ⟨b1, b2⟩ := get s' l' h2 e2
    exact W.inj s s' h1 h2 (M.H.inj _ _ _ _ a1 b1 a2 b2 hb)
  · show x < st'.n
    by_cases h : x < st'.n
    · exact h
    · simp only [h, if_false] at hx; cases hx

/-! ### steps of the thought -/
theorem lez_rep {fz : Fz} {S S' : Nat → Prop} {w : World} {β : Bt} (hS : ∀ b, S b → S' b)
    (hz : ∀ x rs rows, fz = some (x, rs, rows) → ∀ l, β x = some l → S' l.blk ∧ ∃ cs e fr, w.heap[l.blk]? = some (.cells cs e fr) ∧ InBlk S w β l cs (.arr rows rs)) :
    ∀ {a b : AV} {v : Value}, LeZ fz a b → Rep S w β a v → Rep S' w β b v := by
  intro a b v hab
  induction hab generalizing v with
  | refl a => intro h; exact h.mono hS (Evo.refl _ _) (BtLe.refl _)
  | any a => intro _; exact .any _
  | nil rs c =>
    intro h
    cases h with
    | sl _ _ _ A c0 b o u hc hm hcl hrs hA hw h1 hr =>
      exact .sl rs [] c A c0 b o u hc hm (fun _ => hcl rfl) (fun _ h => by cases h) (fun h => absurd h (Nat.lt_irrefl 0)) (fun i row j a h => by simp at h) h1 fun i row j a h => by simp at h
  | emp rs A k c hk hc =>
    intro h
    cases rep_v h
    exact .sl rs [] c A k 0 0 (fun _ _ => .bool false) (Nat.zero_le _) hk hc (fun _ h => by cases h) (fun h => absurd h (Nat.lt_irrefl 0)) (fun i row j a h => by simp at h) (fun _ _ => rfl) fun i row j a h => by simp at h
  | clip rs rows =>
    intro h
    cases h with
    | sl _ _ _ A c0 b o u hc hm hcl hrs hA hw h1 hr =>
      exact (Rep.sl rs rows false A c0 b o u hc hm (fun h => by cases h) hrs hA hw h1 hr).mono hS (Evo.refl _ _) (BtLe.refl _)
  | oclip s lo len =>
    intro h
    cases h with
    | osl _ _ _ _ l A c hl hc hm hcl hA cs e fr hb room => exact .osl s lo len false l A c hl hc hm (fun h => by cases h) hA cs e fr hb room
  | frz b rs lo len rows c c' hfz hl hcc =>
    intro h
    cases h with
    | osl _ _ _ _ l A cp hl' hc hm hcl hA cs0 e0 fr0 hb0 room =>
      obtain ⟨hSb, cs, e, fr, hb, k1, k2, k3⟩ := hz b rs rows hfz l hl'
      rw [hb0] at hb
      injection hb with hb; injection hb with q1 q2 q3
      subst q1; subst q2; subst q3
      have hlen : ((rows.drop lo).take len).length = len := by rw [List.length_take, List.length_drop]; omega
      have get : ∀ (i : Nat) row, ((rows.drop lo).take len)[i]? = some row → rows[lo + i]? = some row := fun i row hi => by
        have hil : i < len := by have := (List.getElem?_eq_some_iff.1 hi).1; omega
        rwa [List.getElem?_take, if_pos hil, List.getElem?_drop] at hi
      have key := Rep.sl (S := S') (w := w) (β := β) rs ((rows.drop lo).take len) c' A cp l.blk (l.base + lo * l.rs) (fun i j => if (cs0[l.base + (lo + i) * rs + j]?.getD (.bool false)).oneCell' = true then cs0[l.base + (lo + i) * rs + j]?.getD (.bool false) else .bool false)
        (by rw [hlen]; exact hc) hm (fun h => by rw [hlen]; exact hcl (hcc h)) (fun row hr => k2 row (List.mem_of_mem_drop (List.mem_of_mem_take hr)))
        (fun h0 => ⟨hA (by omega), hSb⟩) (fun i row j a hi hj => ?_) (fun i j => ?_) (fun i row j a hi hj => ?_)
      · rw [hlen] at key; exact key
      · obtain ⟨u, p1, p2, p3⟩ := k3 (lo + i) row j a (get i row hi) hj
        rw [cell_of_cells hb0, k1, show l.base + lo * rs + i * rs + j = l.base + (lo + i) * rs + j by rw [Nat.add_mul]; omega, p1]
        simp [p2]
      · split
        · assumption
        · rfl
      · obtain ⟨u, p1, p2, p3⟩ := k3 (lo + i) row j a (get i row hi) hj
        simp only [p1, Option.getD_some, p2, if_true]
        exact p3.mono hS (Evo.refl _ _) (BtLe.refl _)
  | agg cs ds hl h ih =>
    intro hr
    cases hr with
    | agg _ vs hl' h1 h' =>
      refine .agg ds vs (hl ▸ hl') h1 fun i a u p q => ?_
      have hi : i < cs.length := by rw [hl]; exact (List.getElem?_eq_some_iff.1 p).1
      exact ih i cs[i] a (List.getElem?_eq_getElem hi) p (h' i _ u (List.getElem?_eq_getElem hi) q)
  | tup cs ds hl h ih =>
    intro hr
    cases hr with
    | tup _ vs hl' h' =>
      refine .tup ds vs (hl ▸ hl') fun i a u p q => ?_
      have hi : i < cs.length := by rw [hl]; exact (List.getElem?_eq_some_iff.1 p).1
      exact ih i cs[i] a (List.getElem?_eq_getElem hi) p (h' i _ u (List.getElem?_eq_getElem hi) q)

theorem leb_blk {fz : Fz} {S S' : Nat → Prop} {w : World} {β : Bt} (hS : ∀ b, S b → S' b)
    (hz : ∀ x rs rows, fz = some (x, rs, rows) → ∀ l, β x = some l → S' l.blk ∧ ∃ cs e fr, w.heap[l.blk]? = some (.cells cs e fr) ∧ InBlk S w β l cs (.arr rows rs))
    {b0 b1 : Blk} {l : Loc} {cs : Array Value} (h : LeB fz b0 b1) (k : InBlk S w β l cs b0) : InBlk S' w β l cs b1 := by
  cases h with
  | refl => exact k.mono hS (Evo.refl _ _) (BtLe.refl _)
  | box c d hl hh =>
    intro j a hj
    have hi : j < c.length := by rw [hl]; exact (List.getElem?_eq_some_iff.1 hj).1
    obtain ⟨u, p1, p2, p3⟩ := k j c[j] (List.getElem?_eq_getElem hi)
    exact ⟨u, p1, p2, lez_rep hS hz (hh j _ a (List.getElem?_eq_getElem hi) hj) p3⟩
  | row c d hl hh =>
    refine ⟨k.1, fun j a hj => ?_⟩
    have hi : j < c.length := by rw [hl]; exact (List.getElem?_eq_some_iff.1 hj).1
    obtain ⟨u, p1, p2, p3⟩ := k.2 j c[j] (List.getElem?_eq_getElem hi)
    exact ⟨u, p1, p2, lez_rep hS hz (hh j _ a (List.getElem?_eq_getElem hi) hj) p3⟩
  | toRow c =>
    refine ⟨k.1, fun j a hj => ?_⟩
    obtain ⟨u, p1, p2, p3⟩ := k.2.2 j [a] 0 a (by rw [List.getElem?_map, hj]; rfl) rfl
    rw [Nat.mul_one, Nat.add_zero] at p1
    exact ⟨u, p1, p2, p3.mono hS (Evo.refl _ _) (fun s l x => by cases x)⟩
  | toArr c hc =>
    refine ⟨k.1, fun row hr => ?_, fun i row j a hi hj => ?_⟩
    · obtain ⟨x, _, rfl⟩ := List.mem_map.1 hr; rfl
    · rw [List.getElem?_map] at hi
      obtain ⟨x, hx, rfl⟩ := Option.map_eq_some_iff.1 hi
      cases j with
      | zero =>
        simp only [List.getElem?_cons_zero, Option.some.injEq] at hj
        subst hj
        obtain ⟨u, p1, p2, p3⟩ := k.2 i x hx
        exact ⟨u, by rw [Nat.mul_one, Nat.add_zero]; exact p1, p2, (closed_rep p3 (hc x (List.mem_of_getElem? hx)) noB).mono hS (Evo.refl _ _) (BtLe.refl _)⟩
      | succ j => simp at hj

theorem Ghost.old {st st' : ASt} {fz : Fz} (hg : Ghost st st' fz) (s : Nat) (h : st'.h s ≠ none) : st.h s ≠ none := by
  cases hq : st'.h s with
  | none => exact absurd hq h
  | some blk => obtain ⟨_, blk0, h0, _⟩ := hg.h s blk hq; rw [h0]; simp
theorem ghost_sound {st st' : ASt} {fz : Fz} (hg : Ghost st st' fz) {a : Act} {w : World} {S : Nat → Prop} {β : Bt} (M : SimD C V w0 S0 N (· < st.n) st.t st.h a w S β) : ∃ S', SimD C V w0 S0 N (· < st'.n) st'.t st'.h a w S' β := by
  cases fz with
  | none =>
    have hz : ∀ x rs rows, (none : Fz) = some (x, rs, rows) → ∀ l, β x = some l → S l.blk ∧ ∃ cs e fr, w.heap[l.blk]? = some (.cells cs e fr) ∧ InBlk S w β l cs (.arr rows rs) := fun _ _ _ h => by cases h
    refine ⟨S, fun i => lez_rep (fun _ h => h) hz (hg.t i) (M.T i), ⟨fun s blk hs => ?_, fun s s' l l' h1 h2 => M.H.inj s s' l l' (hg.old s h1) (hg.old s' h2), M.H.lt, M.H.big⟩, M.B, by rw [hg.n]; exact M.dom, M.df, M.sz, M.G, M.nw, M.iv⟩
    obtain ⟨_, blk0, h0, hb⟩ := hg.h s blk hs
    obtain ⟨l, cs, e, fr, k1, k2, k3, k4, k5, k6⟩ := M.H.own s blk0 h0
    exact ⟨l, cs, e, fr, k1, k2, k3, k4, k5, leb_blk (fun _ h => h) hz hb k6⟩
  | some z =>
    obtain ⟨x, rs, rows⟩ := z
    have hx := hg.b x rs rows rfl
    obtain ⟨lx, csx, ex, frx, x1, x2, x3, x4, x5, x6⟩ := M.H.own x _ hx
    have hS : ∀ b, S b → S b ∨ b = lx.blk := fun _ h => .inl h
    have hz : ∀ y rs' rows', some (x, rs, rows) = some (y, rs', rows') → ∀ l, β y = some l → (S l.blk ∨ l.blk = lx.blk) ∧ ∃ cs e fr, w.heap[l.blk]? = some (.cells cs e fr) ∧ InBlk S w β l cs (.arr rows' rs') := fun y rs' rows' h l hl => by
      simp only [Option.some.injEq, Prod.mk.injEq] at h
      obtain ⟨rfl, rfl, rfl⟩ := h
      rw [x1] at hl; injection hl with hl; subst hl
      exact ⟨.inr rfl, csx, ex, frx, x2, x6⟩
    refine ⟨fun b => S b ∨ b = lx.blk, fun i => lez_rep hS hz (hg.t i) (M.T i), ⟨fun s blk hs => ?_, fun s s' l l' h1 h2 => M.H.inj s s' l l' (hg.old s h1) (hg.old s' h2), fun b hb => hb.elim (M.H.lt b) fun e => e ▸ lt_of_heap x2, M.H.big⟩, M.B, by rw [hg.n]; exact M.dom, M.df, M.sz, fun g cells hgc => (M.G g cells hgc).mono hS (Evo.refl _ _) (BtLe.refl _), fun b hb => hb.elim (M.nw b) fun e => .inr (e ▸ x4), V.frz M.iv x1⟩
    obtain ⟨hne, blk0, h0, hb⟩ := hg.h s blk hs
    obtain ⟨l, cs, e, fr, k1, k2, k3, k4, k5, k6⟩ := M.H.own s blk0 h0
    refine ⟨l, cs, e, fr, k1, k2, k3, k4, fun h => h.elim k5 fun q => ?_, leb_blk hS hz hb k6⟩
    exact hne x rs rows rfl (M.H.inj s x l lx (by rw [h0]; simp) (by rw [hx]; simp) k1 x1 q)
theorem ghosts_sound {st st' : ASt} (hg : Ghosts st st') : ∀ {a : Act} {w : World} {S : Nat → Prop} {β : Bt}, SimD C V w0 S0 N (· < st.n) st.t st.h a w S β → ∃ S', SimD C V w0 S0 N (· < st'.n) st'.t st'.h a w S' β := by
  induction hg with
  | refl => intro a w S β M; exact ⟨S, M⟩
  | step fz h k ih => intro a w S β M; obtain ⟨S', M'⟩ := ghost_sound h M; exact ih M'


theorem CtxOk.noH (h : CtxOk C) : CtxOk C.noH := ⟨h.ty, h.mixed, fun _ _ _ _ _ h => h.elim⟩
theorem SimD.noH {D : Nat → Prop} {t : Nat → AV} {h : AH} {a : Act} {w : World} {S : Nat → Prop} {β : Bt} (M : SimD C V w0 S0 N D t h a w S β) : SimD C.noH V w0 S0 N D t h a w S β := ⟨M.T, M.H, M.B, M.dom, M.df, M.sz, M.G, M.nw, M.iv⟩
theorem SimD.ofNoH {D : Nat → Prop} {t : Nat → AV} {h : AH} {a : Act} {w : World} {S : Nat → Prop} {β : Bt} (M : SimD C.noH V w0 S0 N D t h a w S β) : SimD C V w0 S0 N D t h a w S β := ⟨M.T, M.H, M.B, M.dom, M.df, M.sz, M.G, M.nw, M.iv⟩
theorem late_sound (hC : CtxOk C) {ops : Array Oper} (hb : slotsOk N ops.toList = true) {K : ASt → Prop} {Q : Exit → Act → World → Prop} {n : Nat} (hQ : ∀ st a' w' S' β', K st → SimD C V w0 S0 N (· < st.n) st.t st.h a' w' S' β' → Q .normal a' w') :
    ∀ (fuel : Nat) (listed : Array Bool) (t : Nat → AV) (h : AH) (a : Act) (w : World) (S : Nat → Prop) (β : Bt), listed.size = ops.size → anyA C (DCall C) ops K fuel listed ⟨t, h, n⟩ → SimD C V w0 S0 N (fun s => s < n ∨ ∃ i, listed.getD i false = true ∧ s = n + i) t h a w S β → wpAny C.P .any ops Q fuel listed a w
  | 0, listed, t, h, a, w, S, β, hsz, hr, M => by
    refine ⟨hr.1, hQ _ a w S β hr.2 ⟨M.T, M.H, M.B, fun y l hy => ?_, M.df, M.sz, M.G, M.nw, M.iv⟩⟩
    show y < n + ops.size
    rcases M.dom y l hy with h | ⟨i, hi, rfl⟩
    · omega
    · rcases Nat.lt_or_ge i listed.size with k | k
      · omega
      · rw [Array.getD_eq_getD_getElem?, Array.getElem?_eq_none k] at hi; cases hi
  | fuel + 1, listed, t, h, a, w, S, β, hsz, hr, M => by
    refine ⟨fun hn => absurd hn hr.1, fun i hi => ?_⟩
    have hall : ∀ (l : List Nat), forL (aOne C (DCall C) ops (anyA C (DCall C) ops K fuel) listed t h n) l → ∀ i ∈ l, aOne C (DCall C) ops (anyA C (DCall C) ops K fuel) listed t h n i := by
      intro l
      induction l with
      | nil => intro _ i hi; cases hi
      | cons x l ih =>
        intro hl i hi
        rcases List.mem_cons.1 hi with rfl | hi
        · exact hl.1
        · exact ih hl.2 i hi
    have h1 := hall _ hr.2 i hi
    obtain ⟨k1, o, ho, _⟩ := mem_ready.1 hi
    have hil : i < listed.size := by have := (Array.getElem?_eq_some_iff.1 ho).1; omega
    have hni : listed.getD i false = false := by
      rw [Array.getD_eq_getD_getElem?, Array.getElem?_eq_getElem hil] at k1 ⊢
      exact k1
    have hoi : ops.toList[i]? = some o := by rw [Array.getElem?_toList]; exact ho
    have hmem : o ∈ ops.toList := List.mem_of_getElem? hoi
    have hs : β (n + i) = none := by
      cases hq : β (n + i) with
      | none => rfl
      | some l =>
        rcases M.dom _ _ hq with h | ⟨j, hj, he⟩
        · omega
        · have : j = i := by omega
          subst this; rw [hni] at hj; cases hj
    simp only [aOne, ho] at h1
    have next : ∀ (x : AV) (h' : AH), anyA C (DCall C) ops K fuel (listed.setIfInBounds i true) ⟨updO t o.dst x, h', n⟩ → ∀ a' w' S' β', SimD C V w0 S0 N (fun y => (y < n ∨ ∃ j, listed.getD j false = true ∧ y = n + j) ∨ y = n + i) (updO t o.dst x) h' a' w' S' β' → wpAny C.P .any ops Q fuel (listed.setIfInBounds i true) a' w' := fun x h' e2 a' w' S' β' M' => by
      refine late_sound hC hb hQ fuel _ _ h' a' w' S' β' (by simp [hsz]) e2 ⟨M'.T, M'.H, M'.B, fun y l hy => ?_, M'.df, M'.sz, M'.G, M'.nw, M'.iv⟩
      have hset : ∀ j, (listed.setIfInBounds i true).getD j false = true ↔ listed.getD j false = true ∨ j = i := fun j => by
        by_cases hj : j = i
        · subst hj
          rw [Array.getD_eq_getD_getElem?, Array.getElem?_setIfInBounds_self_of_lt hil]; simp
        · rw [Array.getD_eq_getD_getElem?, Array.getElem?_setIfInBounds_ne (Ne.symm hj), ← Array.getD_eq_getD_getElem?]; simp [hj]
      rcases M'.dom y l hy with (h | ⟨j, hj, he⟩) | h
      · exact .inl h
      · exact .inr ⟨j, (hset j).2 (.inl hj), he⟩
      · exact .inr ⟨i, (hset i).2 (.inr rfl), h⟩
    unfold wpOp
    simp only [ho]
    cases hab : aboveB listed i with
    | true =>
      rw [hab] at h1
      obtain ⟨x, h', e1, e2⟩ := (step_inv (C := C.noH) h1).resolve_right fun ⟨_, f, args, Post, _, hH, _⟩ => hH
      exact step_sound (C := C.noH) hC.noH M.noH hs rfl e1 (slots_lt hb hmem) (fun i pol d _ hd => guard_lt hb i d hd) fun a' w' S' β' M' => next x h' e2 a' w' S' β' (SimD.ofNoH M')
    | false =>
      rw [hab] at h1
      rcases step_inv (C := C) h1 with ⟨x, h', e1, e2⟩ | ⟨hg, f, args, Post, hx, hH, hk⟩
      · exact step_sound hC M hs rfl e1 (slots_lt hb hmem) (fun i pol d _ hd => guard_lt hb i d hd) fun a' w' S' β' M' => next x h' e2 a' w' S' β' M'
      · have : Region.wanted o (yielded ops a.tmps) = true := by
          rcases hg with hg | ⟨i, pol, d, g1, g2, g3⟩
          · simp [Region.wanted, hg]
          · exact wanted_iff M rfl g1 g2 g3 (guard_lt hb i d g2)
        rw [if_pos this]
        refine .inl (hcall_sound hC M (fun y hy => ?_) hx hH (slots_lt hb hmem) fun x h' a' w' S' β' hP M' => next x h' (hk x h' hP) a' w' S' β' M')
        rcases hy with hy | ⟨j, hj, rfl⟩
        · omega
        · rcases Nat.lt_or_ge i j with q | q
          · exfalso
            have hjs : j < listed.size := by
              rcases Nat.lt_or_ge j listed.size with z | z
              · exact z
              · rw [Array.getD_eq_getD_getElem?, Array.getElem?_eq_none z] at hj; cases hj
            have : aboveB listed i = true := List.any_eq_true.2 ⟨j, List.mem_range.2 hjs, by rw [hj, Bool.and_true]; exact Nat.ble_eq_true_of_le q⟩
            rw [hab] at this; cases this
          · rcases Nat.lt_or_ge j i with z | z
            · omega
            · have : j = i := by omega
              subst this; rw [hni] at hj; cases hj

theorem code_sound (hC : CtxOk C) : ∀ (c : Code), codeOk N c = true → ∀ (st : ASt) (Q : AEx → ASt → Prop), codeA C (DCall C) c st Q → ∀ (a : Act) (w : World) (S : Nat → Prop) (β : Bt), SimD C V w0 S0 N (· < st.n) st.t st.h a w S β →
    c.wp C.P (Aft C V w0 S0 N Q) a w := by
  intro c
  induction c with
  | skip => intro _ st Q hq a w S β M; exact wp_skip ⟨.normal, st, S, β, rfl, hq, M⟩
  | label l => intro _ st Q hq a w S β M; exact wp_label ⟨.normal, st, S, β, rfl, hq, M⟩
  | exit id => intro _ st Q hq a w S β M; exact wp_exit ⟨.exit id, st, S, β, rfl, hq, M⟩
  | ret => intro _ st Q hq a w S β M; exact wp_ret ⟨.ret, st, S, β, rfl, hq, M⟩
  | region id ops dr =>
    intro hk st Q hq a w S β M
    simp only [codeOk, Bool.and_eq_true] at hk
    obtain ⟨t, h, n⟩ := st
    simp only [codeA] at hq
    cases dr with
    | false =>
      simp only [Bool.false_and] at hq
      replace hq := hq.resolve_right fun h => Bool.noConfusion h.1
      refine wp_region ?_
      have := seq_sound (Q := Aft C V w0 S0 N Q) (K := Q .normal) hC (ops := ops) rfl hk.1 ops.toList 0 t h a w S β rfl hq M (fun st' a' w' S' β' hk' M' => ⟨.normal, st', S', β', rfl, hk', M'⟩)
      rw [show List.range' 0 ops.toList.length = List.range ops.size by rw [List.range_eq_range', Array.length_toList]] at this
      exact this
    | true =>
      refine wp_region_any hC.mixed ?_
      simp only [Bool.true_and] at hq
      cases hl : lateR ops.toList with
      | true =>
        rw [hl] at hq
        rcases hq with hq | ⟨_, hq⟩
        rotate_left
        · exact draw2_sound (C := C.noH) (V := V) hC.noH (fun _ _ _ _ _ h => h) hk.1 hq (SimD.noH M) (fun st' a' w' S' β' hk' M' => ⟨.normal, st', S', β', rfl, hk', SimD.ofNoH M'⟩)
        have M' := M.drawn (w.drawn + 1)
        refine late_sound (C := C) (V := V) hC hk.1 (fun st' a' w' S' β' hk' M' => ⟨.normal, st', S', β', rfl, hk', M'⟩) ops.size _ t h a _ S β (by simp) hq ⟨M'.T, M'.H, M'.B, fun y l hy => .inl (M'.dom y l hy), M'.df, M'.sz, M'.G, M'.nw, M'.iv⟩
      | false =>
      rw [hl] at hq
      rcases hq with hq | ⟨_, hq⟩
      rotate_left
      · have M' := M.drawn (w.drawn + 1)
        exact late_sound (C := C) (V := V) hC hk.1 (fun st' a' w' S' β' hk' M' => ⟨.normal, st', S', β', rfl, hk', M'⟩) ops.size _ t h a _ S β (by simp) hq ⟨M'.T, M'.H, M'.B, fun y l hy => .inl (M'.dom y l hy), M'.df, M'.sz, M'.G, M'.nw, M'.iv⟩
      have hd : drawOk ops.toList = true := by simp only [lateR, Bool.or_eq_false_iff, Bool.not_eq_false'] at hl; exact hl.2
      exact draw_sound (C := C.noH) (V := V) hC.noH (fun _ _ _ _ _ h => h) hk.1 hd hq (SimD.noH M) (fun st' a' w' S' β' hk' M' => ⟨.normal, st', S', β', rfl, hk', SimD.ofNoH M'⟩)
  | seq x y ihx ihy =>
    intro hk st Q hq a w S β M
    simp only [codeOk, Bool.and_eq_true] at hk
    simp only [codeA] at hq
    rcases hq with hq | hq | hq
    · refine wp_seq (wp_mono (ihx hk.1 st _ hq a w S β M) ?_)
      rintro e a' w' ⟨e', st', S', β', rfl, h1, h2⟩
      cases e' with
      | normal => exact ihy hk.2 st' Q h1 a' w' S' β' h2
      | exit i => exact ⟨.exit i, st', S', β', rfl, h1, h2⟩
      | ret => exact ⟨.ret, st', S', β', rfl, h1, h2⟩
    · refine wp_seq (wp_mono (ihx hk.1 st _ hq a w S β M) ?_)
      rintro e a' w' ⟨e', st', S', β', rfl, h1, h2⟩
      cases e' with
      | normal =>
        obtain ⟨st2, g1, g2⟩ := h1
        obtain ⟨S2, h3⟩ := ghosts_sound g1 h2
        exact ihy hk.2 st2 Q g2 a' w' S2 β' h3
      | exit i => exact ⟨.exit i, st', S', β', rfl, h1, h2⟩
      | ret => exact ⟨.ret, st', S', β', rfl, h1, h2⟩
    · refine wp_seq (wp_mono (ihx hk.1 st _ hq a w S β M) ?_)
      rintro e a' w' ⟨e', st', S', β', rfl, h1, h2⟩
      cases e' with
      | normal =>
        obtain ⟨st2, g1, st3, σ, hW, hf, g2⟩ := h1
        obtain ⟨S2, h3⟩ := ghosts_sound g1 h2
        exact ihy hk.2 st3 Q g2 a' w' S2 _ (weak_sound hW hf h3)
      | exit i => exact ⟨.exit i, st', S', β', rfl, h1, h2⟩
      | ret => exact ⟨.ret, st', S', β', rfl, h1, h2⟩
  | cond c x y ihx ihy =>
    intro hk st Q hq a w S β M
    simp only [codeOk, Bool.and_eq_true] at hk
    simp only [codeA] at hq
    split at hq
    · rename_i b hb
      obtain ⟨h1, h2⟩ := hq
      have hv := ev_rep M c
      rw [hb] at hv
      refine wp_cond_split (rep_v hv) (fun ht => ihx hk.1 st Q (h1 ht) a w S β M) (fun hf => ihy hk.2 st Q (h2 hf) a w S β M)
    · exact hq.elim
  | block id b ih =>
    intro hk st Q hq a w S β M
    simp only [codeOk] at hk
    simp only [codeA] at hq
    refine wp_block (wp_mono (ih hk st _ hq a w S β M) ?_)
    rintro e a' w' ⟨e', st', S', β', rfl, h1, h2⟩
    cases e' with
    | normal => exact ⟨.normal, st', S', β', rfl, h1, h2⟩
    | ret => exact ⟨.ret, st', S', β', rfl, h1, h2⟩
    | exit i =>
      show Exit.inBlock id _ (.exit i) a' w'
      simp only at h1
      simp only [Exit.inBlock]
      by_cases hi : i = id
      · subst hi
        rw [if_pos rfl]
        rw [show Nat.beq i i = true from Nat.beq_refl i] at h1
        exact ⟨.normal, st', S', β', rfl, h1, h2⟩
      · rw [if_neg hi]
        have : Nat.beq i id = false := by rw [← Bool.not_eq_true]; exact fun e => hi (Nat.eq_of_beq_eq_true e)
        rw [this] at h1
        exact ⟨.exit i, st', S', β', rfl, h1, h2⟩
  | loop b ih =>
    intro hk st Q hq a w S β M
    simp only [codeOk] at hk
    simp only [codeA] at hq
    obtain ⟨I, μ, st0, σ, hw, hf0, h0, round⟩ := hq
    -- by the measure
    have key : ∀ (m : Nat) (st : ASt) (a : Act) (w : World) (S : Nat → Prop) (β : Bt), μ st = m → I st → SimD C V w0 S0 N (· < st.n) st.t st.h a w S β → ∀ (fb : Frame) (k : List Item) (cs : List Frame),
        ∃ e a' w', Aft C V w0 S0 N Q e a' w' ∧ Arrives C.P (lone (fb.at a (.code b :: .inLoop b :: k)) cs w) fb k cs e a' w' := by
      intro m
      induction m using Nat.strongRecOn with
      | _ m ihm =>
        intro st a w S β hm hI M fb k cs
        obtain ⟨e, a₁, w₁, hq, harr⟩ := ih hk st _ (round st hI) a w S β M fb (.inLoop b :: k) cs
        obtain ⟨e', st1, S1, β1, rfl, hq1, M1⟩ := hq
        cases e' with
        | normal =>
          obtain ⟨stg, g1, stw, σ', W, hf1, hIw, hlt⟩ := hq1
          obtain ⟨S1, M1⟩ := ghosts_sound g1 M1
          obtain ⟨e₂, a₂, w₂, hq₂, harr₂⟩ := ihm (μ stw) (hm ▸ hlt) stw a₁ w₁ S1 _ rfl hIw (weak_sound W hf1 M1) fb k cs
          exact ⟨e₂, a₂, w₂, hq₂, .of_steps (Steps.trans harr (.one step_inLoop)) harr₂⟩
        | exit id => exact ⟨_, a₁, w₁, ⟨.exit id, st1, S1, β1, rfl, hq1, M1⟩, .pass (x := .inLoop b) rfl (fun _ _ => .inl (by simp [toExit])) harr⟩
        | ret => exact ⟨_, a₁, w₁, ⟨.ret, st1, S1, β1, rfl, hq1, M1⟩, .pass (x := .inLoop b) rfl (fun _ _ => .inl (by simp [toExit])) harr⟩
    intro fb k cs
    obtain ⟨e, a', w', hq, harr⟩ := key _ st0 a w S _ rfl h0 (weak_sound hw hf0 M) fb k cs
    exact ⟨e, a', w', hq, .of_steps (.one step_loop) harr⟩
  | _ => intro _ st Q hq; exact hq.elim

/-! ### whole functions -/
/-- What a result is worth, said of known values. -/
def Sub (a b : AV) : Prop := ∀ (S : Nat → Prop) (w : World) (v : Value), Rep S w noB a v → Rep S w noB b v
theorem Sub.refl (a : AV) : Sub a a := fun _ _ _ h => h

def RetA (C : Ctx) (fn : Func) (r : AV) (st : ASt) : Prop :=
  ∃ rs, resA C st fn.results.toList = some rs ∧ lenOkA st.h (retA rs) ∧ closedA (datA st.h (retA rs)) = true ∧ Sub (datA st.h (retA rs)) r

def Fin (C : Ctx) (fn : Func) (r : AV) : AEx → ASt → Prop
  | .exit _, _ => False
  | _, st => RetA C fn r st

def resF (tmps : Array Value) : ResultVar → Sem Value
  | .tmp t => pure (tmps.getD t undef)
  | .cell a t => do loadVar t (← asAddr (tmps.getD a undef))
theorem results_eq (fn : Func) (tmps : Array Value) : results fn tmps = (do let vs ← fn.results.mapM (resF tmps); pure (if h : vs.size = 1 then vs[0] else .tuple vs)) := rfl
theorem run_results {P : Program} {w : World} {tmps : Array Value} (l : List ResultVar) (vs : List Value) (h : (l.mapM (resF tmps)).run P w = .ok vs w) (fn : Func) (hl : fn.results.toList = l) :
    (results fn tmps).run P w = .ok (if h : vs.toArray.size = 1 then vs.toArray[0] else .tuple vs.toArray) w := by
  rw [results_eq, Array.mapM_eq_mapM_toList, hl]
  simp only [Sem.run_bind, map_eq_pure_bind, Sem.run_pure]
  rw [h]
  simp only [Result.andThen_ok, Sem.run_pure]

theorem res_ok (hC : CtxOk C) {t : Nat → AV} {h : AH} {n : Nat} {a : Act} {w : World} {D : Nat → Prop} {S : Nat → Prop} {β : Bt} (M : SimD C V w0 S0 N D t h a w S β) : ∀ (l : List ResultVar) (rs : List AV), resA C ⟨t, h, n⟩ l = some rs →
    ∃ vs, (l.mapM (resF a.tmps)).run C.P w = .ok vs w ∧ RepL S w β rs vs
  | [], rs, hr => by simp only [resA] at hr; injection hr with hr; subst hr; exact ⟨[], rfl, RepL.nil _ _ _⟩
  | .tmp i :: l, rs, hr => by
    simp only [resA] at hr
    split at hr
    · rename_i r hl
      injection hr with hr; subst hr
      obtain ⟨vs, h1, h2⟩ := res_ok hC M l r hl
      exact ⟨a.tmps.getD i undef :: vs, by simp only [List.mapM_cons, Sem.run_bind, resF, Sem.run_pure, Result.andThen_ok, h1], RepL.cons (M.T i) h2⟩
    · cases hr
  | .cell c ty :: l, rs, hr => by
    simp only [resA] at hr
    split at hr
    · rename_i b col r hp hl
      split at hr
      · rename_i cells hb
        split at hr
        · rename_i x hx
          injection hr with hr; subst hr
          obtain ⟨vs, h1, h2⟩ := res_ok hC M l r hl
          obtain ⟨lo, cs, e, fr, k1, k2, k3⟩ := own_box M.H hb
          have hT := M.T c
          rw [hp] at hT
          generalize hv : a.tmps.getD c undef = v at hT
          cases hT with
          | ptr _ _ l' hl' =>
          obtain rfl : l' = lo := by rw [hl'] at k1; exact Option.some.inj k1
          obtain ⟨u, p1, p2⟩ := load_row hC k3 rfl hx
          exact ⟨u :: vs, by simp only [List.mapM_cons, Sem.run_bind, resF, hv, asAddr, Sem.run_pure, Result.andThen_ok, p1, h1], RepL.cons p2 h2⟩
        · cases hr
      · cases hr
    · cases hr

theorem argsT_get : ∀ (args : List AV) (i : Nat), argsT args i = (args[i]?).getD .any
  | [], i => by simp [argsT]
  | x :: xs, 0 => by simp [argsT]
  | x :: xs, i + 1 => by simp [argsT, argsT_get xs i]

theorem DCall.intro (hC : CtxOk C) {f : FuncId} {fn : Func} {body : Code} {args : List AV} {r : AV} (hf : C.P.funcs[f]? = some fn) (hb : fn.body = some body) (hnm : (fn.name == "runtime.NumGoroutine") = false)
    (hN : codeOk fn.ntmps body = true) (hlen : Nat.ble args.length fn.ntmps = true) (hw : codeA C (DCall C) body ⟨argsT args, fun _ => none, 0⟩ (Fin C fn r)) (hdf : C.df = [] := by rfl) : DCall C f args r := by
  refine ⟨⟨fn, hf, by rw [hb]; rfl, hnm⟩, fun S w vs hS hG hargs => ?_⟩
  have hlen := Nat.le_of_ble_eq_true hlen
  refine calls_of_wp hf hb ?_
  have M0 : SimD C (Inv.any C.fr) w S fn.ntmps (· < (0 : Nat)) (argsT args) (fun _ => none) { tmps := vs.toArray ++ Array.replicate (fn.ntmps - vs.toArray.size) undef, defers := [] } w S noB := by
    have hl : vs.length = args.length := hargs.1.symm
    refine ⟨fun i => ?_, ⟨fun s blk h => (by cases h), fun s s' l l' h => absurd rfl h, hS, Nat.le_refl _⟩, Below.refl _ _, fun x l h => (by cases h), hdf.symm, by simp; omega, hG, fun _ h => .inl h, trivial⟩
    rw [argsT_get]
    cases ha : args[i]? with
    | none => exact .any _
    | some x =>
      have hi : i < vs.length := by rw [hl]; exact (List.getElem?_eq_some_iff.1 ha).1
      have hv : vs[i]? = some vs[i] := List.getElem?_eq_getElem hi
      have : (vs.toArray ++ Array.replicate (fn.ntmps - vs.toArray.size) undef).getD i undef = vs[i] := by
        rw [Array.getD_eq_getD_getElem?, Array.getElem?_append_left (by simpa using hi), List.getElem?_toArray, hv]; rfl
      rw [this]
      exact hargs.2 i x _ ha hv
  refine wp_mono (code_sound hC body hN ⟨argsT args, fun _ => none, 0⟩ _ hw _ w S noB M0) ?_
  rintro e a' w' ⟨e', st, S', β', rfl, hfin, M⟩
  have fin : RetA C fn r st → a'.defers = [] ∧ ∃ v, (results fn a'.tmps).run C.P w' = .ok v w' ∧ ∃ v', Ending.returned v = .returned v' ∧ Below w.heap.size w w' ∧ Rep (fun b => S b ∨ (w.heap.size ≤ b ∧ b < w'.heap.size)) w' noB r v' := by
    rintro ⟨rs, h1, h2, h3, h4⟩
    obtain ⟨t, h, n⟩ := st
    obtain ⟨us, g1, g2⟩ := res_ok hC M _ rs h1
    refine ⟨M.df.trans hdf, _, run_results _ us g1 fn rfl, _, rfl, M.B, ?_⟩
    have hret : Rep S' w' β' (retA rs) (if h : us.toArray.size = 1 then us.toArray[0] else .tuple us.toArray) := by
      match rs, us, g2 with
      | [], us, g2 =>
        have : us = [] := List.eq_nil_of_length_eq_zero g2.1.symm
        subst this
        exact .tup [] #[] rfl fun i a u p => by simp at p
      | [x], us, g2 =>
        match us, g2 with
        | [u], g2 => simpa [retA] using g2.2 0 x u rfl rfl
        | [], g2 => exact absurd g2.1 (by simp)
        | _ :: _ :: _, g2 => exact absurd g2.1 (by simp)
      | x :: y :: zs, us, g2 =>
        have hne : ¬ us.toArray.size = 1 := by
          have := g2.1
          simp at this ⊢
          omega
        rw [dif_neg hne]
        exact .tup _ _ (by simpa using g2.1) fun i a u p q => g2.2 i a u p (by simpa using q)
    have hd := datA_rep M.H hret h2
    refine h4 _ _ _ ?_
    exact (closed_rep hd h3 noB).mono (fun b hb => hb.elim (fun hb => (M.nw b hb).imp id fun h => ⟨h, M.H.lt b hb⟩) .inr) (Evo.refl _ _) (BtLe.refl _)
  cases e' with
  | normal => exact fin hfin
  | ret => exact fin hfin
  | exit i => exact hfin.elim
end
end Go.Proofs.YtpefnjbmbfdmmaaDoor
