/- Joined texts. -/
import Derived.Shelf.Small.Strs
import Derived.Shelf.Strings.Search3
import Derived.Shelf.Strings.Count
import Derived.Shelf.Strings.Split
import Derived.Shelf.Strconv.Itoa3
import Derived.Test.YtpefnjbmbfdmmaaDoorProg
import Derived.Test.YtpefnjbmbfdmmaaDoorS6
namespace Go.Proofs.YtpefnjbmbfdmmaaDoor
open Go.RowKit
def codeOk (N : Nat) : Code → Bool
  | .region _ ops dr => slotsOk N ops.toList && (!dr || lateR ops.toList || drawOk ops.toList)
  | .seq a b => codeOk N a && codeOk N b
  | .cond _ a b => codeOk N a && codeOk N b
  | .block _ b => codeOk N b
  | .loop b => codeOk N b
  | _ => true
def toExit : AEx → Exit
  | .normal => .normal
  | .exit i => .exit i
  | .ret => .ret
def Aft (C : Ctx) (V : Inv C.fr) (w0 : World) (S0 : Nat → Prop) (N : Nat) (Q : AEx → ASt → Prop) (e : Exit) (a : Act) (w : World) : Prop := ∃ e' st S β, e = toExit e' ∧ Q e' st ∧ SimD C V w0 S0 N (· < st.n) st.t st.h a w S β
section
variable {C : Ctx} {V : Inv C.fr} {N : Nat} {w0 : World} {S0 : Nat → Prop}
theorem mapL_get (σ : Nat → Nat) : ∀ (cs : List AV) (i : Nat), (mapL σ cs)[i]? = (cs[i]?).map (mapA σ)
  | [], i => by simp [mapL]
  | c :: cs, 0 => by simp [mapL]
  | c :: cs, i + 1 => by simp [mapL, mapL_get σ cs i]
theorem mapL_len (σ : Nat → Nat) : ∀ (cs : List AV), (mapL σ cs).length = cs.length
  | [] => rfl
  | c :: cs => by simp [mapL, mapL_len σ cs]
theorem belowL_get (n : Nat) : ∀ (cs : List AV), belowL n cs = true → ∀ (i : Nat) a, cs[i]? = some a → belowA n a = true
  | [], _, i, a, h => by simp at h
  | c :: cs, hb, i, a, hi => by
    simp only [belowL] at hb
    split at hb
    · rename_i hc
      cases i with
      | zero => simp at hi; subst hi; exact hc
      | succ i => exact belowL_get n cs hb i a (by simpa using hi)
    · cases hb
theorem sizeOf_get : ∀ (cs : List AV) (i : Nat) a, cs[i]? = some a → SizeOf.sizeOf a < SizeOf.sizeOf cs
  | [], i, a, h => by simp at h
  | c :: cs, 0, a, h => by simp at h; subst h; simp; omega
  | c :: cs, i + 1, a, h => by
    have := sizeOf_get cs i a (by simpa using h)
    simp; omega
theorem map_rep {S : Nat → Prop} {w : World} {β : Bt} {n : Nat} {σ : Nat → Nat} : ∀ (k : Nat) (a : AV) (v : Value), SizeOf.sizeOf a ≤ k → belowA n a = true → Rep S w β (mapA σ a) v → Rep S w (fun s => if s < n then β (σ s) else none) a v := by
  intro k
  induction k with
  | zero => intro a v hk; cases a <;> simp at hk
  | succ k ih =>
    intro a v hk hb hr
    have site : ∀ s l, Nat.blt s n = true → β (σ s) = some l → (fun s => if s < n then β (σ s) else none) s = some l := fun s l h1 h2 => by
      have : s < n := Nat.le_of_ble_eq_true h1
      simp only [this, if_true, h2]
    have list : ∀ (cs : List AV) (us : Array Value), SizeOf.sizeOf cs ≤ k → belowL n cs = true → (∀ (i : Nat) a u, (mapL σ cs)[i]? = some a → us[i]? = some u → Rep S w β a u) → ∀ (i : Nat) a u, cs[i]? = some a → us[i]? = some u → Rep S w (fun s => if s < n then β (σ s) else none) a u := by
      intro cs us hs hb h i a u p q
      have := sizeOf_get cs i a p
      exact ih a u (by omega) (belowL_get n cs hb i a p) (h i (mapA σ a) u (by rw [mapL_get, p]; rfl) q)
    cases a with
    | v x =>
      simp only [mapA] at hr
      cases hr
      exact .v _
    | agg cs =>
      simp only [mapA] at hr
      cases hr with
      | agg _ vs hl h1 h => exact .agg cs vs (by rw [← mapL_len σ cs]; exact hl) h1 (list cs vs (by simp at hk; omega) (by simpa [belowA] using hb) h)
    | tup cs =>
      simp only [mapA] at hr
      cases hr with
      | tup _ vs hl h => exact .tup cs vs (by rw [← mapL_len σ cs]; exact hl) (list cs vs (by simp at hk; omega) (by simpa [belowA] using hb) h)
    | sl rs rows clip =>
      simp only [mapA] at hr
      cases hr with
      | sl _ _ _ A c b o u hc hm hcl hrs hA hw h1 hr => exact .sl rs rows clip A c b o u hc hm hcl hrs hA hw h1 hr
    | dp rs col row =>
      simp only [mapA] at hr
      cases hr with
      | dp _ _ _ b o u hrs hb hw h1 hr => exact .dp rs col row b o u hrs hb hw h1 hr
    | ptr s c =>
      simp only [mapA] at hr
      cases hr with
      | ptr _ _ l hl => exact .ptr s c l (site s l hb hl)
    | ptr2 s r c =>
      simp only [mapA] at hr
      cases hr with
      | ptr2 _ _ _ l hl => exact .ptr2 s r c l (site s l hb hl)
    | osl s lo len clip =>
      simp only [mapA] at hr
      cases hr with
      | osl _ _ _ _ l A c hl hc hm hcl hA cs e fr hb' room => exact .osl s lo len clip l A c (site s l hb hl) hc hm hcl hA cs e fr hb' room
    | clo f a b =>
      simp only [mapA] at hr
      simp only [belowA] at hb
      split at hb
      · rename_i ha
        cases hr with
        | clo _ _ _ vs us hl h hl' h' => exact .clo f a b vs us (by rw [← mapL_len σ a]; exact hl) (list a vs (by simp at hk; omega) ha h) (by rw [← mapL_len σ b]; exact hl') (list b us (by simp at hk; omega) hb h')
      · cases hb
    | opt g x =>
      simp only [mapA] at hr
      cases hr with
      | optT _ _ _ hg h => exact .optT g x v hg (ih x v (by simp at hk; omega) (by simpa [belowA] using hb) h)
      | optF _ _ hg => exact .optF g x hg
    | any => exact .any v
theorem weak_sound {st st' : ASt} {σ : Nat → Nat} (W : Weak st st' σ) (hf : keepB C.fr σ st'.n = true) {a : Act} {w : World} {S : Nat → Prop} {β : Bt} (M : SimD C V w0 S0 N (· < st.n) st.t st.h a w S β) : SimD C V w0 S0 N (· < st'.n) st'.t st'.h a w S (fun s => if s < st'.n then β (σ s) else none) := by
  refine ⟨fun i => ?_, ⟨fun s blk hs => ?_, fun s s' l l' h1 h2 e1 e2 hb => ?_, M.H.lt, M.H.big⟩, M.B, fun x l hx => ?_, M.df, M.sz, M.G, M.nw, V.weak M.iv hf⟩
  · rcases W.t i with h | ⟨h, hb⟩
    · rw [h]; exact .any _
    · have := M.T i
      rw [h] at this
      exact map_rep _ _ _ (Nat.le_refl _) hb this
  · obtain ⟨h1, h2, h3⟩ := W.h s blk hs
    obtain ⟨l, cs, e, fr, k1, k2, k3, k4, k5, k6⟩ := M.H.own _ _ h2
    refine ⟨l, cs, e, fr, by simp only [h1, if_true]; exact k1, k2, k3, k4, k5, ?_⟩
    cases blk with
    | box cells =>
      intro j a hj
      obtain ⟨u, q1, q2, q3⟩ := k6 j (mapA σ a) (by rw [mapL_get, hj]; rfl)
      exact ⟨u, q1, q2, map_rep _ _ _ (Nat.le_refl _) (belowL_get _ cells (by simpa [belowB] using h3) j a hj) q3⟩
    | arr rows rs => exact k6
    | row cells =>
      refine ⟨k6.1, fun j a hj => ?_⟩
      obtain ⟨u, q1, q2, q3⟩ := k6.2 j (mapA σ a) (by rw [mapL_get, hj]; rfl)
      exact ⟨u, q1, q2, map_rep _ _ _ (Nat.le_refl _) (belowL_get _ cells (by simpa [belowB] using h3) j a hj) q3⟩
  · have get : ∀ s l, st'.h s ≠ none → (if s < st'.n then β (σ s) else none) = some l → st.h (σ s) ≠ none ∧ β (σ s) = some l := by
      intro s l hs hl
      cases hq : st'.h s with
      | none => exact absurd hq hs
      | some blk =>
        obtain ⟨h1, h2, h3⟩ := W.h s blk hq
        rw [if_pos h1] at hl
        exact ⟨by rw [h2]; simp, hl⟩
    obtain ⟨a1, a2⟩ := get s l h1 e1
    obtain ⟨b1, b2⟩ := get s' l' h2 e2
    exact W.inj s s' h1 h2 (M.H.inj _ _ _ _ a1 b1 a2 b2 hb)
  · show x < st'.n
    by_cases h : x < st'.n
    · exact h
    · simp only [h, if_false] at hx; cases hx
theorem lez_rep {fz : Fz} {S S' : Nat → Prop} {w : World} {β : Bt} (hS : ∀ b, S b → S' b)
    (hz : ∀ x rs rows, fz = some (x, rs, rows) → ∀ l, β x = some l → S' l.blk ∧ ∃ cs e fr, w.heap[l.blk]? = some (.cells cs e fr) ∧ InBlk S w β l cs (.arr rows rs)) :
    ∀ {a b : AV} {v : Value}, LeZ fz a b → Rep S w β a v → Rep S' w β b v := by
  intro a b v hab
  induction hab generalizing v with
  | refl a => intro h; exact h.mono hS (Evo.refl _ _) (BtLe.refl _)
  | any a => intro _; exact .any _
  | nil rs c =>
    intro h
    cases h with
    | sl _ _ _ A c0 b o u hc hm hcl hrs hA hw h1 hr =>
      exact .sl rs [] c A c0 b o u hc hm (fun _ => hcl rfl) (fun _ h => by cases h) (fun h => absurd h (Nat.lt_irrefl 0)) (fun i row j a h => by simp at h) h1 fun i row j a h => by simp at h
  | emp rs A k c hk hc =>
    intro h
    cases rep_v h
    exact .sl rs [] c A k 0 0 (fun _ _ => .bool false) (Nat.zero_le _) hk hc (fun _ h => by cases h) (fun h => absurd h (Nat.lt_irrefl 0)) (fun i row j a h => by simp at h) (fun _ _ => rfl) fun i row j a h => by simp at h
  | clip rs rows =>
    intro h
    cases h with
    | sl _ _ _ A c0 b o u hc hm hcl hrs hA hw h1 hr =>
      exact (Rep.sl rs rows false A c0 b o u hc hm (fun h => by cases h) hrs hA hw h1 hr).mono hS (Evo.refl _ _) (BtLe.refl _)
  | oclip s lo len =>
    intro h
    cases h with
    | osl _ _ _ _ l A c hl hc hm hcl hA cs e fr hb room => exact .osl s lo len false l A c hl hc hm (fun h => by cases h) hA cs e fr hb room
  | frz b rs lo len rows c c' hfz hl hcc =>
    intro h
    cases h with
    | osl _ _ _ _ l A cp hl' hc hm hcl hA cs0 e0 fr0 hb0 room =>
      obtain ⟨hSb, cs, e, fr, hb, k1, k2, k3⟩ := hz b rs rows hfz l hl'
      rw [hb0] at hb
      injection hb with hb; injection hb with q1 q2 q3
      subst q1; subst q2; subst q3
      have hlen : ((rows.drop lo).take len).length = len := by rw [List.length_take, List.length_drop]; omega
      have get : ∀ (i : Nat) row, ((rows.drop lo).take len)[i]? = some row → rows[lo + i]? = some row := fun i row hi => by
        have hil : i < len := by have := (List.getElem?_eq_some_iff.1 hi).1; omega
        rwa [List.getElem?_take, if_pos hil, List.getElem?_drop] at hi
      have key := Rep.sl (S := S') (w := w) (β := β) rs ((rows.drop lo).take len) c' A cp l.blk (l.base + lo * l.rs) (fun i j => if (cs0[l.base + (lo + i) * rs + j]?.getD (.bool false)).oneCell' = true then cs0[l.base + (lo + i) * rs + j]?.getD (.bool false) else .bool false)
        (by rw [hlen]; exact hc) hm (fun h => by rw [hlen]; exact hcl (hcc h)) (fun row hr => k2 row (List.mem_of_mem_drop (List.mem_of_mem_take hr)))
        (fun h0 => ⟨hA (by omega), hSb⟩) (fun i row j a hi hj => ?_) (fun i j => ?_) (fun i row j a hi hj => ?_)
      · rw [hlen] at key; exact key
      · obtain ⟨u, p1, p2, p3⟩ := k3 (lo + i) row j a (get i row hi) hj
        rw [cell_of_cells hb0, k1, show l.base + lo * rs + i * rs + j = l.base + (lo + i) * rs + j by rw [Nat.add_mul]; omega, p1]
        simp [p2]
      · split
        · assumption
        · rfl
      · obtain ⟨u, p1, p2, p3⟩ := k3 (lo + i) row j a (get i row hi) hj
        simp only [p1, Option.getD_some, p2, if_true]
        exact p3.mono hS (Evo.refl _ _) (BtLe.refl _)
  | agg cs ds hl h ih =>
    intro hr
    cases hr with
    | agg _ vs hl' h1 h' =>
      refine .agg ds vs (hl ▸ hl') h1 fun i a u p q => ?_
      have hi : i < cs.length := by rw [hl]; exact (List.getElem?_eq_some_iff.1 p).1
      exact ih i cs[i] a (List.getElem?_eq_getElem hi) p (h' i _ u (List.getElem?_eq_getElem hi) q)
  | tup cs ds hl h ih =>
    intro hr
    cases hr with
    | tup _ vs hl' h' =>
      refine .tup ds vs (hl ▸ hl') fun i a u p q => ?_
      have hi : i < cs.length := by rw [hl]; exact (List.getElem?_eq_some_iff.1 p).1
      exact ih i cs[i] a (List.getElem?_eq_getElem hi) p (h' i _ u (List.getElem?_eq_getElem hi) q)
theorem leb_blk {fz : Fz} {S S' : Nat → Prop} {w : World} {β : Bt} (hS : ∀ b, S b → S' b)
    (hz : ∀ x rs rows, fz = some (x, rs, rows) → ∀ l, β x = some l → S' l.blk ∧ ∃ cs e fr, w.heap[l.blk]? = some (.cells cs e fr) ∧ InBlk S w β l cs (.arr rows rs))
    {b0 b1 : Blk} {l : Loc} {cs : Array Value} (h : LeB fz b0 b1) (k : InBlk S w β l cs b0) : InBlk S' w β l cs b1 := by
  cases h with
  | refl => exact k.mono hS (Evo.refl _ _) (BtLe.refl _)
  | box c d hl hh =>
    intro j a hj
    have hi : j < c.length := by rw [hl]; exact (List.getElem?_eq_some_iff.1 hj).1
    obtain ⟨u, p1, p2, p3⟩ := k j c[j] (List.getElem?_eq_getElem hi)
    exact ⟨u, p1, p2, lez_rep hS hz (hh j _ a (List.getElem?_eq_getElem hi) hj) p3⟩
  | row c d hl hh =>
    refine ⟨k.1, fun j a hj => ?_⟩
    have hi : j < c.length := by rw [hl]; exact (List.getElem?_eq_some_iff.1 hj).1
    obtain ⟨u, p1, p2, p3⟩ := k.2 j c[j] (List.getElem?_eq_getElem hi)
    exact ⟨u, p1, p2, lez_rep hS hz (hh j _ a (List.getElem?_eq_getElem hi) hj) p3⟩
  | toRow c =>
    refine ⟨k.1, fun j a hj => ?_⟩
    obtain ⟨u, p1, p2, p3⟩ := k.2.2 j [a] 0 a (by rw [List.getElem?_map, hj]; rfl) rfl
    rw [Nat.mul_one, Nat.add_zero] at p1
    exact ⟨u, p1, p2, p3.mono hS (Evo.refl _ _) (fun s l x => by cases x)⟩
  | toArr c hc =>
    refine ⟨k.1, fun row hr => ?_, fun i row j a hi hj => ?_⟩
    · obtain ⟨x, _, rfl⟩ := List.mem_map.1 hr; rfl
    · rw [List.getElem?_map] at hi
      obtain ⟨x, hx, rfl⟩ := Option.map_eq_some_iff.1 hi
      cases j with
      | zero =>
        simp only [List.getElem?_cons_zero, Option.some.injEq] at hj
        subst hj
        obtain ⟨u, p1, p2, p3⟩ := k.2 i x hx
        exact ⟨u, by rw [Nat.mul_one, Nat.add_zero]; exact p1, p2, (closed_rep p3 (hc x (List.mem_of_getElem? hx)) noB).mono hS (Evo.refl _ _) (BtLe.refl _)⟩
      | succ j => simp at hj
theorem Ghost.old {st st' : ASt} {fz : Fz} (hg : Ghost st st' fz) (s : Nat) (h : st'.h s ≠ none) : st.h s ≠ none := by
  cases hq : st'.h s with
  | none => exact absurd hq h
  | some blk => obtain ⟨_, blk0, h0, _⟩ := hg.h s blk hq; rw [h0]; simp
theorem ghost_sound {st st' : ASt} {fz : Fz} (hg : Ghost st st' fz) {a : Act} {w : World} {S : Nat → Prop} {β : Bt} (M : SimD C V w0 S0 N (· < st.n) st.t st.h a w S β) : ∃ S', SimD C V w0 S0 N (· < st'.n) st'.t st'.h a w S' β := by
  cases fz with
  | none =>
    have hz : ∀ x rs rows, (none : Fz) = some (x, rs, rows) → ∀ l, β x = some l → S l.blk ∧ ∃ cs e fr, w.heap[l.blk]? = some (.cells cs e fr) ∧ InBlk S w β l cs (.arr rows rs) := fun _ _ _ h => by cases h
    refine ⟨S, fun i => lez_rep (fun _ h => h) hz (hg.t i) (M.T i), ⟨fun s blk hs => ?_, fun s s' l l' h1 h2 => M.H.inj s s' l l' (hg.old s h1) (hg.old s' h2), M.H.lt, M.H.big⟩, M.B, by rw [hg.n]; exact M.dom, M.df, M.sz, M.G, M.nw, M.iv⟩
    obtain ⟨_, blk0, h0, hb⟩ := hg.h s blk hs
    obtain ⟨l, cs, e, fr, k1, k2, k3, k4, k5, k6⟩ := M.H.own s blk0 h0
    exact ⟨l, cs, e, fr, k1, k2, k3, k4, k5, leb_blk (fun _ h => h) hz hb k6⟩
  | some z =>
    obtain ⟨x, rs, rows⟩ := z
    have hx := hg.b x rs rows rfl
    obtain ⟨lx, csx, ex, frx, x1, x2, x3, x4, x5, x6⟩ := M.H.own x _ hx
    have hS : ∀ b, S b → S b ∨ b = lx.blk := fun _ h => .inl h
    have hz : ∀ y rs' rows', some (x, rs, rows) = some (y, rs', rows') → ∀ l, β y = some l → (S l.blk ∨ l.blk = lx.blk) ∧ ∃ cs e fr, w.heap[l.blk]? = some (.cells cs e fr) ∧ InBlk S w β l cs (.arr rows' rs') := fun y rs' rows' h l hl => by
      simp only [Option.some.injEq, Prod.mk.injEq] at h
      obtain ⟨rfl, rfl, rfl⟩ := h
      rw [x1] at hl; injection hl with hl; subst hl
      exact ⟨.inr rfl, csx, ex, frx, x2, x6⟩
    refine ⟨fun b => S b ∨ b = lx.blk, fun i => lez_rep hS hz (hg.t i) (M.T i), ⟨fun s blk hs => ?_, fun s s' l l' h1 h2 => M.H.inj s s' l l' (hg.old s h1) (hg.old s' h2), fun b hb => hb.elim (M.H.lt b) fun e => e ▸ lt_of_heap x2, M.H.big⟩, M.B, by rw [hg.n]; exact M.dom, M.df, M.sz, fun g cells hgc => (M.G g cells hgc).mono hS (Evo.refl _ _) (BtLe.refl _), fun b hb => hb.elim (M.nw b) fun e => .inr (e ▸ x4), V.frz M.iv x1⟩
    obtain ⟨hne, blk0, h0, hb⟩ := hg.h s blk hs
    obtain ⟨l, cs, e, fr, k1, k2, k3, k4, k5, k6⟩ := M.H.own s blk0 h0
    refine ⟨l, cs, e, fr, k1, k2, k3, k4, fun h => h.elim k5 fun q => ?_, leb_blk hS hz hb k6⟩
    exact hne x rs rows rfl (M.H.inj s x l lx (by rw [h0]; simp) (by rw [hx]; simp) k1 x1 q)
theorem ghosts_sound {st st' : ASt} (hg : Ghosts st st') : ∀ {a : Act} {w : World} {S : Nat → Prop} {β : Bt}, SimD C V w0 S0 N (· < st.n) st.t st.h a w S β → ∃ S', SimD C V w0 S0 N (· < st'.n) st'.t st'.h a w S' β := by
  induction hg with
  | refl => intro a w S β M; exact ⟨S, M⟩
  | step fz h k ih => intro a w S β M; obtain ⟨S', M'⟩ := ghost_sound h M; exact ih M'
theorem CtxOk.noH (h : CtxOk C) : CtxOk C.noH := ⟨h.ty, h.mixed, fun _ _ _ _ _ h => h.elim⟩
theorem SimD.noH {D : Nat → Prop} {t : Nat → AV} {h : AH} {a : Act} {w : World} {S : Nat → Prop} {β : Bt} (M : SimD C V w0 S0 N D t h a w S β) : SimD C.noH V w0 S0 N D t h a w S β := ⟨M.T, M.H, M.B, M.dom, M.df, M.sz, M.G, M.nw, M.iv⟩
theorem SimD.ofNoH {D : Nat → Prop} {t : Nat → AV} {h : AH} {a : Act} {w : World} {S : Nat → Prop} {β : Bt} (M : SimD C.noH V w0 S0 N D t h a w S β) : SimD C V w0 S0 N D t h a w S β := ⟨M.T, M.H, M.B, M.dom, M.df, M.sz, M.G, M.nw, M.iv⟩
theorem late_sound (hC : CtxOk C) {ops : Array Oper} (hb : slotsOk N ops.toList = true) {K : ASt → Prop} {Q : Exit → Act → World → Prop} {n : Nat} (hQ : ∀ st a' w' S' β', K st → SimD C V w0 S0 N (· < st.n) st.t st.h a' w' S' β' → Q .normal a' w') :
    ∀ (fuel : Nat) (listed : Array Bool) (t : Nat → AV) (h : AH) (a : Act) (w : World) (S : Nat → Prop) (β : Bt), listed.size = ops.size → anyA C (DCall C) ops K fuel listed ⟨t, h, n⟩ → SimD C V w0 S0 N (fun s => s < n ∨ ∃ i, listed.getD i false = true ∧ s = n + i) t h a w S β → wpAny C.P .any ops Q fuel listed a w
  | 0, listed, t, h, a, w, S, β, hsz, hr, M => by
    refine ⟨hr.1, hQ _ a w S β hr.2 ⟨M.T, M.H, M.B, fun y l hy => ?_, M.df, M.sz, M.G, M.nw, M.iv⟩⟩
    show y < n + ops.size
    rcases M.dom y l hy with h | ⟨i, hi, rfl⟩
    · omega
    · rcases Nat.lt_or_ge i listed.size with k | k
      · omega
      · rw [Array.getD_eq_getD_getElem?, Array.getElem?_eq_none k] at hi; cases hi
  | fuel + 1, listed, t, h, a, w, S, β, hsz, hr, M => by
    refine ⟨fun hn => absurd hn hr.1, fun i hi => ?_⟩
    have hall : ∀ (l : List Nat), forL (aOne C (DCall C) ops (anyA C (DCall C) ops K fuel) listed t h n) l → ∀ i ∈ l, aOne C (DCall C) ops (anyA C (DCall C) ops K fuel) listed t h n i := by
      intro l
      induction l with
      | nil => intro _ i hi; cases hi
      | cons x l ih =>
        intro hl i hi
        rcases List.mem_cons.1 hi with rfl | hi
        · exact hl.1
        · exact ih hl.2 i hi
    have h1 := hall _ hr.2 i hi
    obtain ⟨k1, o, ho, _⟩ := mem_ready.1 hi
    have hil : i < listed.size := by have := (Array.getElem?_eq_some_iff.1 ho).1; omega
    have hni : listed.getD i false = false := by
      rw [Array.getD_eq_getD_getElem?, Array.getElem?_eq_getElem hil] at k1 ⊢
      exact k1
    have hoi : ops.toList[i]? = some o := by rw [Array.getElem?_toList]; exact ho
    have hmem : o ∈ ops.toList := List.mem_of_getElem? hoi
    have hs : β (n + i) = none := by
      cases hq : β (n + i) with
      | none => rfl
      | some l =>
        rcases M.dom _ _ hq with h | ⟨j, hj, he⟩
        · omega
        · have : j = i := by omega
          subst this; rw [hni] at hj; cases hj
    simp only [aOne, ho] at h1
    have next : ∀ (x : AV) (h' : AH), anyA C (DCall C) ops K fuel (listed.setIfInBounds i true) ⟨updO t o.dst x, h', n⟩ → ∀ a' w' S' β', SimD C V w0 S0 N (fun y => (y < n ∨ ∃ j, listed.getD j false = true ∧ y = n + j) ∨ y = n + i) (updO t o.dst x) h' a' w' S' β' → wpAny C.P .any ops Q fuel (listed.setIfInBounds i true) a' w' := fun x h' e2 a' w' S' β' M' => by
      refine late_sound hC hb hQ fuel _ _ h' a' w' S' β' (by simp [hsz]) e2 ⟨M'.T, M'.H, M'.B, fun y l hy => ?_, M'.df, M'.sz, M'.G, M'.nw, M'.iv⟩
      have hset : ∀ j, (listed.setIfInBounds i true).getD j false = true ↔ listed.getD j false = true ∨ j = i := fun j => by
        by_cases hj : j = i
        · subst hj
          rw [Array.getD_eq_getD_getElem?, Array.getElem?_setIfInBounds_self_of_lt hil]; simp
        · rw [Array.getD_eq_getD_getElem?, Array.getElem?_setIfInBounds_ne (Ne.symm hj), ← Array.getD_eq_getD_getElem?]; simp [hj]
      rcases M'.dom y l hy with (h | ⟨j, hj, he⟩) | h
      · exact .inl h
      · exact .inr ⟨j, (hset j).2 (.inl hj), he⟩
      · exact .inr ⟨i, (hset i).2 (.inr rfl), h⟩
    unfold wpOp
    simp only [ho]
    cases hab : aboveB listed i with
    | true =>
      rw [hab] at h1
      obtain ⟨x, h', e1, e2⟩ := (step_inv (C := C.noH) h1).resolve_right fun ⟨_, f, args, Post, _, hH, _⟩ => hH
      exact step_sound (C := C.noH) hC.noH M.noH hs rfl e1 (slots_lt hb hmem) (fun i pol d _ hd => guard_lt hb i d hd) fun a' w' S' β' M' => next x h' e2 a' w' S' β' (SimD.ofNoH M')
    | false =>
      rw [hab] at h1
      rcases step_inv (C := C) h1 with ⟨x, h', e1, e2⟩ | ⟨hg, f, args, Post, hx, hH, hk⟩
      · exact step_sound hC M hs rfl e1 (slots_lt hb hmem) (fun i pol d _ hd => guard_lt hb i d hd) fun a' w' S' β' M' => next x h' e2 a' w' S' β' M'
      · have : Region.wanted o (yielded ops a.tmps) = true := by
          rcases hg with hg | ⟨i, pol, d, g1, g2, g3⟩
          · simp [Region.wanted, hg]
          · exact wanted_iff M rfl g1 g2 g3 (guard_lt hb i d g2)
        rw [if_pos this]
        refine .inl (hcall_sound hC M (fun y hy => ?_) hx hH (slots_lt hb hmem) fun x h' a' w' S' β' hP M' => next x h' (hk x h' hP) a' w' S' β' M')
        rcases hy with hy | ⟨j, hj, rfl⟩
        · omega
        · rcases Nat.lt_or_ge i j with q | q
          · exfalso
            have hjs : j < listed.size := by
              rcases Nat.lt_or_ge j listed.size with z | z
              · exact z
              · rw [Array.getD_eq_getD_getElem?, Array.getElem?_eq_none z] at hj; cases hj
            have : aboveB listed i = true := List.any_eq_true.2 ⟨j, List.mem_range.2 hjs, by rw [hj, Bool.and_true]; exact Nat.ble_eq_true_of_le q⟩
            rw [hab] at this; cases this
          · rcases Nat.lt_or_ge j i with z | z
            · omega
            · have : j = i := by omega
              subst this; rw [hni] at hj; cases hj
theorem code_sound (hC : CtxOk C) : ∀ (c : Code), codeOk N c = true → ∀ (st : ASt) (Q : AEx → ASt → Prop), codeA C (DCall C) c st Q → ∀ (a : Act) (w : World) (S : Nat → Prop) (β : Bt), SimD C V w0 S0 N (· < st.n) st.t st.h a w S β →
    c.wp C.P (Aft C V w0 S0 N Q) a w := by
  intro c
  induction c with
  | skip => intro _ st Q hq a w S β M; exact wp_skip ⟨.normal, st, S, β, rfl, hq, M⟩
  | label l => intro _ st Q hq a w S β M; exact wp_label ⟨.normal, st, S, β, rfl, hq, M⟩
  | exit id => intro _ st Q hq a w S β M; exact wp_exit ⟨.exit id, st, S, β, rfl, hq, M⟩
  | ret => intro _ st Q hq a w S β M; exact wp_ret ⟨.ret, st, S, β, rfl, hq, M⟩
  | region id ops dr =>
    intro hk st Q hq a w S β M
    simp only [codeOk, Bool.and_eq_true] at hk
    obtain ⟨t, h, n⟩ := st
    simp only [codeA] at hq
    cases dr with
    | false =>
      simp only [Bool.false_and] at hq
      replace hq := hq.resolve_right fun h => Bool.noConfusion h.1
      refine wp_region ?_
      have := seq_sound (Q := Aft C V w0 S0 N Q) (K := Q .normal) hC (ops := ops) rfl hk.1 ops.toList 0 t h a w S β rfl hq M (fun st' a' w' S' β' hk' M' => ⟨.normal, st', S', β', rfl, hk', M'⟩)
      rw [show List.range' 0 ops.toList.length = List.range ops.size by rw [List.range_eq_range', Array.length_toList]] at this
      exact this
    | true =>
      refine wp_region_any hC.mixed ?_
      simp only [Bool.true_and] at hq
      cases hl : lateR ops.toList with
      | true =>
        rw [hl] at hq
        rcases hq with hq | ⟨_, hq⟩
        rotate_left
        · exact draw2_sound (C := C.noH) (V := V) hC.noH (fun _ _ _ _ _ h => h) hk.1 hq (SimD.noH M) (fun st' a' w' S' β' hk' M' => ⟨.normal, st', S', β', rfl, hk', SimD.ofNoH M'⟩)
        have M' := M.drawn (w.drawn + 1)
        refine late_sound (C := C) (V := V) hC hk.1 (fun st' a' w' S' β' hk' M' => ⟨.normal, st', S', β', rfl, hk', M'⟩) ops.size _ t h a _ S β (by simp) hq ⟨M'.T, M'.H, M'.B, fun y l hy => .inl (M'.dom y l hy), M'.df, M'.sz, M'.G, M'.nw, M'.iv⟩
      | false =>
      rw [hl] at hq
      rcases hq with hq | ⟨_, hq⟩
      rotate_left
      · have M' := M.drawn (w.drawn + 1)
        exact late_sound (C := C) (V := V) hC hk.1 (fun st' a' w' S' β' hk' M' => ⟨.normal, st', S', β', rfl, hk', M'⟩) ops.size _ t h a _ S β (by simp) hq ⟨M'.T, M'.H, M'.B, fun y l hy => .inl (M'.dom y l hy), M'.df, M'.sz, M'.G, M'.nw, M'.iv⟩
      have hd : drawOk ops.toList = true := by simp only [lateR, Bool.or_eq_false_iff, Bool.not_eq_false'] at hl; exact hl.2
      exact draw_sound (C := C.noH) (V := V) hC.noH (fun _ _ _ _ _ h => h) hk.1 hd hq (SimD.noH M) (fun st' a' w' S' β' hk' M' => ⟨.normal, st', S', β', rfl, hk', SimD.ofNoH M'⟩)
  | seq x y ihx ihy =>
    intro hk st Q hq a w S β M
    simp only [codeOk, Bool.and_eq_true] at hk
    simp only [codeA] at hq
    rcases hq with hq | hq | hq
    · refine wp_seq (wp_mono (ihx hk.1 st _ hq a w S β M) ?_)
      rintro e a' w' ⟨e', st', S', β', rfl, h1, h2⟩
      cases e' with
      | normal => exact ihy hk.2 st' Q h1 a' w' S' β' h2
      | exit i => exact ⟨.exit i, st', S', β', rfl, h1, h2⟩
      | ret => exact ⟨.ret, st', S', β', rfl, h1, h2⟩
    · refine wp_seq (wp_mono (ihx hk.1 st _ hq a w S β M) ?_)
      rintro e a' w' ⟨e', st', S', β', rfl, h1, h2⟩
      cases e' with
      | normal =>
        obtain ⟨st2, g1, g2⟩ := h1
        obtain ⟨S2, h3⟩ := ghosts_sound g1 h2
        exact ihy hk.2 st2 Q g2 a' w' S2 β' h3
      | exit i => exact ⟨.exit i, st', S', β', rfl, h1, h2⟩
      | ret => exact ⟨.ret, st', S', β', rfl, h1, h2⟩
    · refine wp_seq (wp_mono (ihx hk.1 st _ hq a w S β M) ?_)
      rintro e a' w' ⟨e', st', S', β', rfl, h1, h2⟩
      cases e' with
      | normal =>
        obtain ⟨st2, g1, st3, σ, hW, hf, g2⟩ := h1
        obtain ⟨S2, h3⟩ := ghosts_sound g1 h2
        exact ihy hk.2 st3 Q g2 a' w' S2 _ (weak_sound hW hf h3)
      | exit i => exact ⟨.exit i, st', S', β', rfl, h1, h2⟩
      | ret => exact ⟨.ret, st', S', β', rfl, h1, h2⟩
  | cond c x y ihx ihy =>
    intro hk st Q hq a w S β M
    simp only [codeOk, Bool.and_eq_true] at hk
    simp only [codeA] at hq
    split at hq
    · rename_i b hb
      obtain ⟨h1, h2⟩ := hq
      have hv := ev_rep M c
      rw [hb] at hv
      refine wp_cond_split (rep_v hv) (fun ht => ihx hk.1 st Q (h1 ht) a w S β M) (fun hf => ihy hk.2 st Q (h2 hf) a w S β M)
    · exact hq.elim
  | block id b ih =>
    intro hk st Q hq a w S β M
    simp only [codeOk] at hk
    simp only [codeA] at hq
    refine wp_block (wp_mono (ih hk st _ hq a w S β M) ?_)
    rintro e a' w' ⟨e', st', S', β', rfl, h1, h2⟩
    cases e' with
    | normal => exact ⟨.normal, st', S', β', rfl, h1, h2⟩
    | ret => exact ⟨.ret, st', S', β', rfl, h1, h2⟩
    | exit i =>
      show Exit.inBlock id _ (.exit i) a' w'
      simp only at h1
      simp only [Exit.inBlock]
      by_cases hi : i = id
      · subst hi
        rw [if_pos rfl]
        rw [show Nat.beq i i = true from Nat.beq_refl i] at h1
        exact ⟨.normal, st', S', β', rfl, h1, h2⟩
      · rw [if_neg hi]
        have : Nat.beq i id = false := by rw [← Bool.not_eq_true]; exact fun e => hi (Nat.eq_of_beq_eq_true e)
        rw [this] at h1
        exact ⟨.exit i, st', S', β', rfl, h1, h2⟩
  | loop b ih =>
    intro hk st Q hq a w S β M
    simp only [codeOk] at hk
    simp only [codeA] at hq
    obtain ⟨I, μ, st0, σ, hw, hf0, h0, round⟩ := hq
    have key : ∀ (m : Nat) (st : ASt) (a : Act) (w : World) (S : Nat → Prop) (β : Bt), μ st = m → I st → SimD C V w0 S0 N (· < st.n) st.t st.h a w S β → ∀ (fb : Frame) (k : List Item) (cs : List Frame),
        ∃ e a' w', Aft C V w0 S0 N Q e a' w' ∧ Arrives C.P (lone (fb.at a (.code b :: .inLoop b :: k)) cs w) fb k cs e a' w' := by
      intro m
      induction m using Nat.strongRecOn with
      | _ m ihm =>
        intro st a w S β hm hI M fb k cs
        obtain ⟨e, a₁, w₁, hq, harr⟩ := ih hk st _ (round st hI) a w S β M fb (.inLoop b :: k) cs
        obtain ⟨e', st1, S1, β1, rfl, hq1, M1⟩ := hq
        cases e' with
        | normal =>
          obtain ⟨stg, g1, stw, σ', W, hf1, hIw, hlt⟩ := hq1
          obtain ⟨S1, M1⟩ := ghosts_sound g1 M1
          obtain ⟨e₂, a₂, w₂, hq₂, harr₂⟩ := ihm (μ stw) (hm ▸ hlt) stw a₁ w₁ S1 _ rfl hIw (weak_sound W hf1 M1) fb k cs
          exact ⟨e₂, a₂, w₂, hq₂, .of_steps (Steps.trans harr (.one step_inLoop)) harr₂⟩
        | exit id => exact ⟨_, a₁, w₁, ⟨.exit id, st1, S1, β1, rfl, hq1, M1⟩, .pass (x := .inLoop b) rfl (fun _ _ => .inl (by simp [toExit])) harr⟩
        | ret => exact ⟨_, a₁, w₁, ⟨.ret, st1, S1, β1, rfl, hq1, M1⟩, .pass (x := .inLoop b) rfl (fun _ _ => .inl (by simp [toExit])) harr⟩
    intro fb k cs
    obtain ⟨e, a', w', hq, harr⟩ := key _ st0 a w S _ rfl h0 (weak_sound hw hf0 M) fb k cs
    exact ⟨e, a', w', hq, .of_steps (.one step_loop) harr⟩
  | _ => intro _ st Q hq; exact hq.elim
def Sub (a b : AV) : Prop := ∀ (S : Nat → Prop) (w : World) (v : Value), Rep S w noB a v → Rep S w noB b v
theorem Sub.refl (a : AV) : Sub a a := fun _ _ _ h => h
def RetA (C : Ctx) (fn : Func) (r : AV) (st : ASt) : Prop :=
  ∃ rs, resA C st fn.results.toList = some rs ∧ lenOkA st.h (retA rs) ∧ closedA (datA st.h (retA rs)) = true ∧ Sub (datA st.h (retA rs)) r
def Fin (C : Ctx) (fn : Func) (r : AV) : AEx → ASt → Prop
  | .exit _, _ => False
  | _, st => RetA C fn r st
def resF (tmps : Array Value) : ResultVar → Sem Value
  | .tmp t => pure (tmps.getD t undef)
  | .cell a t => do loadVar t (← asAddr (tmps.getD a undef))
theorem results_eq (fn : Func) (tmps : Array Value) : results fn tmps = (do let vs ← fn.results.mapM (resF tmps); pure (if h : vs.size = 1 then vs[0] else .tuple vs)) := rfl
theorem run_results {P : Program} {w : World} {tmps : Array Value} (l : List ResultVar) (vs : List Value) (h : (l.mapM (resF tmps)).run P w = .ok vs w) (fn : Func) (hl : fn.results.toList = l) :
    (results fn tmps).run P w = .ok (if h : vs.toArray.size = 1 then vs.toArray[0] else .tuple vs.toArray) w := by
  rw [results_eq, Array.mapM_eq_mapM_toList, hl]
  simp only [Sem.run_bind, map_eq_pure_bind, Sem.run_pure]
  rw [h]
  simp only [Result.andThen_ok, Sem.run_pure]
theorem res_ok (hC : CtxOk C) {t : Nat → AV} {h : AH} {n : Nat} {a : Act} {w : World} {D : Nat → Prop} {S : Nat → Prop} {β : Bt} (M : SimD C V w0 S0 N D t h a w S β) : ∀ (l : List ResultVar) (rs : List AV), resA C ⟨t, h, n⟩ l = some rs →
    ∃ vs, (l.mapM (resF a.tmps)).run C.P w = .ok vs w ∧ RepL S w β rs vs
  | [], rs, hr => by simp only [resA] at hr; injection hr with hr; subst hr; exact ⟨[], rfl, RepL.nil _ _ _⟩
  | .tmp i :: l, rs, hr => by
    simp only [resA] at hr
    split at hr
    · rename_i r hl
      injection hr with hr; subst hr
      obtain ⟨vs, h1, h2⟩ := res_ok hC M l r hl
      exact ⟨a.tmps.getD i undef :: vs, by simp only [List.mapM_cons, Sem.run_bind, resF, Sem.run_pure, Result.andThen_ok, h1], RepL.cons (M.T i) h2⟩
    · cases hr
  | .cell c ty :: l, rs, hr => by
    simp only [resA] at hr
    split at hr
    · rename_i b col r hp hl
      split at hr
      · rename_i cells hb
        split at hr
        · rename_i x hx
          injection hr with hr; subst hr
          obtain ⟨vs, h1, h2⟩ := res_ok hC M l r hl
          obtain ⟨lo, cs, e, fr, k1, k2, k3⟩ := own_box M.H hb
          have hT := M.T c
          rw [hp] at hT
          generalize hv : a.tmps.getD c undef = v at hT
          cases hT with
          | ptr _ _ l' hl' =>
          obtain rfl : l' = lo := by rw [hl'] at k1; exact Option.some.inj k1
          obtain ⟨u, p1, p2⟩ := load_row hC k3 rfl hx
          exact ⟨u :: vs, by simp only [List.mapM_cons, Sem.run_bind, resF, hv, asAddr, Sem.run_pure, Result.andThen_ok, p1, h1], RepL.cons p2 h2⟩
        · cases hr
      · cases hr
    · cases hr
theorem argsT_get : ∀ (args : List AV) (i : Nat), argsT args i = (args[i]?).getD .any
  | [], i => by simp [argsT]
  | x :: xs, 0 => by simp [argsT]
  | x :: xs, i + 1 => by simp [argsT, argsT_get xs i]
theorem DCall.intro (hC : CtxOk C) {f : FuncId} {fn : Func} {body : Code} {args : List AV} {r : AV} (hf : C.P.funcs[f]? = some fn) (hb : fn.body = some body) (hnm : (fn.name == "runtime.NumGoroutine") = false)
    (hN : codeOk fn.ntmps body = true) (hlen : Nat.ble args.length fn.ntmps = true) (hw : codeA C (DCall C) body ⟨argsT args, fun _ => none, 0⟩ (Fin C fn r)) (hdf : C.df = [] := by rfl) : DCall C f args r := by
  refine ⟨⟨fn, hf, by rw [hb]; rfl, hnm⟩, fun S w vs hS hG hargs => ?_⟩
  have hlen := Nat.le_of_ble_eq_true hlen
  refine calls_of_wp hf hb ?_
  have M0 : SimD C (Inv.any C.fr) w S fn.ntmps (· < (0 : Nat)) (argsT args) (fun _ => none) { tmps := vs.toArray ++ Array.replicate (fn.ntmps - vs.toArray.size) undef, defers := [] } w S noB := by
    have hl : vs.length = args.length := hargs.1.symm
    refine ⟨fun i => ?_, ⟨fun s blk h => (by cases h), fun s s' l l' h => absurd rfl h, hS, Nat.le_refl _⟩, Below.refl _ _, fun x l h => (by cases h), hdf.symm, by simp; omega, hG, fun _ h => .inl h, trivial⟩
    rw [argsT_get]
    cases ha : args[i]? with
    | none => exact .any _
    | some x =>
      have hi : i < vs.length := by rw [hl]; exact (List.getElem?_eq_some_iff.1 ha).1
      have hv : vs[i]? = some vs[i] := List.getElem?_eq_getElem hi
      have : (vs.toArray ++ Array.replicate (fn.ntmps - vs.toArray.size) undef).getD i undef = vs[i] := by
        rw [Array.getD_eq_getD_getElem?, Array.getElem?_append_left (by simpa using hi), List.getElem?_toArray, hv]; rfl
      rw [this]
      exact hargs.2 i x _ ha hv
  refine wp_mono (code_sound hC body hN ⟨argsT args, fun _ => none, 0⟩ _ hw _ w S noB M0) ?_
  rintro e a' w' ⟨e', st, S', β', rfl, hfin, M⟩
  have fin : RetA C fn r st → a'.defers = [] ∧ ∃ v, (results fn a'.tmps).run C.P w' = .ok v w' ∧ ∃ v', Ending.returned v = .returned v' ∧ Below w.heap.size w w' ∧ Rep (fun b => S b ∨ (w.heap.size ≤ b ∧ b < w'.heap.size)) w' noB r v' := by
    rintro ⟨rs, h1, h2, h3, h4⟩
    obtain ⟨t, h, n⟩ := st
    obtain ⟨us, g1, g2⟩ := res_ok hC M _ rs h1
    refine ⟨M.df.trans hdf, _, run_results _ us g1 fn rfl, _, rfl, M.B, ?_⟩
    have hret : Rep S' w' β' (retA rs) (if h : us.toArray.size = 1 then us.toArray[0] else .tuple us.toArray) := by
      match rs, us, g2 with
      | [], us, g2 =>
        have : us = [] := List.eq_nil_of_length_eq_zero g2.1.symm
        subst this
        exact .tup [] #[] rfl fun i a u p => by simp at p
      | [x], us, g2 =>
        match us, g2 with
        | [u], g2 => simpa [retA] using g2.2 0 x u rfl rfl
        | [], g2 => exact absurd g2.1 (by simp)
        | _ :: _ :: _, g2 => exact absurd g2.1 (by simp)
      | x :: y :: zs, us, g2 =>
        have hne : ¬ us.toArray.size = 1 := by
          have := g2.1
          simp at this ⊢
          omega
        rw [dif_neg hne]
        exact .tup _ _ (by simpa using g2.1) fun i a u p q => g2.2 i a u p (by simpa using q)
    have hd := datA_rep M.H hret h2
    refine h4 _ _ _ ?_
    exact (closed_rep hd h3 noB).mono (fun b hb => hb.elim (fun hb => (M.nw b hb).imp id fun h => ⟨h, M.H.lt b hb⟩) .inr) (Evo.refl _ _) (BtLe.refl _)
  cases e' with
  | normal => exact fin hfin
  | ret => exact fin hfin
  | exit i => exact hfin.elim
end
inductive TT where
  | leaf (k : Nat) (i : TI)
  | node (k : Nat) (l r : TT)
def TT.find : TT → Nat → Option TI
  | .leaf k i, t => match Nat.beq t k with | true => some i | false => none
  | .node k l r, t => match Nat.blt t k with | true => l.find t | false => r.find t
def AllTy (P : Program) : TT → Prop
  | .leaf k i => TyOk P k i
  | .node _ l r => AllTy P l ∧ AllTy P r
theorem TT.find_ok {P : Program} : ∀ (T : TT), AllTy P T → ∀ t i, T.find t = some i → TyOk P t i
  | .leaf k i, h, t, i', hf => by
    simp only [TT.find] at hf
    split at hf
    · rename_i hb
      injection hf with hf; subst hf
      rw [Nat.eq_of_beq_eq_true hb]; exact h
    · cases hf
  | .node k l r, h, t, i, hf => by
    simp only [TT.find] at hf
    split at hf
    · exact TT.find_ok l h.1 t i hf
    · exact TT.find_ok r h.2 t i hf
def chkTy (P : Program) (inf : TypeInfo) (z : Value) (i : TI) : Bool :=
  inf.size == i.sz && inf.bytes == i.bytes && z.cells.size == i.sz && Nat.blt 0 i.sz && Nat.ble i.bytes 1000 && oneC z.cells.toList
theorem chkTy_ok {P : Program} {t : TypeId} {i : TI} {inf : TypeInfo} {z : Value} (h1 : P.info? t = some inf) (h2 : inf.zero = some z) (h3 : i.zero = absV z) (hc : chkTy P inf z i = true) {d : TypeDesc} (hd : P.underlying t = some d) (hrow : d.isRow = i.ag)
    (hk : match i.kd with
    | .bool => d = .bool
    | .int k => d = .int k
    | .string => d = .string
    | .slice e => d = .slice e
    | .array n e => d = .array n e
    | .struct fs => ∃ fields, d = .struct fields ∧ fields.toList.map (fun f => (f.offset, f.type)) = fs ∧ (fields.toList.all fun f => match P.info? f.type with | some i => !(i.size == 0) | none => false) = true
    | .pointer => ∃ e, d = .pointer e
    | _ => True) (he : i.eq ≠ [] → EqOk P t i.eq) : TyOk P t i := by
  simp only [chkTy, Bool.and_eq_true, beq_iff_eq] at hc
  obtain ⟨⟨⟨⟨⟨c1, c2⟩, c3⟩, c4⟩, c5⟩, c6⟩ := hc
  refine ⟨⟨inf, z, h1, c1, c2, h2, h3, c3, Nat.le_of_ble_eq_true c4, Nat.le_of_ble_eq_true c5⟩, fun inf' z' e1 e2 k u hu => ?_, ⟨d, hd, hrow⟩, ?_, he⟩
  · rw [h1] at e1; injection e1 with e1; subst e1
    rw [h2] at e2; injection e2 with e2; subst e2
    exact oneC_spec _ c6 k u (by simpa using hu)
  · cases hkd : i.kd <;> rw [hkd] at hk <;> simp only at hk ⊢ <;> first | (rw [hd, hk]; done) | (obtain ⟨e, rfl⟩ := hk; exact ⟨e, hd⟩) | trivial | skip
    obtain ⟨fields, rfl, g1, g2⟩ := hk
    refine ⟨fields, hd, g1, fun f hf => ?_⟩
    have := List.all_eq_true.1 g2 f hf
    split at this
    · rename_i inf' hi
      exact ⟨inf', hi, by simpa using this⟩
    · cases this
end Go.Proofs.YtpefnjbmbfdmmaaDoor
namespace Go.Proofs.YtpefnjbmbfdmmaaDoor
open Go.RowKit
end Go.Proofs.YtpefnjbmbfdmmaaDoor
namespace Go.Proofs.YtpefnjbmbfdmmaaDoor
open Go.RowKit
def slotsF : List (Nat × AV) → Nat → AV
  | [], _ => .any
  | (i, x) :: l, j => match Nat.beq i j with | true => x | false => slotsF l j
def heapF : List (Nat × Blk) → AH
  | [], _ => none
  | (i, x) :: l, j => match Nat.beq i j with | true => some x | false => heapF l j
def WT (st : ASt) (n : Nat) (σ : Nat → Nat) : List (Nat × AV) → Prop
  | [] => True
  | (i, x) :: l => (st.t i = mapA σ x ∧ belowA n x = true) ∧ WT st n σ l
def WH (st : ASt) (n : Nat) (σ : Nat → Nat) : List (Nat × Blk) → Prop
  | [] => True
  | (i, x) :: l => (Nat.blt i n = true ∧ st.h (σ i) = some (mapB σ x) ∧ belowB n x = true) ∧ WH st n σ l
def freshL (x : Nat) : List Nat → Bool
  | [] => true
  | y :: l => match Nat.beq x y with | true => false | false => freshL x l
def nodupL : List Nat → Bool
  | [] => true
  | x :: l => match freshL x l with | true => nodupL l | false => false
theorem freshL_not : ∀ (l : List Nat) (x : Nat), freshL x l = true → x ∉ l
  | [], _, _ => by simp
  | y :: l, x, h => by
    simp only [freshL] at h
    split at h
    · cases h
    · rename_i hb
      have : x ≠ y := fun e => by subst e; simp at hb
      simp [this, freshL_not l x h]
theorem nodupL_inj {σ : Nat → Nat} : ∀ (l : List Nat), nodupL (l.map σ) = true → ∀ a ∈ l, ∀ b ∈ l, σ a = σ b → a = b
  | [], _ => by simp
  | x :: l, h => by
    simp only [List.map_cons, nodupL] at h
    split at h
    · rename_i hf
      have hn := freshL_not _ _ hf
      have ih := nodupL_inj l h
      intro a ha b hb e
      rcases List.mem_cons.1 ha with rfl | ha
      · rcases List.mem_cons.1 hb with hb | hb
        · exact hb.symm
        · exact absurd (List.mem_map.2 ⟨b, hb, e.symm⟩) hn
      · rcases List.mem_cons.1 hb with hb | hb
        · exact absurd (List.mem_map.2 ⟨a, ha, e.trans (congrArg σ hb)⟩) hn
        · exact ih a ha b hb e
    · cases h
theorem Weak.of_lists {st : ASt} {l : List (Nat × AV)} {hp : List (Nat × Blk)} {n : Nat} (σ : Nat → Nat) (ht : WT st n σ l) (hh : WH st n σ hp) (hi : nodupL ((hp.map (·.1)).map σ) = true) : Weak st ⟨slotsF l, heapF hp, n⟩ σ := by
  have keyH : ∀ (hp : List (Nat × Blk)) s blk, heapF hp s = some blk → s ∈ hp.map (·.1) := by
    intro hp
    induction hp with
    | nil => intro s blk h; simp [heapF] at h
    | cons p hp ih =>
      obtain ⟨i, x⟩ := p
      intro s blk h
      simp only [heapF] at h
      split at h
      · rename_i hb
        simp [Nat.eq_of_beq_eq_true hb]
      · simp [ih s blk h]
  refine ⟨fun i => ?_, fun s blk hs => ?_, fun s s' h1 h2 e => ?_⟩
  · clear hh hi
    induction l with
    | nil => exact .inl rfl
    | cons p l ih =>
      obtain ⟨j, x⟩ := p
      obtain ⟨⟨h1, h2⟩, h3⟩ := ht
      show slotsF _ _ = _ ∨ (_ = mapA σ (slotsF _ _) ∧ belowA n (slotsF _ _) = true)
      simp only [slotsF]
      cases hb : Nat.beq j i with
      | true => exact .inr (by rw [← Nat.eq_of_beq_eq_true hb]; exact ⟨h1, h2⟩)
      | false => exact ih h3
  · clear ht hi
    induction hp with
    | nil => cases hs
    | cons p hp ih =>
      obtain ⟨j, x⟩ := p
      obtain ⟨⟨h1, h2, h3⟩, h4⟩ := hh
      change heapF _ _ = _ at hs
      simp only [heapF] at hs
      cases hb : Nat.beq j s with
      | true =>
        rw [hb] at hs
        injection hs with hs; subst hs
        rw [← Nat.eq_of_beq_eq_true hb]
        exact ⟨Nat.le_of_ble_eq_true h1, h2, h3⟩
      | false => rw [hb] at hs; exact ih h4 hs
  · cases e1 : heapF hp s with
    | none => exact absurd e1 h1
    | some b1 =>
      cases e2 : heapF hp s' with
      | none => exact absurd e2 h2
      | some b2 => exact nodupL_inj _ hi s (keyH hp s b1 e1) s' (keyH hp s' b2 e2) e
section
variable {C : Ctx} {V : Inv C.fr} {R : FuncId → List AV → AV → Prop}
theorem node_mono {h : AH} {s : Nat} {r : Res} {K K' : AV → AH → Prop} (hk : ∀ x h, K x h → K' x h) (hn : node C R h s r K) : node C R h s r K' := by
  cases r <;> simp only [node] at hn ⊢
  case ok => exact hk _ _ hn
  case need => exact .mk hn.1 (hk _ _ hn.2)
  case idx =>
    obtain ⟨row, hr, h1⟩ := hn
    refine .mk row hr ?_
    split
    · rename_i hx; rw [hx] at h1; exact hk _ _ h1
    · rename_i hx; rw [hx] at h1; exact h1.elim
  case fx => exact .mk hn.1 (hk _ _ hn.2)
  case idxfx =>
    obtain ⟨row, hr, h1⟩ := hn
    refine .mk row hr ?_
    split
    · rename_i hx; rw [hx] at h1; exact hk _ _ h1
    · rename_i hx; rw [hx] at h1; exact h1.elim
  case str => obtain ⟨l, h1, h2⟩ := hn; exact .mk l h1 (hk _ _ h2)
  case call =>
    rcases hn with hn | hn
    · obtain ⟨x, a, b, c, d, e⟩ := hn; exact .inl (.mk x a b c d (hk _ _ e))
    · obtain ⟨Post, a, b⟩ := hn; exact .inr (.mk Post a fun r h' hP => hk _ _ (b r h' hP))
theorem nodeG_mono {h : AH} {g : Bool} {r : Res} {K K' : AV → AH → Prop} (hk : ∀ x h, K x h → K' x h) (hn : nodeG C R h g r K) : nodeG C R h g r K' := by
  cases r <;> simp only [nodeG] at hn ⊢
  case ok => exact hk _ _ hn
  case need => exact .mk hn.1 (hk _ _ hn.2)
  case idx =>
    obtain ⟨row, hr, h1⟩ := hn
    refine .mk row hr ?_
    split
    · rename_i hx; rw [hx] at h1; exact hk _ _ h1
    · rename_i hx; rw [hx] at h1; exact h1.elim
  case str => obtain ⟨l, h1, h2⟩ := hn; exact .mk l h1 (hk _ _ h2)
  case call => obtain ⟨x, a, b, c, d, e⟩ := hn; exact .mk x a b c d (hk _ _ e)
theorem stepA_mono {all : List Oper} {o : Oper} {s : Nat} {t : Nat → AV} {h : AH} {K K' : AV → AH → Prop} (hk : ∀ x h, K x h → K' x h) (hn : stepA C R all o s t h K) : stepA C R all o s t h K' := by
  unfold stepA at hn ⊢
  split
  · rename_i hg; rw [hg] at hn; exact node_mono hk hn
  · rename_i i pol hg
    rw [hg] at hn
    simp only at hn
    split
    · rename_i hd; rw [hd] at hn; exact hn
    · rename_i d hd
      rw [hd] at hn
      simp only at hn
      split
      · rename_i hv; rw [hv] at hn; exact hn
      · rename_i g hv
        rw [hv] at hn
        simp only at hn
        split
        · rename_i hc; rw [hc] at hn; exact hn.imp (nodeG_mono hk) fun q => ⟨q.1, node_mono hk q.2⟩
        · rename_i c hc; rw [hc] at hn; exact .mk hn.1 (nodeG_mono hk hn.2)
theorem regA_mono {all : List Oper} {K K' : ASt → Prop} (hk : ∀ st, K st → K' st) : ∀ (l : List Oper) (j : Nat) (st : ASt), regA C R all l j st K → regA C R all l j st K'
  | [], _, _, h => hk _ h
  | _ :: l, j, _, h => stepA_mono (fun _ _ q => regA_mono hk l (j + 1) _ q) h
theorem forL_mono {α : Type} {P P' : α → Prop} (h : ∀ x, P x → P' x) : ∀ l, forL P l → forL P' l
  | [], _ => trivial
  | x :: l, k => ⟨h x k.1, forL_mono h l k.2⟩
theorem anyA_mono {ops : Array Oper} {K K' : ASt → Prop} (hk : ∀ st, K st → K' st) : ∀ (fuel : Nat) (listed : Array Bool) (st : ASt), anyA C R ops K fuel listed st → anyA C R ops K' fuel listed st
  | 0, _, _, h => ⟨h.1, hk _ h.2⟩
  | fuel + 1, listed, st, h => ⟨h.1, forL_mono (fun i q => by
      unfold aOne at q ⊢
      split
      · rename_i o ho
        rw [ho] at q
        exact stepA_mono (fun _ _ q => anyA_mono hk fuel _ _ q) q
      · rename_i ho
        rw [ho] at q
        exact q) _ h.2⟩
theorem codeA_mono : ∀ (c : Code) (st : ASt) (Q Q' : AEx → ASt → Prop), (∀ e st, Q e st → Q' e st) → codeA C R c st Q → codeA C R c st Q'
  | .skip, _, _, _, hq, h => hq _ _ h
  | .label _, _, _, _, hq, h => hq _ _ h
  | .region _ ops dr, _, _, _, hq, h => by
    simp only [codeA] at h ⊢
    split
    · rename_i hb; rw [hb] at h; exact h.elim (fun h => .inl (anyA_mono (fun st q => hq _ st q) _ _ _ h)) fun h => .inr ⟨h.1, regA_mono (fun st q => ⟨q.1, hq _ st q.2⟩) _ _ _ h.2⟩
    · rename_i hb; rw [hb] at h; exact h.imp (fun h => regA_mono (fun st q => hq _ st q) _ _ _ h) fun h => ⟨h.1, anyA_mono (fun st q => hq _ st q) _ _ _ h.2⟩
  | .seq a b, st, Q, Q', hq, h => h.imp
    (fun h => codeA_mono a st _ _ (fun e st' k => by
      cases e with
      | normal => exact codeA_mono b st' Q Q' hq k
      | exit i => exact hq _ _ k
      | ret => exact hq _ _ k) h)
    (fun h => h.imp (fun h => codeA_mono a st _ _ (fun e st' k => by
      cases e with
      | normal => obtain ⟨st2, g, k⟩ := k; exact .mk st2 g (codeA_mono b st2 Q Q' hq k)
      | exit i => exact hq _ _ k
      | ret => exact hq _ _ k) h)
      (fun h => codeA_mono a st _ _ (fun e st' k => by
      cases e with
      | normal => obtain ⟨st2, g, st3, σ, h1, h2, k⟩ := k; exact .mk st2 g (.mk st3 σ h1 h2 (codeA_mono b st3 Q Q' hq k))
      | exit i => exact hq _ _ k
      | ret => exact hq _ _ k) h))
  | .cond c x y, st, Q, Q', hq, h => by
    simp only [codeA] at h ⊢
    split
    · rename_i b hv
      rw [hv] at h
      obtain ⟨h1, h2⟩ := h
      exact .mk (fun e => codeA_mono x st Q Q' hq (h1 e)) (fun e => codeA_mono y st Q Q' hq (h2 e))
    · rename_i hv
      split at h
      · rename_i b hv'; exact absurd hv' (hv b)
      · exact h
  | .block id b, st, Q, Q', hq, h => codeA_mono b st _ _ (fun e st' k => by
      cases e with
      | normal => exact hq _ _ k
      | exit i =>
        simp only at k ⊢
        split
        · rename_i hb; rw [hb] at k; exact hq _ _ k
        · rename_i hb; rw [hb] at k; exact hq _ _ k
      | ret => exact hq _ _ k) h
  | .loop b, st, Q, Q', hq, h => by
    obtain ⟨I, μ, st0, σ, hw, hf, h0, round⟩ := h
    exact .mk I μ st0 σ hw hf h0 fun st' hi => codeA_mono b st' _ _ (fun e st'' k => by
      cases e with
      | normal => exact k
      | exit i => exact hq _ _ k
      | ret => exact hq _ _ k) (round st' hi)
  | .exit id, _, _, _, hq, h => hq _ _ h
  | .ret, _, _, _, hq, h => hq _ _ h
end
theorem cLoopK {C : Ctx} {R : FuncId → List AV → AV → Prop} {b : Code} {st : ASt} {Q : AEx → ASt → Prop} {κ : Type} (S : κ → ASt) (G : κ → Prop) (μ : κ → Nat) (k0 : κ) (σ : Nat → Nat) (hw : Weak st (S k0) σ) (hf : keepB C.fr σ (S k0).n = true) (h0 : G k0)
    (round : ∀ k, G k → codeA C R b (S k) (fun e st' => match e with | .normal => GhostN st' (fun stg => ∃ k' σ, Weak stg (S k') σ ∧ keepB C.fr σ (S k').n = true ∧ G k' ∧ μ k' < μ k) | e => Q e st')) : codeA C R (.loop b) st Q := by
  show LoopN C.fr (codeA C R b) st Q
  classical
  have least : ∀ (st : ASt) (n : Nat) (k : κ), G k → st = S k → μ k ≤ n → ∃ k, G k ∧ st = S k ∧ ∀ k', G k' → st = S k' → μ k ≤ μ k' := by
    intro st n
    induction n with
    | zero => intro k h1 h2 h3; exact ⟨k, h1, h2, fun k' _ _ => by omega⟩
    | succ n ih =>
      intro k h1 h2 h3
      by_cases hc : ∃ k', G k' ∧ st = S k' ∧ μ k' ≤ n
      · obtain ⟨k', p, q, r⟩ := hc; exact ih k' p q r
      · exact ⟨k, h1, h2, fun k' p q => Nat.le_of_lt_succ (Nat.lt_succ_of_le (Nat.le_trans h3 (Nat.lt_of_not_le fun r => hc ⟨k', p, q, r⟩)))⟩
  have hl : ∀ st : ASt, (∃ k, G k ∧ st = S k) → ∃ k, G k ∧ st = S k ∧ ∀ k', G k' → st = S k' → μ k ≤ μ k' := fun st ⟨k, p, q⟩ => least st (μ k) k p q (Nat.le_refl _)
  let M : ASt → Nat := fun st => open Classical in if h : ∃ k, G k ∧ st = S k then μ (Classical.choose (hl st h)) else 0
  have hM : ∀ st k, G k → st = S k → M st ≤ μ k := by
    intro st k p q
    have h : ∃ k, G k ∧ st = S k := ⟨k, p, q⟩
    show dite _ _ _ ≤ _
    rw [dif_pos h]
    exact (Classical.choose_spec (hl st h)).2.2 k p q
  refine .mk (fun st => ∃ k, G k ∧ st = S k) M (S k0) σ hw hf ⟨k0, h0, rfl⟩ ?_
  rintro st' h
  have e : M st' = μ (Classical.choose (hl st' h)) := dif_pos h
  obtain ⟨p, q, r⟩ := Classical.choose_spec (hl st' h)
  generalize Classical.choose (hl st' h) = k at e p q r
  subst q
  have := round k p
  refine codeA_mono b _ _ _ (fun e' st'' hq => ?_) this
  cases e' with
  | normal =>
    obtain ⟨stg, g, k', σ', h1, hf', h2, h3⟩ := hq
    exact .mk stg g ⟨S k', σ', h1, hf', ⟨k', h2, rfl⟩, by rw [e]; exact Nat.lt_of_le_of_lt (hM _ k' h2 rfl) h3⟩
  | exit i => exact hq
  | ret => exact hq
theorem cLoop {C : Ctx} {R : FuncId → List AV → AV → Prop} {b : Code} {st : ASt} {Q : AEx → ASt → Prop} {κ : Type} (S : κ → ASt) (G : κ → Prop) (μ : κ → Nat) (k0 : κ) (σ : Nat → Nat) (hw : Weak st (S k0) σ) (h0 : G k0)
    (round : ∀ k, G k → codeA C R b (S k) (fun e st' => match e with | .normal => ∃ k' σ, Weak st' (S k') σ ∧ G k' ∧ μ k' < μ k | e => Q e st')) (hfr : C.fr = 0 := by rfl) : codeA C R (.loop b) st Q := by
  refine cLoopK S G μ k0 σ hw (by rw [hfr]; rfl) h0 fun k hk => codeA_mono b _ _ _ (fun e st' q => ?_) (round k hk)
  cases e with
  | normal => obtain ⟨k', σ', h1, h2, h3⟩ := q; exact .mk st' (.refl _) ⟨k', σ', h1, by rw [hfr]; rfl, h2, h3⟩
  | exit i => exact q
  | ret => exact q
def valC : List AV → Option (List Value)
  | [] => some []
  | .v x :: cs => match valC cs with | some l => some (x :: l) | none => none
  | _ :: _ => none
def valF : AV → Option Value
  | .v x => some x
  | .agg cs => match valC cs with | some l => (match oneC l with | true => some (.agg l.toArray) | false => none) | none => none
  | _ => none
def valL : List AV → Option (List Value)
  | [] => some []
  | x :: cs => match valF x, valL cs with | some u, some l => some (u :: l) | _, _ => none
theorem valC_get : ∀ (cs : List AV) (l : List Value), valC cs = some l → cs = l.map .v
  | [], l, h => by injection h with h; subst h; rfl
  | c :: cs, l, h => by
    cases c <;> simp only [valC] at h <;> try (cases h; done)
    split at h
    · rename_i l' hl
      injection h with h; subst h
      rw [valC_get cs l' hl]; rfl
    · cases h
section
variable {S : Nat → Prop} {w : World} {β : Bt}
theorem valF_rep {a : AV} {u : Value} (h : valF a = some u) : Rep S w β a u := by
  cases a <;> simp only [valF] at h <;> try (cases h; done)
  case v x => injection h with h; subst h; exact .v _
  case agg cs =>
    split at h
    · rename_i l hl
      split at h
      · rename_i ho
        injection h with h; subst h
        have := valC_get cs l hl; subst this
        refine .agg _ _ (by simp) (fun i u hu => oneC_spec _ ho i u (by simpa using hu)) fun i a u h1 h2 => ?_
        have h2' : l[i]? = some u := by simpa using h2
        simp [h2'] at h1
        subst h1; exact .v _
      · cases h
    · cases h
theorem valF_eq {a : AV} {u v : Value} (h : valF a = some u) (hr : Rep S w β a v) : v = u := by
  cases a <;> simp only [valF] at h <;> try (cases h; done)
  case v x => injection h with h; subst h; cases hr; rfl
  case agg cs =>
    split at h
    · rename_i l hl
      split at h
      · injection h with h; subst h
        have := valC_get cs l hl; subst this
        cases hr with
        | agg _ vs hl1 h1 hh =>
          congr 1
          apply Array.ext
          · simpa using hl1.symm
          · intro i p q
            have p1 : vs[i]? = some vs[i] := Array.getElem?_eq_getElem p
            have q1 : i < l.length := by simpa using q
            have := hh i (.v l[i]) vs[i] (by simp [q1]) p1
            have := rep_v this
            rw [this]; simp
      · cases h
    · cases h
theorem valL_len : ∀ {args : List AV} {vs : List Value}, valL args = some vs → args.length = vs.length
  | [], vs, h => by injection h with h; subst h; rfl
  | x :: args, vs, h => by
    simp only [valL] at h
    split at h
    · rename_i u l h1 h2
      injection h with h; subst h
      simp [valL_len h2]
    · cases h
theorem valL_get : ∀ {args : List AV} {vs : List Value}, valL args = some vs → ∀ (i : Nat) a u, args[i]? = some a → vs[i]? = some u → valF a = some u
  | [], vs, h, i, a, u, h1, _ => by simp at h1
  | x :: args, vs, h, i, a, u, h1, h2 => by
    simp only [valL] at h
    split at h
    · rename_i u' l g1 g2
      injection h with h; subst h
      cases i with
      | zero => simp at h1 h2; subst h1; subst h2; exact g1
      | succ i => exact valL_get g2 i a u (by simpa using h1) (by simpa using h2)
    · cases h
theorem valL_rep {args : List AV} {vs : List Value} (h : valL args = some vs) : RepL S w β args vs :=
  ⟨valL_len h, fun i a u h1 h2 => valF_rep (valL_get h i a u h1 h2)⟩
theorem valL_eq {args : List AV} {vs us : List Value} (h : valL args = some vs) (hr : RepL S w β args us) : us = vs := by
  apply List.ext_getElem?
  intro i
  have l1 := valL_len h
  have l2 : args.length = us.length := hr.1
  rcases Nat.lt_or_ge i args.length with k | k
  · have e1 : args[i]? = some args[i] := List.getElem?_eq_getElem k
    have e2 : us[i]? = some us[i] := List.getElem?_eq_getElem (by omega)
    have e3 : vs[i]? = some vs[i] := List.getElem?_eq_getElem (by omega)
    rw [e2, e3, valF_eq (valL_get h i _ _ e1 e3) (hr.2 i _ _ e1 e2)]
  · rw [List.getElem?_eq_none (by omega), List.getElem?_eq_none (by omega)]
end
theorem okB {a b : Bool} (h : a = b) : Res.ok (.v (.bool a)) = .ok (.v (.bool b)) := by rw [h]
theorem okI {k : IntKind} {a b : Int} (h : a = b) : Res.ok (.v (.int k a)) = .ok (.v (.int k b)) := by rw [h]
theorem needI {p : Prop} {k : IntKind} {a b : Int} (h : a = b) : Res.need p (.v (.int k a)) = .need p (.v (.int k b)) := by rw [h]
theorem eqN (x y : Nat) : ((x : Int) == (y : Int)) = (x == y) := by rw [Bool.eq_iff_iff]; simp only [beq_iff_eq]; omega
theorem neN (x y : Nat) : ((x : Int) != (y : Int)) = (x != y) := by simp only [bne, eqN]
theorem ltN (x y : Nat) : decide ((x : Int) < (y : Int)) = decide (x < y) := by simp only [Int.ofNat_lt]
theorem leN (x y : Nat) : decide ((x : Int) ≤ (y : Int)) = decide (x ≤ y) := by simp only [Int.ofNat_le]
theorem gtN (x y : Nat) : decide ((x : Int) > (y : Int)) = decide (x > y) := ltN y x
theorem geN (x y : Nat) : decide ((x : Int) ≥ (y : Int)) = decide (x ≥ y) := leN y x
theorem modI {e B M : Nat} (h : e ≤ B) (hB : Nat.blt B M = true) : ((e % M : Nat) : Int) = ((e : Nat) : Int) := by
  have := Nat.le_of_ble_eq_true hB
  rw [Nat.mod_eq_of_lt (by omega)]
theorem wrap_i64 {x : Int} (h1 : -9223372036854775808 ≤ x) (h2 : x < 9223372036854775808) : IntKind.wrap .i64 x = x := by
  simp only [IntKind.wrap, IntKind.signed, IntKind.bits]
  simp
  omega
theorem wrapI64 {e B : Nat} (h : e ≤ B) (hB : Nat.blt B 9223372036854775808 = true) : IntKind.wrap .i64 ((e : Nat) : Int) = ((e : Nat) : Int) := by
  have := Nat.le_of_ble_eq_true hB
  exact wrap_i64 (by omega) (by omega)
theorem shr_nat {x n : Nat} (c : Nat) (h : x < 2 ^ n) : Int.fdiv (x : Int) (2 ^ (min c n)) = ((x / 2 ^ c : Nat) : Int) := by
  have e : ((2 : Int) ^ (min c n)) = ((2 ^ (min c n) : Nat) : Int) := by simp
  rw [e, Int.fdiv_eq_ediv_of_nonneg _ (Int.natCast_nonneg _), ← Int.natCast_ediv]
  rcases Nat.le_total c n with k | k
  · rw [Nat.min_eq_left k]
  · rw [Nat.min_eq_right k, Nat.div_eq_of_lt h, Nat.div_eq_of_lt (Nat.lt_of_lt_of_le h (Nat.pow_le_pow_right (by decide) k))]
theorem shrI32 {x B : Nat} (c : Nat) (h : x ≤ B) (hB : Nat.ble B 4294967295 = true) : Int.fdiv (x : Int) (2 ^ (min (Int.toNat (c : Int)) (IntKind.bits .u32))) = ((x / 2 ^ c : Nat) : Int) := by
  have := Nat.le_of_ble_eq_true hB
  rw [Int.toNat_natCast]
  exact shr_nat (n := 32) c (by omega)
theorem bv_nat {x B : Nat} (h : x ≤ B) (hB : Nat.ble B 4294967295 = true) : (BitVec.ofInt 32 (x : Int)).toNat = x := by
  have := Nat.le_of_ble_eq_true hB
  rw [BitVec.toNat_ofInt]; omega
theorem wrap32 {x : Nat} (h : x < 4294967296) : IntKind.wrap .u32 (x : Int) = (x : Int) := (modI (e := x) (B := x) (M := 4294967296) (Nat.le_refl _) (Nat.ble_eq_true_of_le h))
theorem andI32 {x y B D : Nat} (hx : x ≤ B) (hy : y ≤ D) (hB : Nat.ble B 4294967295 = true) (hD : Nat.ble D 4294967295 = true) :
    IntKind.wrap .u32 (BitVec.ofInt (IntKind.bits .u32) (x : Int) &&& BitVec.ofInt (IntKind.bits .u32) (y : Int)).toNat = ((x &&& y : Nat) : Int) := by
  show IntKind.wrap .u32 (BitVec.ofInt 32 (x : Int) &&& BitVec.ofInt 32 (y : Int)).toNat = _
  rw [BitVec.toNat_and, bv_nat hx hB, bv_nat hy hD]
  exact wrap32 (Nat.lt_of_le_of_lt Nat.and_le_left (Nat.lt_succ_of_le (Nat.le_trans hx (Nat.le_of_ble_eq_true hB))))
theorem orLe32 {x y B D : Nat} (hx : x ≤ B) (hy : y ≤ D) (hB : Nat.ble B 4294967295 = true) (hD : Nat.ble D 4294967295 = true) : x ||| y ≤ 4294967295 :=
  Nat.le_of_lt_succ (Nat.or_lt_two_pow (n := 32) (Nat.lt_succ_of_le (Nat.le_trans hx (Nat.le_of_ble_eq_true hB))) (Nat.lt_succ_of_le (Nat.le_trans hy (Nat.le_of_ble_eq_true hD))))
theorem orI32 {x y B D : Nat} (hx : x ≤ B) (hy : y ≤ D) (hB : Nat.ble B 4294967295 = true) (hD : Nat.ble D 4294967295 = true) :
    IntKind.wrap .u32 (BitVec.ofInt (IntKind.bits .u32) (x : Int) ||| BitVec.ofInt (IntKind.bits .u32) (y : Int)).toNat = ((x ||| y : Nat) : Int) := by
  show IntKind.wrap .u32 (BitVec.ofInt 32 (x : Int) ||| BitVec.ofInt 32 (y : Int)).toNat = _
  rw [BitVec.toNat_or, bv_nat hx hB, bv_nat hy hD]
  exact wrap32 (Nat.lt_succ_of_le (orLe32 hx hy hB hD))
theorem retA_eq {C : Ctx} {fn : Func} {r : AV} {st : ASt} {rs : List AV} (h1 : resA C st fn.results.toList = some rs) (h2 : lenOkA st.h (retA rs)) (h3 : closedA (datA st.h (retA rs)) = true) (h4 : datA st.h (retA rs) = r) : RetA C fn r st :=
  ⟨rs, h1, h2, h3, h4 ▸ Sub.refl _⟩
theorem DCall.of_flat {C : Ctx} {f : FuncId} {fn : Func} {args : List AV} {vs : List Value} {r : AV} {v : Value} (hf : C.P.funcs[f]? = some fn) (hb : fn.body.isSome = true) (hnm : (fn.name == "runtime.NumGoroutine") = false)
    (ha : valL args = some vs) (hr : valF r = some v) (hc : ∀ w, Calls C.P f vs.toArray w fun e w' => e = .returned v ∧ Below w.heap.size w w') : DCall C f args r :=
  ⟨⟨fn, hf, hb, hnm⟩, fun S w us hS hG hu => by
    rw [valL_eq ha hu]
    exact (hc w).mono fun e w' ⟨he, hB⟩ => ⟨v, he, hB, valF_rep hr⟩⟩
abbrev vU (n : Nat) : AV := .v (.int .u32 (n : Int))
abbrev vN (n : Nat) : AV := .v (.int .i64 (n : Int))
abbrev vI (n : Int) : AV := .v (.int .i64 n)
abbrev vB (b : Bool) : AV := .v (.bool b)
section
variable {C : Ctx} {R : FuncId → List AV → AV → Prop} {all rest : List Oper} {o : Oper} {j n : Nat} {t : Nat → AV} {h h' : AH} {K : ASt → Prop} {Q : AEx → ASt → Prop} {fn : Func} {st : ASt}
theorem rE (n' : Nat) (k : K ⟨t, h, n'⟩) (e : n + j = n' := by exact rfl) : regA C R all [] j ⟨t, h, n⟩ K := rEnd e k
theorem cR {id : Nat} {ops : Array Oper} {l : List Oper} {dr : Bool} {st : ASt} (k : regA (C.noHif dr) R l l 0 st (Q .normal)) (hl : ops.toList = l := by exact rfl) (hd : (dr && lateR l) = false := by kernel_rfl) : codeA C R (.region id ops dr) st Q := cReg hl k hd
end
theorem c2 (c x y : Bool) : cond2 c x y = (c && x || !c && y) := by cases c <;> simp [cond2]
def fA : AV → Option AV
  | .v x => some (.v x)
  | .agg cs => some (.agg cs)
  | .tup cs => some (.tup cs)
  | .sl a b c => some (.sl a b c)
  | .dp a b c => some (.dp a b c)
  | .ptr a b => some (.ptr a b)
  | .ptr2 a b c => some (.ptr2 a b c)
  | .osl a b c d => some (.osl a b c d)
  | .clo f a b => some (.clo f a b)
  | .opt g x => some (.opt g x)
  | .any => some .any
theorem fA_eq {x y : AV} (h : fA x = some y) : x = y := by cases x <;> cases h <;> rfl
def fNth : List AV → Nat → Option AV
  | [], _ => none
  | x :: _, 0 => fA x
  | _ :: xs, n + 1 => fNth xs n
theorem fNth_eq {l : List AV} {i : Nat} {y : AV} (h : fNth l i = some y) : nthO l i = some y := by
  induction l generalizing i with
  | nil => cases h
  | cons x l ih => cases i with
    | zero => exact congrArg some (fA_eq h)
    | succ i => exact ih h
def fTake : Nat → List AV → (List AV → Option AV) → Option AV
  | 0, _, k => k []
  | _ + 1, [], k => k []
  | n + 1, x :: xs, k => fTake n xs (fun l => k (x :: l))
theorem fTake_eq (n : Nat) (l : List AV) (k : List AV → Option AV) : fTake n l k = k (takeL n l) := by
  induction n generalizing l k with
  | zero => rfl
  | succ n ih => cases l with
    | nil => rfl
    | cons x l => exact ih l _
def sLoad (C : Ctx) (t : TypeId) (rs col : Nat) (row : List AV) : Option AV :=
  match C.ty t with
  | some ⟨_, sz, true, _, _, _⟩ =>
    match col, Nat.beq sz rs with
    | 0, true => some (.agg row)
    | _, _ => fTake sz (dropL col row) fun l => match Nat.beq l.length sz with | true => some (.agg l) | false => none
  | some ⟨_, _, false, _, _, _⟩ => fNth row col
  | none => none
theorem sLoad_eq {C : Ctx} {t : TypeId} {rs col : Nat} {row : List AV} {y : AV} (h : sLoad C t rs col row = some y) : loadA C t rs col row = some y := by
  unfold sLoad at h; unfold loadA
  cases ht : C.ty t with
  | none => rw [ht] at h; cases h
  | some ti =>
    obtain ⟨kd, sz, ag, z, b, eq⟩ := ti
    rw [ht] at h
    cases ag with
    | false => exact fNth_eq h
    | true =>
      cases col with
      | zero => cases hb : Nat.beq sz rs <;> (simp only [hb, fTake_eq] at h ⊢; exact h)
      | succ c => simp only [fTake_eq] at h ⊢; exact h
def sPart (C : Ctx) (t : TypeId) (cs : List AV) (off : Nat) : Option AV :=
  match C.ty t with
  | some ⟨_, sz, true, _, _, _⟩ => fTake sz (dropL off cs) fun l => some (.agg l)
  | some ⟨_, _, false, _, _, _⟩ => fNth cs off
  | none => none
theorem sPart_eq {C : Ctx} {t : TypeId} {cs : List AV} {off : Nat} {y : AV} (h : sPart C t cs off = some y) : partA C t cs off = some y := by
  unfold sPart at h; unfold partA
  cases ht : C.ty t with
  | none => rw [ht] at h; cases h
  | some ti =>
    obtain ⟨kd, sz, ag, z, b, eq⟩ := ti
    rw [ht] at h
    cases ag with
    | false => exact fNth_eq h
    | true => simp only [fTake_eq] at h ⊢; exact h
def sLoadAt (C : Ctx) (h : AH) (t : TypeId) (a : AV) : Option AV :=
  match a with
  | .ptr b c => match h b with | some (.box cells) => sLoad C t cells.length c cells | _ => none
  | .dp rs c row => sLoad C t rs c row
  | _ => none
def sField (C : Ctx) (t : TypeId) (f : Nat) (a : AV) : Option AV :=
  match C.ty t with
  | some ⟨.struct fs, _, _, _, _, _⟩ => match nthF fs f, a with | some (off, ft), .agg cs => sPart C ft cs off | _, _ => none
  | _ => none
def okF (r : Res) : Option AV := match r with | .ok x => fA x | _ => none
def sA (C : Ctx) (ev : Operand → AV) (h : AH) (op : Op) : Option AV :=
  match op with
  | .move x | .assign x => fA (ev x)
  | .load t a => sLoadAt C h t (ev a)
  | .nilCheck x => okF (nilA (ev x))
  | .fieldAddr t x f => okF (fieldAddrA C t f (ev x))
  | .field t x f => sField C t f (ev x)
  | .extract x i => match ev x with | .tup vs => fNth vs i | _ => none
  | .unOp .not _ x => match ev x with | .v (.bool b) => some (.v (.bool (!b))) | _ => none
  | _ => none
theorem okF_eq {r : Res} {x : AV} (h : okF r = some x) : r = .ok x := by
  unfold okF at h
  split at h
  · exact congrArg Res.ok (fA_eq h)
  · cases h
theorem sA_ok {C : Ctx} {ev : Operand → AV} {h : AH} {s : Nat} {op : Op} {x : AV} (e : sA C ev h op = some x) : opA C ev h s op = .ok x := by
  unfold sA at e
  split at e
  · exact congrArg Res.ok (fA_eq e)
  · exact congrArg Res.ok (fA_eq e)
  · rename_i t a
    show loadAtA C h t (ev a) = .ok x
    unfold sLoadAt at e; unfold loadAtA
    generalize ev a = z at e ⊢
    cases z with
    | ptr b c =>
      simp only at e ⊢
      split at e
      · rename_i h1; simp only [h1]; rw [sLoad_eq e]; rfl
      · cases e
    | dp rs c row => simp only at e ⊢; rw [sLoad_eq e]; rfl
    | _ => cases e
  · exact okF_eq e
  · exact okF_eq e
  · rename_i t y f
    show fieldA C t f (ev y) = .ok x
    unfold sField at e; unfold fieldA
    split at e
    · rename_i h1
      simp only [h1]
      split at e
      · rename_i h2 h3; simp only [h2, h3]; rw [sPart_eq e]; rfl
      · cases e
    · cases e
  · rename_i y i
    show extractA i (ev y) = .ok x
    unfold extractA
    split at e
    · rename_i h1; simp only [h1]; rw [fNth_eq e]; rfl
    · cases e
  · rename_i t y
    show unA .not (ev y) = .ok x
    split at e
    · rename_i h1; cases e; simp only [unA, h1]
    · cases e
  · cases e
def sO (C : Ctx) (t : Nat → AV) (h : AH) (o : Oper) : Option (Nat × AV) :=
  match o.guard, o.dst with
  | none, some d => (match sA C (evA C t) h o.op with | some x => some (d, x) | none => none)
  | _, _ => none
theorem sO_eq {C : Ctx} {t : Nat → AV} {h : AH} {o : Oper} {d : Nat} {x : AV} (e : sO C t h o = some (d, x)) : o.guard = none ∧ o.dst = some d ∧ sA C (evA C t) h o.op = some x := by
  unfold sO at e
  split at e
  · rename_i h1 h2
    split at e
    · rename_i h3; cases e; exact ⟨h1, h2, h3⟩
    · cases e
  · cases e
def sRun (C : Ctx) (h : AH) : Nat → List Oper → (Nat → AV) → Option (List Oper × (Nat → AV))
  | 0, ops, t => some (ops, t)
  | _ + 1, [], _ => none
  | m + 1, o :: ops, t => match sO C t h o with | some (d, x) => sRun C h m ops (upd t d x) | none => none
def guardF : AV → Bool → Option Bool
  | .v (.bool b), true => some b
  | .v (.bool b), false => some (!b)
  | .opt a (.v (.bool b)), true => some (a && b)
  | .opt a (.v (.bool b)), false => some (a && !b)
  | _, _ => none
theorem guardF_eq {x : AV} {pol g : Bool} (e : guardF x pol = some g) : guardA x pol = some g := by
  unfold guardF at e
  split at e <;> first | (cases e; rfl) | cases e
def sG (C : Ctx) (t : Nat → AV) (h : AH) (all : List Oper) (o : Oper) : Option (Nat × Bool × Option Bool × AV) :=
  match o.guard, o.dst with
  | some (i, pol), some d =>
    (match (all[i]?).bind (·.dst) with
    | some e => (match guardF (t e) pol, condsO t o.op with
      | some g, none => (match sA C (evA C t) h o.op with | some x => some (d, g, none, x) | none => none)
      | some g, some c => (match sA C (evS C t o.op) h o.op with | some x => some (d, g, some c, x) | none => none)
      | none, _ => none)
    | none => none)
  | _, _ => none
def sGd (t : Nat → AV) (all : List Oper) (o : Oper) : Option (Nat × Bool × Option Bool) :=
  match o.guard, o.dst with
  | some (i, pol), some d =>
    (match (all[i]?).bind (·.dst) with
    | some e => (match guardF (t e) pol, condsO t o.op with
      | some g, none => some (d, g, none)
      | some g, some c => some (d, g, some c)
      | none, _ => none)
    | none => none)
  | _, _ => none
def fPut : Nat → List AV → List AV → (List AV → Option AH) → Option AH
  | 0, [], xs, k => k xs
  | 0, c :: cs, _ :: xs, k => fPut 0 cs xs fun l => k (c :: l)
  | 0, _ :: _, [], k => k []
  | n + 1, cs, x :: xs, k => fPut n cs xs fun l => k (x :: l)
  | _ + 1, _, [], k => k []
theorem fPut_eq : ∀ (n : Nat) (cs xs : List AV) (k : List AV → Option AH), fPut n cs xs k = k (putL n cs xs)
  | 0, [], [], k => rfl
  | 0, [], _ :: _, k => rfl
  | 0, c :: cs, _ :: xs, k => fPut_eq 0 cs xs _
  | 0, _ :: _, [], k => rfl
  | n + 1, cs, x :: xs, k => fPut_eq n cs xs _
  | _ + 1, _, [], k => rfl
theorem putL_all : ∀ (cs xs : List AV), Nat.beq cs.length xs.length = true → putL 0 cs xs = cs
  | [], [], _ => rfl
  | [], _ :: _, h => by cases h
  | c :: cs, [], h => by cases h
  | c :: cs, x :: xs, h => congrArg (c :: ·) (putL_all cs xs h)
def sStA (C : Ctx) (h : AH) (ty : TypeId) (a x : AV) : Option AH :=
  match C.ty ty, cellsA x, a with
  | some ti, some cs, .ptr b c =>
    (match Nat.beq cs.length ti.sz, h b with
    | true, some (.box cells) => (match Nat.ble (c + cs.length) cells.length with
      | true => (match c, Nat.beq cs.length cells.length with
        | 0, true => some (upd h b (some (.box cs)))
        | c, _ => fPut c cs cells fun l => some (upd h b (some (.box l))))
      | false => none)
    | _, _ => none)
  | _, _, _ => none
def sSt (C : Ctx) (t : Nat → AV) (h : AH) (o : Oper) : Option AH :=
  match o.guard, o.dst, o.op with
  | none, none, .store ty a x => sStA C h ty (evA C t a) (evA C t x)
  | _, _, _ => none
def sAl (C : Ctx) (t : Nat → AV) (o : Oper) : Option (Nat × List AV) :=
  match o.guard, o.dst, o.op with
  | none, some d, .alloc ty => (match zeroCellsA C ty with | some cs => some (d, cs) | none => none)
  | none, some d, .box _ x => (match cellsA (evA C t x) with | some cs => some (d, cs) | none => none)
  | _, _, _ => none
def fL : List AV → (List AV → Option (Nat × FuncId × List AV)) → Option (Nat × FuncId × List AV)
  | [], k => k []
  | x :: xs, k => (match fA x with | some y => fL xs fun l => k (y :: l) | none => none)
theorem fL_eq : ∀ {l : List AV} {k : List AV → Option (Nat × FuncId × List AV)} {r : Nat × FuncId × List AV}, fL l k = some r → k l = some r
  | [], k, r, h => h
  | x :: xs, k, r, h => by
    simp only [fL] at h
    split at h
    · rename_i y hy
      rw [fA_eq hy]; exact fL_eq (k := fun l => k (y :: l)) h
    · cases h
def sC (C : Ctx) (t : Nat → AV) (o : Oper) : Option (Nat × FuncId × List AV) :=
  match o.guard, o.dst, o.op with
  | none, some d, .call c => (match c.callee with
    | .value f => (match evA C t f with
      | .clo f first caps => fL (first ++ c.args.toList.map (evA C t) ++ caps) fun l => some (d, f, l)
      | _ => none)
    | _ => none)
  | _, _, _ => none
theorem sC_eq {C : Ctx} {t : Nat → AV} {h : AH} {s : Nat} {o : Oper} {d : Nat} {f : FuncId} {args : List AV} (e : sC C t o = some (d, f, args)) : o.guard = none ∧ o.dst = some d ∧ opA C (evA C t) h s o.op = .call f args := by
  unfold sC at e
  split at e
  · rename_i d' c h1 h2 h3
    split at e
    · rename_i g hc
      split at e
      · rename_i f' first caps hf
        have := fL_eq e
        cases this
        refine ⟨h1, h2, ?_⟩
        rw [h3]; show (match c.callee with | .builtin b => _ | .value f => _ | _ => _) = _
        rw [hc]; simp only [hf]
      · cases e
    · cases e
  · cases e
theorem ixT {a b : Nat} (h : a < b := by first | omega | rfl | (simp only [List.length_map, List.length_cons, List.length_nil, List.length_append, List.length_set, List.length_take, List.length_drop, List.length_replicate, List.length_range, capMax]; done) | (simp only [List.length_map, List.length_cons, List.length_nil, List.length_append, List.length_set, List.length_take, List.length_drop, List.length_replicate, List.length_range, capMax]; omega) | (simp [capMax]; done) | (simp [capMax]; omega)) : 0 ≤ (a : Int) ∧ (a : Int) < (b : Int) := ⟨Int.natCast_nonneg _, Int.ofNat_lt.2 h⟩
theorem omT {p : Prop} (h : p := by first | omega | rfl | (simp only [List.length_map, List.length_cons, List.length_nil, List.length_append, List.length_set, List.length_take, List.length_drop, List.length_replicate, List.length_range, capMax]; done) | (simp only [List.length_map, List.length_cons, List.length_nil, List.length_append, List.length_set, List.length_take, List.length_drop, List.length_replicate, List.length_range, capMax]; omega) | (simp [capMax]; done) | (simp [capMax]; omega)) : p := h
theorem r4 {q : Prop} (h : q) : True ∧ True ∧ True ∧ True ∧ q := ⟨trivial, trivial, trivial, trivial, h⟩
theorem wT {p : Prop} (h : p := by repeat (first | exact trivial | refine ⟨⟨rfl, rfl⟩, ?_⟩)) : p := h
theorem wH {p : Prop} (h : p := by repeat (first | exact trivial | refine ⟨⟨rfl, rfl, rfl⟩, ?_⟩)) : p := h
section
variable {C : Ctx} {R : FuncId → List AV → AV → Prop} {all rest ops : List Oper} {o : Oper} {j n : Nat} {t t' : Nat → AV} {h h' : AH} {K : ASt → Prop} {Q : AEx → ASt → Prop} {fn : Func} {st : ASt} {x : AV} {d : Nat}
theorem oR (m : Nat) (hx : sRun C h m ops t = some (rest, t')) (k : regA C R all rest (j + m) ⟨t', h, n⟩ K) : regA C R all ops j ⟨t, h, n⟩ K := by
  induction m generalizing ops t j with
  | zero => cases hx; exact k
  | succ m ih =>
    cases ops with
    | nil => cases hx
    | cons o ops =>
      simp only [sRun] at hx
      split at hx
      · rename_i d x e
        obtain ⟨h1, h2, h3⟩ := sO_eq e
        exact rOk h1 h2 (sA_ok h3) (ih hx (by rw [Nat.add_assoc, Nat.add_comm 1]; exact k))
      · cases hx
theorem gN {g : Bool} (hx : sG C t h all o = some (d, g, none, x)) (k : regA C R all rest (j + 1) ⟨upd t d (.opt g x), h, n⟩ K) : regA C R all (o :: rest) j ⟨t, h, n⟩ K := by
  unfold sG at hx
  split at hx
  · rename_i i pol d' h1 h2
    split at hx
    · rename_i e h3
      split at hx
      · rename_i g' h4 h5
        split at hx
        · rename_i x' h6; cases hx; exact gOk h1 h3 (guardF_eq h4) h5 h2 (sA_ok h6) k
        · cases hx
      · split at hx <;> cases hx
      · cases hx
    · cases hx
  · cases hx
theorem gS {g c : Bool} (hx : sG C t h all o = some (d, g, some c, x)) (hs : g = true → c = true) (k : regA C R all rest (j + 1) ⟨upd t d (.opt g x), h, n⟩ K) : regA C R all (o :: rest) j ⟨t, h, n⟩ K := by
  unfold sG at hx
  split at hx
  · rename_i i pol d' h1 h2
    split at hx
    · rename_i e h3
      split at hx
      · split at hx <;> cases hx
      · rename_i g' c' h4 h5
        split at hx
        · rename_i x' h6; cases hx; exact gOkS h1 h3 (guardF_eq h4) h5 hs h2 (sA_ok h6) k
        · cases hx
      · cases hx
    · cases hx
  · cases hx
theorem sGd_eq {g : Bool} {c : Option Bool} (hx : sGd t all o = some (d, g, c)) : ∃ i pol e, o.guard = some (i, pol) ∧ (all[i]?).bind (·.dst) = some e ∧ guardA (t e) pol = some g ∧ condsO t o.op = c ∧ o.dst = some d := by
  unfold sGd at hx
  split at hx
  · rename_i i pol d' h1 h2
    split at hx
    · rename_i e h3
      split at hx
      · rename_i g' h4 h5; cases hx; exact ⟨i, pol, e, h1, h3, guardF_eq h4, h5, h2⟩
      · rename_i g' c' h4 h5; cases hx; exact ⟨i, pol, e, h1, h3, guardF_eq h4, h5, h2⟩
      · cases hx
    · cases hx
  · cases hx
theorem gBS {g c : Bool} (hg : sGd t all o = some (d, g, some c)) (hs : g = true → c = true) (hx : opA C (evS C t o.op) h (n + j) o.op = .ok x) (k : regA C R all rest (j + 1) ⟨upd t d (.opt g x), h, n⟩ K) : regA C R all (o :: rest) j ⟨t, h, n⟩ K := by
  obtain ⟨i, pol, e, h1, h2, h3, h4, h5⟩ := sGd_eq hg; exact gOkS h1 h2 h3 h4 hs h5 hx k
theorem rAl (s : Nat) {cs : List AV} (hs : n + j = s) (hx : sAl C t o = some (d, cs)) (k : regA C R all rest (j + 1) ⟨upd t d (.ptr s 0), upd h s (some (.box cs)), n⟩ K) : regA C R all (o :: rest) j ⟨t, h, n⟩ K := by
  subst hs
  unfold sAl at hx
  split at hx
  · rename_i d' ty h1 h2 h3
    split at hx
    · rename_i cs' h4; cases hx
      exact rFx (p := True) h1 h2 (by rw [h3]; simp only [opA, h4]) trivial k
    · cases hx
  · rename_i d' ty y h1 h2 h3
    split at hx
    · rename_i cs' h4; cases hx
      exact rFx (p := True) h1 h2 (by rw [h3]; simp only [opA, h4]) trivial k
    · cases hx
  · cases hx
theorem sStA_eq {ty : TypeId} {a y : AV} {h' : AH} (e : sStA C h ty a y = some h') : (match C.ty ty, cellsA y with
    | some ti, some cs => (match Nat.beq cs.length ti.sz with
      | true => (match a with
        | .ptr b c => (match h b with | some (.box cells) => (match Nat.ble (c + cs.length) cells.length with | true => Res.fx True .any (upd h b (some (.box (putL c cs cells)))) | false => .bad) | _ => .bad)
        | _ => .bad)
      | false => .bad)
    | _, _ => .bad) = .fx True .any h' := by
  unfold sStA at e
  split at e
  · rename_i ti cs b c h1 h2
    split at e
    · rename_i cells h3 h4
      split at e
      · rename_i h5
        simp only [h1, h2, h3, h4, h5]
        split at e
        · rename_i h6; cases e; rw [putL_all _ _ h6]
        · rw [fPut_eq] at e; cases e; rfl
      · cases e
    · cases e
  · cases e
theorem rSt (hx : sSt C t h o = some h') (k : regA C R all rest (j + 1) ⟨t, h', n⟩ K) : regA C R all (o :: rest) j ⟨t, h, n⟩ K := by
  unfold sSt at hx
  split at hx
  · rename_i ty a y h1 h2 h3
    have e := sStA_eq hx
    refine rFx0 (p := True) (x := .any) h1 h2 ?_ trivial k
    rw [h3]
    simp only [opA]
    split at e
    · rename_i ti cs q1 q2
      simp only [q1, q2]
      split at e
      · rename_i q3
        simp only [q3]
        split at e
        · rename_i b c q4; simp only [q4]; exact e
        · cases e
      · cases e
    · cases e
  · cases hx
theorem rCl {f : FuncId} {args : List AV} (hx : sC C t o = some (d, f, args)) (hf : noOwnL args = true ∨ (flatA x = true ∧ lenOkL h args)) (hc : R f (datL h args) x) (k : regA C R all rest (j + 1) ⟨upd t d x, h, n⟩ K) (hcl : closedL (datL h args) = true := by exact rfl) (hr : closedA x = true := by exact rfl) : regA C R all (o :: rest) j ⟨t, h, n⟩ K := by
  obtain ⟨h1, h2, h3⟩ := sC_eq (h := h) (s := n + j) hx
  exact rCall h1 h2 h3 hcl hf hr hc k
end
open Go.Shelf
def lays137_ren : Go.Shelf.Ren := ⟨fun | 137 => 65 | 217 => 72 | 266 => 78 | n => n, fun | 9 => 9 | 5 => 5 | 3 => 3 | n => n, fun | n => n⟩
theorem lays137 : Go.Proofs.Lays.n137 Tryd.prog lays137_ren := {
  mixed := by kernel_rfl
  f137 := Tryd.func65.trans (congrArg some (by kernel_rfl))
  f217 := Tryd.func72.trans (congrArg some (by kernel_rfl))
  f266 := Tryd.func78.trans (congrArg some (by kernel_rfl))
  t3 := Tryd.underlying3
  a3 := Tryd.isAgg3
  z3 := Tryd.sizeOf3
  v3 := Tryd.zeroValue3
  t5 := Tryd.underlying5
  a5 := Tryd.isAgg5
  z5 := Tryd.sizeOf5
  v5 := Tryd.zeroValue5
  t9 := Tryd.underlying9
  a9 := Tryd.isAgg9
  z9 := Tryd.sizeOf9
  v9 := Tryd.zeroValue9 }
def lays219_ren : Go.Shelf.Ren := ⟨fun | 219 => 64 | 217 => 72 | 225 => 73 | 224 => 74 | 267 => 75 | 266 => 78 | 314 => 79 | n => n, fun | 9 => 9 | 3 => 3 | 4 => 4 | 5 => 5 | 46 => 97 | 146 => 107 | 51 => 58 | n => n, fun | 1 => 0 | n => n⟩
theorem lays219 : Go.Proofs.Lays.n219 Tryd.prog lays219_ren := {
  mixed := by kernel_rfl
  f217 := Tryd.func72.trans (congrArg some (by kernel_rfl))
  f219 := Tryd.func64.trans (congrArg some (by kernel_rfl))
  f224 := Tryd.func74.trans (congrArg some (by kernel_rfl))
  f225 := Tryd.func73.trans (congrArg some (by kernel_rfl))
  f266 := Tryd.func78.trans (congrArg some (by kernel_rfl))
  f267 := Tryd.func75.trans (congrArg some (by kernel_rfl))
  f314 := Tryd.func79.trans (congrArg some (by kernel_rfl))
  t3 := Tryd.underlying3
  a3 := Tryd.isAgg3
  z3 := Tryd.sizeOf3
  v3 := Tryd.zeroValue3
  t4 := Tryd.underlying4
  a4 := Tryd.isAgg4
  z4 := Tryd.sizeOf4
  v4 := Tryd.zeroValue4
  t5 := Tryd.underlying5
  a5 := Tryd.isAgg5
  z5 := Tryd.sizeOf5
  v5 := Tryd.zeroValue5
  t9 := Tryd.underlying9
  a9 := Tryd.isAgg9
  z9 := Tryd.sizeOf9
  v9 := Tryd.zeroValue9
  t46 := Tryd.underlying97
  a46 := Tryd.isAgg97
  z46 := Tryd.sizeOf97
  v46 := Tryd.zeroValue97
  t51 := Tryd.underlying58
  a51 := Tryd.isAgg58
  z51 := Tryd.sizeOf58
  v51 := Tryd.zeroValue58
  t146 := Tryd.underlying107
  a146 := Tryd.isAgg107
  z146 := Tryd.sizeOf107
  v146 := Tryd.zeroValue107
  g1 := by kernel_rfl }
def lays221_ren : Go.Shelf.Ren := ⟨fun | 221 => 37 | 268 => 60 | 138 => 61 | 143 => 62 | 195 => 68 | 197 => 69 | 218 => 70 | 219 => 64 | 260 => 77 | 217 => 72 | 225 => 73 | 224 => 74 | 267 => 75 | 266 => 78 | 314 => 79 | n => n, fun | 9 => 9 | 3 => 3 | 31 => 40 | 4 => 4 | 0 => 0 | 105 => 102 | 21 => 21 | 5 => 5 | 46 => 97 | 119 => 115 | 139 => 118 | 138 => 117 | 146 => 107 | 51 => 58 | n => n, fun | 1 => 0 | 3 => 1 | 4 => 2 | n => n⟩
theorem lays221 : Go.Proofs.Lays.n221 Tryd.prog lays221_ren := {
  mixed := by kernel_rfl
  f138 := Tryd.func61.trans (congrArg some (by kernel_rfl))
  f143 := Tryd.func62.trans (congrArg some (by kernel_rfl))
  f195 := Tryd.func68.trans (congrArg some (by kernel_rfl))
  f197 := Tryd.func69.trans (congrArg some (by kernel_rfl))
  f217 := Tryd.func72.trans (congrArg some (by kernel_rfl))
  f218 := Tryd.func70.trans (congrArg some (by kernel_rfl))
  f219 := Tryd.func64.trans (congrArg some (by kernel_rfl))
  f221 := Tryd.func37.trans (congrArg some (by kernel_rfl))
  f224 := Tryd.func74.trans (congrArg some (by kernel_rfl))
  f225 := Tryd.func73.trans (congrArg some (by kernel_rfl))
  f260 := Tryd.func77.trans (congrArg some (by kernel_rfl))
  f266 := Tryd.func78.trans (congrArg some (by kernel_rfl))
  f267 := Tryd.func75.trans (congrArg some (by kernel_rfl))
  f268 := Tryd.func60.trans (congrArg some (by kernel_rfl))
  f314 := Tryd.func79.trans (congrArg some (by kernel_rfl))
  t0 := Tryd.underlying0
  a0 := Tryd.isAgg0
  z0 := Tryd.sizeOf0
  v0 := Tryd.zeroValue0
  t3 := Tryd.underlying3
  a3 := Tryd.isAgg3
  z3 := Tryd.sizeOf3
  v3 := Tryd.zeroValue3
  t4 := Tryd.underlying4
  a4 := Tryd.isAgg4
  z4 := Tryd.sizeOf4
  v4 := Tryd.zeroValue4
  t5 := Tryd.underlying5
  a5 := Tryd.isAgg5
  z5 := Tryd.sizeOf5
  v5 := Tryd.zeroValue5
  t9 := Tryd.underlying9
  a9 := Tryd.isAgg9
  z9 := Tryd.sizeOf9
  v9 := Tryd.zeroValue9
  t21 := Tryd.underlying21
  a21 := Tryd.isAgg21
  z21 := Tryd.sizeOf21
  v21 := Tryd.zeroValue21
  t31 := Tryd.underlying40
  a31 := Tryd.isAgg40
  z31 := Tryd.sizeOf40
  v31 := Tryd.zeroValue40
  t46 := Tryd.underlying97
  a46 := Tryd.isAgg97
  z46 := Tryd.sizeOf97
  v46 := Tryd.zeroValue97
  t51 := Tryd.underlying58
  a51 := Tryd.isAgg58
  z51 := Tryd.sizeOf58
  v51 := Tryd.zeroValue58
  t105 := Tryd.underlying102
  a105 := Tryd.isAgg102
  z105 := Tryd.sizeOf102
  v105 := Tryd.zeroValue102
  t119 := Tryd.underlying115
  a119 := Tryd.isAgg115
  z119 := Tryd.sizeOf115
  t138 := Tryd.underlying117
  a138 := Tryd.isAgg117
  z138 := Tryd.sizeOf117
  v138 := Tryd.zeroValue117
  t139 := Tryd.underlying118
  a139 := Tryd.isAgg118
  z139 := Tryd.sizeOf118
  v139 := Tryd.zeroValue118
  t146 := Tryd.underlying107
  a146 := Tryd.isAgg107
  z146 := Tryd.sizeOf107
  v146 := Tryd.zeroValue107
  g1 := by kernel_rfl
  g3 := by kernel_rfl
  g4 := by kernel_rfl }
def laysM171_ren : Go.Shelf.Ren := ⟨fun | 171 => 54 | 243 => 66 | 246 => 76 | 283 => 80 | 284 => 81 | 285 => 82 | 286 => 83 | 129 => 85 | 317 => 84 | 318 => 86 | 319 => 87 | 320 => 88 | 337 => 89 | 338 => 90 | n => n, fun | 3 => 3 | 9 => 9 | 2 => 2 | 4 => 4 | 171 => 109 | 0 => 0 | 53 => 110 | 37 => 60 | 5 => 5 | 173 => 113 | 212 => 120 | 51 => 58 | 20 => 20 | 213 => 121 | 46 => 97 | 232 => 124 | 233 => 125 | n => n, fun | 17 => 3 | 18 => 4 | 19 => 5 | n => n⟩
theorem laysM171 : Go.Proofs.LaysM.n171 Tryd.prog laysM171_ren := {
  mixed := by kernel_rfl
  f129 := Tryd.func85.trans (congrArg some (by kernel_rfl))
  f171 := Tryd.func54.trans (congrArg some (by kernel_rfl))
  f243 := Tryd.func66.trans (congrArg some (by kernel_rfl))
  f246 := Tryd.func76.trans (congrArg some (by kernel_rfl))
  f283 := Tryd.func80.trans (congrArg some (by kernel_rfl))
  f284 := Tryd.func81.trans (congrArg some (by kernel_rfl))
  f285 := Tryd.func82.trans (congrArg some (by kernel_rfl))
  f286 := Tryd.func83.trans (congrArg some (by kernel_rfl))
  f317 := Tryd.func84.trans (congrArg some (by kernel_rfl))
  f318 := Tryd.func86.trans (congrArg some (by kernel_rfl))
  f319 := Tryd.func87.trans (congrArg some (by kernel_rfl))
  f320 := Tryd.func88.trans (congrArg some (by kernel_rfl))
  f337 := Tryd.func89.trans (congrArg some (by kernel_rfl))
  f338 := Tryd.func90.trans (congrArg some (by kernel_rfl))
  t0 := Tryd.underlying0
  a0 := Tryd.isAgg0
  z0 := Tryd.sizeOf0
  v0 := Tryd.zeroValue0
  t2 := Tryd.underlying2
  a2 := Tryd.isAgg2
  z2 := Tryd.sizeOf2
  v2 := Tryd.zeroValue2
  t3 := Tryd.underlying3
  a3 := Tryd.isAgg3
  z3 := Tryd.sizeOf3
  v3 := Tryd.zeroValue3
  t4 := Tryd.underlying4
  a4 := Tryd.isAgg4
  z4 := Tryd.sizeOf4
  v4 := Tryd.zeroValue4
  t5 := Tryd.underlying5
  a5 := Tryd.isAgg5
  z5 := Tryd.sizeOf5
  v5 := Tryd.zeroValue5
  t9 := Tryd.underlying9
  a9 := Tryd.isAgg9
  z9 := Tryd.sizeOf9
  v9 := Tryd.zeroValue9
  t20 := Tryd.underlying20
  a20 := Tryd.isAgg20
  z20 := Tryd.sizeOf20
  v20 := Tryd.zeroValue20
  t37 := Tryd.underlying60
  a37 := Tryd.isAgg60
  z37 := Tryd.sizeOf60
  v37 := Tryd.zeroValue60
  t46 := Tryd.underlying97
  a46 := Tryd.isAgg97
  z46 := Tryd.sizeOf97
  v46 := Tryd.zeroValue97
  t51 := Tryd.underlying58
  a51 := Tryd.isAgg58
  z51 := Tryd.sizeOf58
  v51 := Tryd.zeroValue58
  t53 := Tryd.underlying110
  a53 := Tryd.isAgg110
  z53 := Tryd.sizeOf110
  v53 := Tryd.zeroValue110
  t171 := Tryd.underlying109
  a171 := Tryd.isAgg109
  z171 := Tryd.sizeOf109
  v171 := Tryd.zeroValue109
  t173 := Tryd.underlying113
  a173 := Tryd.isAgg113
  z173 := Tryd.sizeOf113
  v173 := Tryd.zeroValue113
  t212 := Tryd.underlying120
  a212 := Tryd.isAgg120
  z212 := Tryd.sizeOf120
  v212 := Tryd.zeroValue120
  t213 := Tryd.underlying121
  a213 := Tryd.isAgg121
  z213 := Tryd.sizeOf121
  t232 := Tryd.underlying124
  a232 := Tryd.isAgg124
  z232 := Tryd.sizeOf124
  v232 := Tryd.zeroValue124
  t233 := Tryd.underlying125
  a233 := Tryd.isAgg125
  z233 := Tryd.sizeOf125
  v233 := Tryd.zeroValue125
  g17 := by kernel_rfl
  g18 := by kernel_rfl
  g19 := by kernel_rfl
  i0 := by kernel_rfl
  i2 := by kernel_rfl
  i3 := by kernel_rfl
  i4 := by kernel_rfl
  i5 := by kernel_rfl
  i9 := by kernel_rfl
  i20 := by kernel_rfl
  i37 := by kernel_rfl
  i46 := by kernel_rfl
  i51 := by kernel_rfl
  i53 := by kernel_rfl
  i171 := by kernel_rfl
  i173 := by kernel_rfl
  i212 := by kernel_rfl
  i232 := by kernel_rfl
  i233 := by kernel_rfl
  m17 := by kernel_rfl
  m18 := by kernel_rfl
  m19 := by kernel_rfl }
@[reducible] def Ctx.at (C : Ctx) (s : Nat) : Ctx := { C with fr := s }
def ret1 (r : AV) : Nat → AV := fun i => match i with | 0 => r | _ => .any
def FinH (C : Ctx) (fn : Func) (Post : AV → AH → Prop) (s : Nat) : AEx → ASt → Prop
  | .exit _, _ => False
  | _, st => ∃ rs, resA C st fn.results.toList = some rs ∧ GhostN ⟨ret1 (retA rs), st.h, st.n⟩ (fun stg => ∃ r h' σ, Post r h' ∧ keepB s σ (s + 1) = true ∧ Weak stg ⟨ret1 r, h', s + 1⟩ σ)
def fullB (h : AH) : Nat → Bool
  | 0 => true
  | k + 1 => match h k with | some _ => fullB h k | none => false
theorem fullB_get {h : AH} : ∀ {s : Nat}, fullB h s = true → ∀ x, x < s → h x ≠ none
  | 0, _, x, hx => absurd hx (Nat.not_lt_zero _)
  | k + 1, hf, x, hx => by
    simp only [fullB] at hf
    split at hf
    · rename_i b hb
      rcases Nat.lt_or_ge x k with h | h
      · exact fullB_get hf x h
      · have : x = k := by omega
        subst this; rw [hb]; simp
    · cases hf
theorem keepB_get : ∀ {fr : Nat} {σ : Nat → Nat} {n : Nat}, keepB fr σ n = true → ∀ x, x < fr → σ x = x ∧ x < n
  | 0, _, _, _, x, hx => absurd hx (Nat.not_lt_zero _)
  | k + 1, σ, n, hf, x, hx => by
    simp only [keepB] at hf
    split at hf
    · rename_i h1 h2
      rcases Nat.lt_or_ge x k with h | h
      · exact keepB_get hf x h
      · have : x = k := by omega
        subst this; exact ⟨Nat.eq_of_beq_eq_true h1, Nat.le_of_ble_eq_true h2⟩
    · cases hf
section
variable (S : Nat → Prop) (w : World) (β : Bt)
def OwnB (b : Nat) : Prop := ∃ x l, β x = some l ∧ l.blk = b
structure FrP (s : Nat) (S' : Nat → Prop) (w' : World) (β' : Bt) : Prop where
  hS : ∀ b, S b → S' b
  hE : Evo S w w'
  sz : w.heap.size ≤ w'.heap.size
  keep : ∀ x l, x < s → β x = some l → β' x = some l
  own : ∀ x l, β' x = some l → OwnB β l.blk ∨ w.heap.size ≤ l.blk
  nw : ∀ b, S' b → S b ∨ w.heap.size ≤ b ∨ OwnB β b
  still : ∀ b, b < w.heap.size → ¬ OwnB β b → w'.heap[b]? = w.heap[b]?
theorem evo_heap {S : Nat → Prop} {w w' w2 : World} (h : Evo S w w') (e : w2.heap = w'.heap) : Evo S w w2 := ⟨fun b hb => by rw [e]; exact h.stable b hb, fun b cs t fr hb => by rw [e]; exact h.shape b cs t fr hb⟩
def frInv (s : Nat) : Inv s where
  p := FrP S w β s
  mono := by
    intro B S1 w1 β1 s1 S2 w2 β2 P K
    refine ⟨fun b hb => K.hS b (P.hS b hb), P.hE.trans P.hS K.hE, Nat.le_trans P.sz K.hB.size, fun x l hx hl => K.hle _ _ (P.keep x l hx hl), fun x l hl => ?_, fun b hb => ?_, fun b hb hn => ?_⟩
    · rcases K.hdom x l hl with h | ⟨_, h | ⟨y, k, h1, h2⟩⟩
      · exact P.own x l h
      · exact .inr (Nat.le_trans P.sz h)
      · rw [← h2]; exact P.own y k h1
    · rcases K.hN b hb with h | ⟨_, h | ⟨y, k, h1, h2⟩⟩
      · exact P.nw b h
      · exact .inr (.inl (Nat.le_trans P.sz h))
      · rcases P.own y k h1 with h | h
        · exact .inr (.inr (h2 ▸ h))
        · exact .inr (.inl (h2 ▸ h))
    · refine (K.hO b (Nat.lt_of_lt_of_le hb P.sz) fun y k h1 h2 => ?_).trans (P.still b hb hn)
      rcases P.own y k h1 with h | h
      · exact hn (h2 ▸ h)
      · rw [h2] at h; omega
  weak := by
    intro S1 w1 β1 σ n P hk
    refine ⟨P.hS, P.hE, P.sz, fun x l hx hl => ?_, fun x l hl => ?_, P.nw, P.still⟩
    · obtain ⟨h1, h2⟩ := keepB_get hk x hx
      simp only [h2, if_true, h1]
      exact P.keep x l hx hl
    · by_cases hx : x < n
      · rw [if_pos hx] at hl; exact P.own _ l hl
      · rw [if_neg hx] at hl; cases hl
  frz := by
    intro S1 w1 β1 x l P hl
    refine ⟨fun b hb => .inl (P.hS b hb), P.hE, P.sz, P.keep, P.own, fun b hb => ?_, P.still⟩
    rcases hb with hb | rfl
    · exact P.nw b hb
    · exact (P.own x l hl).elim (fun h => .inr (.inr h)) fun h => .inr (.inl h)
  heap := by
    intro S1 w1 w2 β1 P e
    exact ⟨P.hS, evo_heap P.hE e, by rw [e]; exact P.sz, P.keep, P.own, P.nw, fun b hb hn => by rw [e]; exact P.still b hb hn⟩
end
theorem HCall.intro {C : Ctx} {s : Nat} (hC : CtxOk (C.at s)) {f : FuncId} {fn : Func} {body : Code} {args : List AV} {h : AH} {Post : AV → AH → Prop} (hf : C.P.funcs[f]? = some fn) (hb : fn.body = some body) (hnm : (fn.name == "runtime.NumGoroutine") = false)
    (hN : codeOk fn.ntmps body = true) (hlen : Nat.ble args.length fn.ntmps = true) (hfull : fullB h s = true) (hw : codeA (C.at s) (DCall (C.at s)) body ⟨argsT args, h, s⟩ (FinH (C.at s) fn Post s)) (hdf : C.df = [] := by rfl) : HSem C.P C.G f args h s Post := by
  refine ⟨⟨fn, hf, by rw [hb]; rfl, hnm⟩, fun B S w β vs H hdom hG hargs => ?_⟩
  have hlen := Nat.le_of_ble_eq_true hlen
  refine calls_of_wp hf hb ?_
  have hB0 : ({ w with heap := w.heap.extract 0 B } : World).heap.size = B := by
    show (w.heap.extract 0 B).size = B
    rw [Array.size_extract]; have := H.big; omega
  have hget : ∀ b, b < B → (w.heap.extract 0 B)[b]? = w.heap[b]? := fun b hb => by
    rw [Array.getElem?_extract, if_pos (by have := H.big; omega), Nat.zero_add]
  have M0 : SimD (C.at s) (frInv S w β s) { w with heap := w.heap.extract 0 B } S fn.ntmps (· < s) (argsT args) h { tmps := vs.toArray ++ Array.replicate (fn.ntmps - vs.toArray.size) undef, defers := [] } w S β := by
    have hl : vs.length = args.length := hargs.1.symm
    refine ⟨fun i => ?_, by rw [hB0]; exact H, ⟨rfl, rfl, rfl, by rw [hB0]; exact H.big, fun b hb => ?_⟩, hdom, hdf.symm, by simp; omega, hG, fun _ h => .inl h, ⟨fun _ h => h, Evo.refl _ _, Nat.le_refl _, fun _ _ _ h => h, fun x l h => .inl ⟨x, l, h, rfl⟩, fun _ h => .inl h, fun _ _ _ => rfl⟩⟩
    · rw [argsT_get]
      cases ha : args[i]? with
      | none => exact .any _
      | some x =>
        have hi : i < vs.length := by rw [hl]; exact (List.getElem?_eq_some_iff.1 ha).1
        have hv : vs[i]? = some vs[i] := List.getElem?_eq_getElem hi
        have : (vs.toArray ++ Array.replicate (fn.ntmps - vs.toArray.size) undef).getD i undef = vs[i] := by
          rw [Array.getD_eq_getD_getElem?, Array.getElem?_append_left (by simpa using hi), List.getElem?_toArray, hv]; rfl
        rw [this]
        exact hargs.2 i x _ ha hv
    · rw [hB0] at hb
      exact (hget b hb).symm
  refine wp_mono (code_sound hC body hN ⟨argsT args, h, s⟩ _ hw _ w S β M0) ?_
  rintro e a' w' ⟨e', st, S', β', rfl, hfin, M⟩
  have fin : (∃ rs, resA (C.at s) st fn.results.toList = some rs ∧ GhostN ⟨ret1 (retA rs), st.h, st.n⟩ (fun stg => ∃ r h' σ, Post r h' ∧ keepB s σ (s + 1) = true ∧ Weak stg ⟨ret1 r, h', s + 1⟩ σ)) → a'.defers = [] ∧ ∃ v, (results fn a'.tmps).run C.P w' = .ok v w' ∧ ∃ v' S2 β2 r h', Post r h' ∧ Ending.returned v = .returned v' ∧ Rep S2 w' β2 r v' ∧ SimH B S2 w' β2 h' ∧ StepK B S w β s S2 w' β2 := by
    rintro ⟨rs, h1, stg, hgs, r, h', σ, hP, hk, hW⟩
    obtain ⟨t, hh, n⟩ := st
    obtain ⟨us, g1, g2⟩ := res_ok hC M _ rs h1
    have hret : Rep S' w' β' (retA rs) (if h : us.toArray.size = 1 then us.toArray[0] else .tuple us.toArray) := by
      match rs, us, g2 with
      | [], us, g2 =>
        have : us = [] := List.eq_nil_of_length_eq_zero g2.1.symm
        subst this
        exact .tup [] #[] rfl fun i a u p => by simp at p
      | [x], us, g2 =>
        match us, g2 with
        | [u], g2 => simpa [retA] using g2.2 0 x u rfl rfl
        | [], g2 => exact absurd g2.1 (by simp)
        | _ :: _ :: _, g2 => exact absurd g2.1 (by simp)
      | x :: y :: zs, us, g2 =>
        have hne : ¬ us.toArray.size = 1 := by
          have := g2.1
          simp at this ⊢
          omega
        rw [dif_neg hne]
        exact .tup _ _ (by simpa using g2.1) fun i a u p q => g2.2 i a u p (by simpa using q)
    refine ⟨M.df.trans hdf, _, run_results _ us g1 fn rfl, ?_⟩
    generalize hv : (if h : us.toArray.size = 1 then us.toArray[0] else .tuple us.toArray) = v at hret ⊢
    have M1 : SimD (C.at s) (frInv S w β s) { w with heap := w.heap.extract 0 B } S 1 (· < n) (ret1 (retA rs)) hh { tmps := #[v], defers := a'.defers } w' S' β' := by
      refine ⟨fun i => ?_, M.H, M.B, M.dom, M.df, rfl, M.G, M.nw, M.iv⟩
      cases i with
      | zero => exact hret
      | succ i => exact .any _
    obtain ⟨S2, M2⟩ := ghosts_sound hgs M1
    have M3 := weak_sound hW hk M2
    have hr := M3.T 0
    refine ⟨v, S2, _, r, h', hP, rfl, hr, by have := M3.H; rwa [hB0] at this, ?_⟩
    have P : FrP S w β s S2 w' _ := M3.iv
    have hfl := fullB_get hfull
    refine ⟨P.hS, P.hE, ⟨M3.B.os, M3.B.tape, M3.B.output, P.sz, fun b hb => ?_⟩, fun x l hl => P.keep x l (hdom x l hl) hl, fun x l hl => ?_, fun b hb => ?_, fun b hb hn => P.still b hb fun ⟨x, l, h1, h2⟩ => hn x l h1 h2⟩
    · rw [M3.B.block b (by rw [hB0]; exact hb)]; exact hget b hb
    · rcases Nat.lt_or_ge x s with hx | hx
      · obtain ⟨blk, hblk⟩ := Option.ne_none_iff_exists'.1 (hfl x hx)
        obtain ⟨l0, _, _, _, k1, _⟩ := H.own x blk hblk
        have := P.keep x l0 hx k1
        rw [hl] at this
        injection this with this
        subst this
        exact .inl k1
      · have hx' : x = s := by
          have := M3.dom x l hl
          show x = s
          have : x < s + 1 := this
          omega
        refine .inr ⟨hx', ?_⟩
        rcases P.own x l hl with ⟨y, k, h1, h2⟩ | h
        · exact .inr ⟨y, k, h1, h2⟩
        · exact .inl h
    · rcases P.nw b hb with h | h | ⟨y, k, h1, h2⟩
      · exact .inl h
      · exact .inr ⟨Nat.le_trans H.big h, .inl h⟩
      · rcases M3.nw b hb with h | h
        · exact .inl h
        · exact .inr ⟨by rwa [hB0] at h, .inr ⟨y, k, h1, h2⟩⟩
  cases e' with
  | normal => exact fin hfin
  | ret => exact fin hfin
  | exit i => exact hfin.elim
theorem rep_map {S : Nat → Prop} {w : World} {β : Bt} {a : AV} {v : Value} (hr : Rep S w β a v) : ∀ {β' : Bt} {ρ : Nat → Nat}, (∀ x l, β x = some l → β' (ρ x) = some l) → Rep S w β' (mapA ρ a) v := by
  induction hr with
  | v x => intro β' ρ _; exact .v x
  | agg cs vs hl h1 h ih =>
    intro β' ρ hb
    refine .agg _ vs (by rw [mapL_len]; exact hl) h1 fun i a u p q => ?_
    rw [mapL_get] at p
    obtain ⟨y, hy, rfl⟩ := Option.map_eq_some_iff.1 p
    exact ih i y u hy q hb
  | tup cs vs hl h ih =>
    intro β' ρ hb
    refine .tup _ vs (by rw [mapL_len]; exact hl) fun i a u p q => ?_
    rw [mapL_get] at p
    obtain ⟨y, hy, rfl⟩ := Option.map_eq_some_iff.1 p
    exact ih i y u hy q hb
  | sl rs rows clip A c b o u hc hm hcl hrs hA hw h1 hr ih => intro β' ρ _; exact .sl rs rows clip A c b o u hc hm hcl hrs hA hw h1 hr
  | dp rs col row b o u hrs hb hw h1 hr ih => intro β' ρ _; exact .dp rs col row b o u hrs hb hw h1 hr
  | ptr s col l hl => intro β' ρ hb; exact .ptr _ col l (hb _ _ hl)
  | ptr2 s row col l hl => intro β' ρ hb; exact .ptr2 _ row col l (hb _ _ hl)
  | osl s lo len clip l A c hl hc hm hcl hA cs e fr hb room => intro β' ρ hb'; exact .osl _ lo len clip l A c (hb' _ _ hl) hc hm hcl hA cs e fr hb room
  | clo f first caps vs us hl h hl' h' ih ih' =>
    intro β' ρ hb
    refine .clo f _ _ vs us (by rw [mapL_len]; exact hl) (fun i a u p q => ?_) (by rw [mapL_len]; exact hl') fun i a u p q => ?_
    · rw [mapL_get] at p
      obtain ⟨y, hy, rfl⟩ := Option.map_eq_some_iff.1 p
      exact ih i y u hy q hb
    · rw [mapL_get] at p
      obtain ⟨y, hy, rfl⟩ := Option.map_eq_some_iff.1 p
      exact ih' i y u hy q hb
  | optT g a x hg h ih => intro β' ρ hb; exact .optT g _ x hg (ih hb)
  | optF g a hg => intro β' ρ _; exact .optF g _ hg
  | any x => intro β' ρ _; exact .any x
theorem inblk_map {S : Nat → Prop} {w : World} {β β' : Bt} {ρ : Nat → Nat} {l : Loc} {cs : Array Value} {blk : Blk} (k : InBlk S w β l cs blk) (hb : ∀ x l, β x = some l → β' (ρ x) = some l) : InBlk S w β' l cs (mapB ρ blk) := by
  cases blk with
  | box cells =>
    intro j a hj
    rw [mapL_get] at hj
    obtain ⟨y, hy, rfl⟩ := Option.map_eq_some_iff.1 hj
    obtain ⟨u, p1, p2, p3⟩ := k j y hy
    exact ⟨u, p1, p2, rep_map p3 hb⟩
  | arr rows rs => exact k
  | row cells =>
    refine ⟨k.1, fun j a hj => ?_⟩
    rw [mapL_get] at hj
    obtain ⟨y, hy, rfl⟩ := Option.map_eq_some_iff.1 hj
    obtain ⟨u, p1, p2, p3⟩ := k.2 j y hy
    exact ⟨u, p1, p2, rep_map p3 hb⟩
theorem inblk_back {S : Nat → Prop} {w : World} {β : Bt} {ρ : Nat → Nat} {n : Nat} {l : Loc} {cs : Array Value} {blk : Blk} (hb : belowB n blk = true) (k : InBlk S w β l cs (mapB ρ blk)) : InBlk S w (fun s => if s < n then β (ρ s) else none) l cs blk := by
  cases blk with
  | box cells =>
    intro j a hj
    obtain ⟨u, q1, q2, q3⟩ := k j (mapA ρ a) (by rw [mapL_get, hj]; rfl)
    exact ⟨u, q1, q2, map_rep _ _ _ (Nat.le_refl _) (belowL_get _ cells (by simpa [belowB] using hb) j a hj) q3⟩
  | arr rows rs => exact k
  | row cells =>
    refine ⟨k.1, fun j a hj => ?_⟩
    obtain ⟨u, q1, q2, q3⟩ := k.2 j (mapA ρ a) (by rw [mapL_get, hj]; rfl)
    exact ⟨u, q1, q2, map_rep _ _ _ (Nat.le_refl _) (belowL_get _ cells (by simpa [belowB] using hb) j a hj) q3⟩
def newN (ρ : Nat → Nat) (s s2 : Nat) : Nat → Nat := fun x => match Nat.beq x s with | true => s2 | false => ρ x
theorem newN_self (ρ : Nat → Nat) (s s2 : Nat) : newN ρ s s2 s = s2 := by simp [newN]
theorem newN_other (ρ : Nat → Nat) {s s2 x : Nat} (h : x ≠ s) : newN ρ s s2 x = ρ x := by
  unfold newN
  have : Nat.beq x s = false := by rw [← Bool.not_eq_true]; exact fun e => h (Nat.eq_of_beq_eq_true e)
  rw [this]
theorem HSem.frame {P : Program} {G : Nat → Option (List AV)} {f : FuncId} {args : List AV} {h : AH} {s : Nat} {Post : AV → AH → Prop} (H : HSem P G f args h s Post) (ρ : Nat → Nat) (K : AH) (s2 : Nat) (hfull : fullB h s = true) (hlt : ∀ x, h x ≠ none → x < s)
    (h1 : ∀ x blk, h x = some blk → ρ x < s2 ∧ belowB s blk = true ∧ K (ρ x) = some (mapB ρ blk)) (h2 : ∀ x y, x < s → y < s → ρ x = ρ y → x = y) (ha : belowL s args = true)
    (Post' : AV → AH → Prop) (hPost : ∀ r h', Post r h' → ∃ K', Post' (mapA (newN ρ s s2) r) K' ∧ ∀ y blk, K' y = some blk → (∃ x blk0, h' x = some blk0 ∧ y = newN ρ s s2 x ∧ blk = mapB (newN ρ s s2) blk0) ∨ (K y = some blk ∧ ∀ x, x < s → ρ x ≠ y)) :
    HSem P G f (mapL ρ args) K s2 Post' := by
  refine ⟨H.1, fun B S w β vs HK hdom hG hargs => ?_⟩
  have hfl := fullB_get hfull
  have hβ : ∀ x, x < s → ∃ l, β (ρ x) = some l ∧ K (ρ x) ≠ none := fun x hx => by
    obtain ⟨blk, hblk⟩ := Option.ne_none_iff_exists'.1 (hfl x hx)
    obtain ⟨_, _, e⟩ := h1 x blk hblk
    obtain ⟨l, _, _, _, k1, _⟩ := HK.own _ _ e
    exact ⟨l, k1, by rw [e]; simp⟩
  have HS : SimH B S w (fun x => if x < s then β (ρ x) else none) h := by
    refine ⟨fun x blk hx => ?_, fun x x' l l' hx hx' e e' hb => ?_, HK.lt, HK.big⟩
    · obtain ⟨_, b1, e⟩ := h1 x blk hx
      have hxs := hlt x (by rw [hx]; simp)
      obtain ⟨l, cs, t, fr, k1, k2, k3, k4, k5, k6⟩ := HK.own _ _ e
      exact ⟨l, cs, t, fr, by simp only [hxs, if_true]; exact k1, k2, k3, k4, k5, inblk_back b1 k6⟩
    · have g1 := hlt x hx
      have g2 := hlt x' hx'
      rw [if_pos g1] at e
      rw [if_pos g2] at e'
      exact h2 x x' g1 g2 (HK.inj _ _ _ _ (hβ x g1).choose_spec.2 (hβ x' g2).choose_spec.2 e e' hb)
  have hL : RepL S w (fun x => if x < s then β (ρ x) else none) args vs := by
    refine ⟨by rw [← hargs.1, mapL_len], fun i a u p q => ?_⟩
    exact map_rep _ _ _ (Nat.le_refl _) (belowL_get _ args ha i a p) (hargs.2 i (mapA ρ a) u (by rw [mapL_get, p]; rfl) q)
  refine (H.2 B S w _ vs HS (fun x l hl => ?_) hG hL).mono ?_
  · by_cases hx : x < s
    · exact hx
    · rw [if_neg hx] at hl; cases hl
  rintro e w' ⟨v, S', βc, r, h', hP, rfl, hr, HS', KK⟩
  obtain ⟨K', hP', h3⟩ := hPost r h' hP
  have old : ∀ x l, (if x < s then β (ρ x) else none) = some l → x < s ∧ β (ρ x) = some l := fun x l hl => by
    by_cases hx : x < s
    · rw [if_pos hx] at hl; exact ⟨hx, hl⟩
    · rw [if_neg hx] at hl; cases hl
  have hmap : ∀ x l, βc x = some l → (fun y => if y = s2 then βc s else β y) (newN ρ s s2 x) = some l := fun x l hl => by
    rcases KK.hdom x l hl with h | ⟨h, _⟩
    · obtain ⟨hx, hx'⟩ := old x l h
      have : ρ x < s2 := hdom _ _ hx'
      rw [newN_other ρ (by omega)]
      show (if ρ x = s2 then βc s else β (ρ x)) = some l
      rw [if_neg (by omega)]; exact hx'
    · subst h
      rw [newN_self]
      show (if s2 = s2 then βc x else β s2) = some l
      rw [if_pos rfl]; exact hl
  have hle : BtLe β (fun y => if y = s2 then βc s else β y) := fun y l hl => by
    have := hdom y l hl
    show (if y = s2 then βc s else β y) = some l
    rw [if_neg (by omega)]; exact hl
  have other : ∀ y blk l, K y = some blk → β y = some l → (∀ x, x < s → ρ x ≠ y) → ∀ x k, (if x < s then β (ρ x) else none) = some k → k.blk ≠ l.blk := fun y blk l hy hl hne x k hk e => by
    obtain ⟨hx, hx'⟩ := old x k hk
    exact hne x hx (HK.inj _ _ _ _ (hβ x hx).choose_spec.2 (by rw [hy]; simp) hx' hl e)
  refine ⟨v, S', fun y => if y = s2 then βc s else β y, _, K', hP', rfl, rep_map hr hmap, ⟨fun y blk hy => ?_, fun y y' l l' hy hy' e1 e2 hb => ?_, HS'.lt, HS'.big⟩, ⟨KK.hS, KK.hE, KK.hB, hle, fun y l hl => ?_, fun b hb => ?_, fun b hb hn => KK.hO b hb fun x k hk => ?_⟩⟩
  · rcases h3 y blk hy with ⟨x, blk0, e1, rfl, rfl⟩ | ⟨e1, hne⟩
    · obtain ⟨l, cs, t, fr, k1, k2, k3, k4, k5, k6⟩ := HS'.own x blk0 e1
      exact ⟨l, cs, t, fr, hmap x l k1, k2, k3, k4, k5, inblk_map k6 hmap⟩
    · obtain ⟨l, cs, t, fr, k1, k2, k3, k4, k5, k6⟩ := HK.own y blk e1
      have hdiff := other y blk l e1 k1 hne
      have hlt := lt_of_heap k2
      refine ⟨l, cs, t, fr, hle _ _ k1, (KK.hO _ hlt hdiff).trans k2, k3, k4, fun hS => ?_, k6.mono KK.hS KK.hE hle⟩
      rcases KK.hN _ hS with h | ⟨_, h | ⟨x, k, q1, q2⟩⟩
      · exact k5 h
      · omega
      · exact hdiff x k q1 q2
  ·
    have sort : ∀ y l, K' y ≠ none → (if y = s2 then βc s else β y) = some l → (∃ x, h' x ≠ none ∧ βc x = some l ∧ y = newN ρ s s2 x) ∨ (K y ≠ none ∧ β y = some l ∧ ∀ x, x < s → ρ x ≠ y) := fun y l hy hl => by
      obtain ⟨blk, hblk⟩ := Option.ne_none_iff_exists'.1 hy
      rcases h3 y blk hblk with ⟨x, blk0, e1, e2, _⟩ | ⟨e1, hne⟩
      · obtain ⟨l0, _, _, _, k1, _⟩ := HS'.own x blk0 e1
        have := hmap x l0 k1
        rw [← e2] at this
        rw [show (fun y => if y = s2 then βc s else β y) y = (if y = s2 then βc s else β y) from rfl, hl] at this
        injection this with this; subst this
        exact .inl ⟨x, by rw [e1]; simp, k1, e2⟩
      · obtain ⟨l0, _, _, _, k1, _⟩ := HK.own y blk e1
        have hys : y < s2 := hdom y l0 k1
        rw [if_neg (by omega)] at hl
        exact .inr ⟨by rw [e1]; simp, hl, hne⟩
    have mix : ∀ y l x l', K y ≠ none → β y = some l → (∀ x, x < s → ρ x ≠ y) → h' x ≠ none → βc x = some l' → l.blk ≠ l'.blk := fun y l x l' hy hl hne hx hl' e => by
      obtain ⟨blk, hblk⟩ := Option.ne_none_iff_exists'.1 hy
      have hdiff := other y blk l hblk hl hne
      obtain ⟨l0, _, _, _, k1, k2, _⟩ := HK.own y blk hblk
      rw [hl] at k1; injection k1 with k1; subst k1
      have hlt := lt_of_heap k2
      rcases KK.hdom x l' hl' with h | ⟨_, h | ⟨z, k, q1, q2⟩⟩
      · exact hdiff x l' h e.symm
      · omega
      · exact hdiff z k q1 (q2.trans e.symm)
    rcases sort y l hy e1 with ⟨x, a1, a2, a3⟩ | ⟨a1, a2, a3⟩ <;> rcases sort y' l' hy' e2 with ⟨x', b1, b2, b3⟩ | ⟨b1, b2, b3⟩
    · rw [a3, b3, HS'.inj x x' l l' a1 b1 a2 b2 hb]
    · exact absurd hb.symm (mix y' l' x l b1 b2 b3 a1 a2)
    · exact absurd hb (mix y l x' l' a1 a2 a3 b1 b2)
    · exact HK.inj y y' l l' a1 b1 a2 b2 hb
  · have hl : (if y = s2 then βc s else β y) = some l := hl
    by_cases hy : y = s2
    · rw [if_pos hy] at hl
      refine .inr ⟨hy, ?_⟩
      rcases KK.hdom s l hl with h | ⟨_, h | ⟨z, k, q1, q2⟩⟩
      · exact absurd (old s l h).1 (Nat.lt_irrefl _)
      · exact .inl h
      · exact .inr ⟨_, k, (old z k q1).2, q2⟩
    · rw [if_neg hy] at hl; exact .inl hl
  · rcases KK.hN b hb with h | ⟨hB, h | ⟨x, k, q1, q2⟩⟩
    · exact .inl h
    · exact .inr ⟨hB, .inl h⟩
    · exact .inr ⟨hB, .inr ⟨_, k, (old x k q1).2, q2⟩⟩
  · exact hn _ k (old x k hk).2
theorem HSem.frame1 {P : Program} {G : Nat → Option (List AV)} {f : FuncId} {args : List AV} {blk blk1 : Blk} {r : AV} (H : HSem P G f args (heapF [(0, blk)]) 1 (fun x h' => x = r ∧ h' = heapF [(0, blk1)])) (b : Nat) (K : AH) (s2 : Nat) (hb : b < s2)
    (hbl : belowB 1 blk = true) (hK : K b = some (mapB (fun _ => b) blk)) (ha : belowL 1 args = true) :
    HSem P G f (mapL (fun _ => b) args) K s2 (fun x h' => x = mapA (newN (fun _ => b) 1 s2) r ∧ h' = upd K b (some (mapB (newN (fun _ => b) 1 s2) blk1))) := by
  refine H.frame (fun _ => b) K s2 rfl (fun x hx => ?_) (fun x blk0 hx => ?_) (fun x y hx hy _ => by omega) ha _ fun r' h' hP => ?_
  · cases x with
    | zero => omega
    | succ x => exact absurd rfl hx
  · cases x with
    | zero => injection hx with hx; subst hx; exact ⟨hb, hbl, hK⟩
    | succ x => cases hx
  · obtain ⟨rfl, rfl⟩ := hP
    refine ⟨_, ⟨rfl, rfl⟩, fun y blk0 hy => ?_⟩
    by_cases he : y = b
    · subst he
      rw [upd_same] at hy; injection hy with hy
      exact .inl ⟨0, blk1, rfl, rfl, hy.symm⟩
    · rw [upd_other _ _ he] at hy
      exact .inr ⟨hy, fun x hx e => he e.symm⟩
theorem CtxOk.at {C : Ctx} {s : Nat} (h : CtxOk C) : CtxOk (C.at s) := ⟨h.ty, h.mixed, h.hH⟩
theorem finH {C : Ctx} {fn : Func} {Post : AV → AH → Prop} {s : Nat} {st : ASt} {rs : List AV} (h1 : resA C st fn.results.toList = some rs) {r : AV} {h' : AH} {σ : Nat → Nat} (hP : Post r h') (hk : keepB s σ (s + 1) = true) (hW : Weak ⟨ret1 (retA rs), st.h, st.n⟩ ⟨ret1 r, h', s + 1⟩ σ) :
    ∃ rs, resA C st fn.results.toList = some rs ∧ GhostN ⟨ret1 (retA rs), st.h, st.n⟩ (fun stg => ∃ r h' σ, Post r h' ∧ keepB s σ (s + 1) = true ∧ Weak stg ⟨ret1 r, h', s + 1⟩ σ) :=
  ⟨rs, h1, .mk _ (.refl _) ⟨r, h', σ, hP, hk, hW⟩⟩
theorem weak_ret {st : ASt} {x r : AV} {hp : List (Nat × Blk)} {n : Nat} (σ : Nat → Nat) (hx : x = mapA σ r) (hb : belowA n r = true) (hh : WH ⟨ret1 x, st.h, st.n⟩ n σ hp) (hi : nodupL ((hp.map (·.1)).map σ) = true) : Weak ⟨ret1 x, st.h, st.n⟩ ⟨ret1 r, heapF hp, n⟩ σ := by
  have W := Weak.of_lists (st := ⟨ret1 x, st.h, st.n⟩) (l := [(0, r)]) (hp := hp) (n := n) σ ⟨⟨hx, hb⟩, trivial⟩ hh hi
  refine ⟨fun i => ?_, W.h, W.inj⟩
  have := W.t i
  cases i with
  | zero => exact this
  | succ i => exact .inl rfl
def LeL (fz : Fz) : List AV → List AV → Prop
  | [], [] => True
  | a :: as_, b :: bs => LeZ fz a b ∧ LeL fz as_ bs
  | _, _ => False
theorem LeL.get {fz : Fz} : ∀ {as_ bs : List AV}, LeL fz as_ bs → as_.length = bs.length ∧ ∀ (i : Nat) a d, as_[i]? = some a → bs[i]? = some d → LeZ fz a d
  | [], [], _ => ⟨rfl, fun i a d h => by simp at h⟩
  | a :: as_, b :: bs, h => by
    obtain ⟨h1, h2⟩ := LeL.get h.2
    refine ⟨by simp [h1], fun i x y hx hy => ?_⟩
    cases i with
    | zero => simp at hx hy; subst hx hy; exact h.1
    | succ i => exact h2 i x y (by simpa using hx) (by simpa using hy)
  | [], _ :: _, h => h.elim
  | _ :: _, [], h => h.elim
theorem LeB.boxL {fz : Fz} {as_ bs : List AV} (h : LeL fz as_ bs) : LeB fz (.box as_) (.box bs) := .box as_ bs h.get.1 h.get.2
def GT (st : ASt) (fz : Fz) : List (Nat × AV) → Prop
  | [] => True
  | (i, x) :: l => LeZ fz (st.t i) x ∧ GT st fz l
def GH (st : ASt) (fz : Fz) : List (Nat × Blk) → Prop
  | [] => True
  | (i, x) :: l => ((match fz with | some (b, _, _) => Nat.beq i b = false | none => True) ∧ ∃ b0, st.h i = some b0 ∧ LeB fz b0 x) ∧ GH st fz l
theorem Ghost.of_lists {st : ASt} {fz : Fz} {l : List (Nat × AV)} {hp : List (Nat × Blk)} (hb : match fz with | some (x, rs, rows) => st.h x = some (.arr rows rs) | none => True) (ht : GT st fz l) (hh : GH st fz hp) : Ghost st ⟨slotsF l, heapF hp, st.n⟩ fz := by
  refine ⟨fun x rs rows h => (by subst h; exact hb), rfl, fun i => ?_, fun s blk hs => ?_⟩
  · clear hh hb
    induction l with
    | nil => exact .any _
    | cons p l ih =>
      obtain ⟨j, x⟩ := p
      show LeZ fz _ (slotsF _ _)
      simp only [slotsF]
      cases hq : Nat.beq j i with
      | true => rw [← Nat.eq_of_beq_eq_true hq]; exact ht.1
      | false => exact ih ht.2
  · clear ht hb
    induction hp with
    | nil => cases hs
    | cons p hp ih =>
      obtain ⟨j, x⟩ := p
      change heapF _ _ = _ at hs
      simp only [heapF] at hs
      cases hq : Nat.beq j s with
      | true =>
        rw [hq] at hs
        injection hs with hs; subst hs
        rw [← Nat.eq_of_beq_eq_true hq]
        refine ⟨fun x rs rows hz e => ?_, hh.1.2⟩
        have := hh.1.1
        subst hz
        simp only at this
        rw [e] at this
        simp at this
      | false => rw [hq] at hs; exact ih hh.2 hs
end Go.Proofs.YtpefnjbmbfdmmaaDoor
