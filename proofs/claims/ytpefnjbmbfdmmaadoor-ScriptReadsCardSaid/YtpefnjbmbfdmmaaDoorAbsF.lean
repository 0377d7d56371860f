/- The second machine: functions that turn their caller's memory; steps of the thought told by lists. -/
import Derived.Test.YtpefnjbmbfdmmaaDoorAbsV
import Derived.Test.YtpefnjbmbfdmmaaDoorAbsC
namespace Go.Proofs.YtpefnjbmbfdmmaaDoor
open Go.RowKit

/-- The context of a walk whose caller has the names below s. -/
@[reducible] def Ctx.at (C : Ctx) (s : Nat) : Ctx := { C with fr := s }
def ret1 (r : AV) : Nat → AV := fun i => match i with | 0 => r | _ => .any
/-- What must hold at the end of a function that turns its caller's memory. -/
def FinH (C : Ctx) (fn : Func) (Post : AV → AH → Prop) (s : Nat) : AEx → ASt → Prop
  | .exit _, _ => False
  | _, st => ∃ rs, resA C st fn.results.toList = some rs ∧ GhostN ⟨ret1 (retA rs), st.h, st.n⟩ (fun stg => ∃ r h' σ, Post r h' ∧ keepB s σ (s + 1) = true ∧ Weak stg ⟨ret1 r, h', s + 1⟩ σ)
/-- All names below s are there. -/
def fullB (h : AH) : Nat → Bool
  | 0 => true
  | k + 1 => match h k with | some _ => fullB h k | none => false
theorem fullB_get {h : AH} : ∀ {s : Nat}, fullB h s = true → ∀ x, x < s → h x ≠ none
  | 0, _, x, hx => absurd hx (Nat.not_lt_zero _)
  | k + 1, hf, x, hx => by
    simp only [fullB] at hf
    split at hf
    · rename_i b hb
      rcases Nat.lt_or_ge x k with h | h
      · exact fullB_get hf x h
      · have : x = k := by omega
        subst this; rw [hb]; simp
    · cases hf
theorem keepB_get : ∀ {fr : Nat} {σ : Nat → Nat} {n : Nat}, keepB fr σ n = true → ∀ x, x < fr → σ x = x ∧ x < n
  | 0, _, _, _, x, hx => absurd hx (Nat.not_lt_zero _)
  | k + 1, σ, n, hf, x, hx => by
    simp only [keepB] at hf
    split at hf
    · rename_i h1 h2
      rcases Nat.lt_or_ge x k with h | h
      · exact keepB_get hf x h
      · have : x = k := by omega
        subst this; exact ⟨Nat.eq_of_beq_eq_true h1, Nat.le_of_ble_eq_true h2⟩
    · cases hf

section
variable (S : Nat → Prop) (w : World) (β : Bt)
/-- Has the block a name? -/
def OwnB (b : Nat) : Prop := ∃ x l, β x = some l ∧ l.blk = b
/-- What holds all along a function that turns its caller's memory. -/
structure FrP (s : Nat) (S' : Nat → Prop) (w' : World) (β' : Bt) : Prop where
  hS : ∀ b, S b → S' b
  hE : Evo S w w'
  sz : w.heap.size ≤ w'.heap.size
  keep : ∀ x l, x < s → β x = some l → β' x = some l
  own : ∀ x l, β' x = some l → OwnB β l.blk ∨ w.heap.size ≤ l.blk
  nw : ∀ b, S' b → S b ∨ w.heap.size ≤ b ∨ OwnB β b
  still : ∀ b, b < w.heap.size → ¬ OwnB β b → w'.heap[b]? = w.heap[b]?
theorem evo_heap {S : Nat → Prop} {w w' w2 : World} (h : Evo S w w') (e : w2.heap = w'.heap) : Evo S w w2 := ⟨fun b hb => by rw [e]; exact h.stable b hb, fun b cs t fr hb => by rw [e]; exact h.shape b cs t fr hb⟩
def frInv (s : Nat) : Inv s where
  p := FrP S w β s
  mono := by
    intro B S1 w1 β1 s1 S2 w2 β2 P K
    refine ⟨fun b hb => K.hS b (P.hS b hb), P.hE.trans P.hS K.hE, Nat.le_trans P.sz K.hB.size, fun x l hx hl => K.hle _ _ (P.keep x l hx hl), fun x l hl => ?_, fun b hb => ?_, fun b hb hn => ?_⟩
    · rcases K.hdom x l hl with h | ⟨_, h | ⟨y, k, h1, h2⟩⟩
      · exact P.own x l h
      · exact .inr (Nat.le_trans P.sz h)
      · rw [← h2]; exact P.own y k h1
    · rcases K.hN b hb with h | ⟨_, h | ⟨y, k, h1, h2⟩⟩
      · exact P.nw b h
      · exact .inr (.inl (Nat.le_trans P.sz h))
      · rcases P.own y k h1 with h | h
        · exact .inr (.inr (h2 ▸ h))
        · exact .inr (.inl (h2 ▸ h))
    · refine (K.hO b (Nat.lt_of_lt_of_le hb P.sz) fun y k h1 h2 => ?_).trans (P.still b hb hn)
      rcases P.own y k h1 with h | h
      · exact hn (h2 ▸ h)
      · rw [h2] at h; omega
  weak := by
    intro S1 w1 β1 σ n P hk
    refine ⟨P.hS, P.hE, P.sz, fun x l hx hl => ?_, fun x l hl => ?_, P.nw, P.still⟩
    · obtain ⟨h1, h2⟩ := keepB_get hk x hx
      simp only [h2, if_true, h1]
      exact P.keep x l hx hl
    · by_cases hx : x < n
      · rw [if_pos hx] at hl; exact P.own _ l hl
      · rw [if_neg hx] at hl; cases hl
  frz := by
    intro S1 w1 β1 x l P hl
    refine ⟨fun b hb => .inl (P.hS b hb), P.hE, P.sz, P.keep, P.own, fun b hb => ?_, P.still⟩
    rcases hb with hb | rfl
    · exact P.nw b hb
    · exact (P.own x l hl).elim (fun h => .inr (.inr h)) fun h => .inr (.inl h)
  heap := by
    intro S1 w1 w2 β1 P e
    exact ⟨P.hS, evo_heap P.hE e, by rw [e]; exact P.sz, P.keep, P.own, P.nw, fun b hb hn => by rw [e]; exact P.still b hb hn⟩
end

theorem HCall.intro {C : Ctx} {s : Nat} (hC : CtxOk (C.at s)) {f : FuncId} {fn : Func} {body : Code} {args : List AV} {h : AH} {Post : AV → AH → Prop} (hf : C.P.funcs[f]? = some fn) (hb : fn.body = some body) (hnm : (fn.name == "runtime.NumGoroutine") = false)
    (hN : codeOk fn.ntmps body = true) (hlen : Nat.ble args.length fn.ntmps = true) (hfull : fullB h s = true) (hw : codeA (C.at s) (DCall (C.at s)) body ⟨argsT args, h, s⟩ (FinH (C.at s) fn Post s)) (hdf : C.df = [] := by rfl) : HSem C.P C.G f args h s Post := by
  refine ⟨⟨fn, hf, by rw [hb]; rfl, hnm⟩, fun B S w β vs H hdom hG hargs => ?_⟩
  have hlen := Nat.le_of_ble_eq_true hlen
  refine calls_of_wp hf hb ?_
  have hB0 : ({ w with heap := w.heap.extract 0 B } : World).heap.size = B := by
    show (w.heap.extract 0 B).size = B
    rw [Array.size_extract]; have := H.big; omega
  have hget : ∀ b, b < B → (w.heap.extract 0 B)[b]? = w.heap[b]? := fun b hb => by
    rw [Array.getElem?_extract, if_pos (by have := H.big; omega), Nat.zero_add]
  have M0 : SimD (C.at s) (frInv S w β s) { w with heap := w.heap.extract 0 B } S fn.ntmps (· < s) (argsT args) h { tmps := vs.toArray ++ Array.replicate (fn.ntmps - vs.toArray.size) undef, defers := [] } w S β := by
    have hl : vs.length = args.length := hargs.1.symm
    refine ⟨fun i => ?_, by rw [hB0]; exact H, ⟨rfl, rfl, rfl, by rw [hB0]; exact H.big, fun b hb => ?_⟩, hdom, hdf.symm, by simp; omega, hG, fun _ h => .inl h, ⟨fun _ h => h, Evo.refl _ _, Nat.le_refl _, fun _ _ _ h => h, fun x l h => .inl ⟨x, l, h, rfl⟩, fun _ h => .inl h, fun _ _ _ => rfl⟩⟩
    · rw [argsT_get]
      cases ha : args[i]? with
      | none => exact .any _
      | some x =>
        have hi : i < vs.length := by rw [hl]; exact (List.getElem?_eq_some_iff.1 ha).1
        have hv : vs[i]? = some vs[i] := List.getElem?_eq_getElem hi
        have : (vs.toArray ++ Array.replicate (fn.ntmps - vs.toArray.size) undef).getD i undef = vs[i] := by
          rw [Array.getD_eq_getD_getElem?, Array.getElem?_append_left (by simpa using hi), List.getElem?_toArray, hv]; rfl
        rw [this]
        exact hargs.2 i x _ ha hv
    · rw [hB0] at hb
      exact (hget b hb).symm
  refine wp_mono (code_sound hC body hN ⟨argsT args, h, s⟩ _ hw _ w S β M0) ?_
  rintro e a' w' ⟨e', st, S', β', rfl, hfin, M⟩
  have fin : (∃ rs, resA (C.at s) st fn.results.toList = some rs ∧ GhostN ⟨ret1 (retA rs), st.h, st.n⟩ (fun stg => ∃ r h' σ, Post r h' ∧ keepB s σ (s + 1) = true ∧ Weak stg ⟨ret1 r, h', s + 1⟩ σ)) → a'.defers = [] ∧ ∃ v, (results fn a'.tmps).run C.P w' = .ok v w' ∧ ∃ v' S2 β2 r h', Post r h' ∧ Ending.returned v = .returned v' ∧ Rep S2 w' β2 r v' ∧ SimH B S2 w' β2 h' ∧ StepK B S w β s S2 w' β2 := by
    rintro ⟨rs, h1, stg, hgs, r, h', σ, hP, hk, hW⟩
    obtain ⟨t, hh, n⟩ := st
    obtain ⟨us, g1, g2⟩ := res_ok hC M _ rs h1
    have hret : Rep S' w' β' (retA rs) (if h : us.toArray.size = 1 then us.toArray[0] else .tuple us.toArray) := by
      match rs, us, g2 with
      | [], us, g2 =>
        have : us = [] := List.eq_nil_of_length_eq_zero g2.1.symm
        subst this
        exact .tup [] #[] rfl fun i a u p => by simp at p
      | [x], us, g2 =>
        match us, g2 with
        | [u], g2 => simpa [retA] using g2.2 0 x u rfl rfl
        | [], g2 => exact absurd g2.1 (by simp)
        | _ :: _ :: _, g2 => exact absurd g2.1 (by simp)
      | x :: y :: zs, us, g2 =>
        have hne : ¬ us.toArray.size = 1 := by
          have := g2.1
          simp at this ⊢
          omega
        rw [dif_neg hne]
        exact .tup _ _ (by simpa using g2.1) fun i a u p q => g2.2 i a u p (by simpa using q)
    refine ⟨M.df.trans hdf, _, run_results _ us g1 fn rfl, ?_⟩
    generalize hv : (if h : us.toArray.size = 1 then us.toArray[0] else .tuple us.toArray) = v at hret ⊢
    have M1 : SimD (C.at s) (frInv S w β s) { w with heap := w.heap.extract 0 B } S 1 (· < n) (ret1 (retA rs)) hh { tmps := #[v], defers := a'.defers } w' S' β' := by
      refine ⟨fun i => ?_, M.H, M.B, M.dom, M.df, rfl, M.G, M.nw, M.iv⟩
      cases i with
      | zero => exact hret
      | succ i => exact .any _
    obtain ⟨S2, M2⟩ := ghosts_sound hgs M1
    have M3 := weak_sound hW hk M2
    have hr := M3.T 0
    refine ⟨v, S2, _, r, h', hP, rfl, hr, by have := M3.H; rwa [hB0] at this, ?_⟩
    have P : FrP S w β s S2 w' _ := M3.iv
    have hfl := fullB_get hfull
    refine ⟨P.hS, P.hE, ⟨M3.B.os, M3.B.tape, M3.B.output, P.sz, fun b hb => ?_⟩, fun x l hl => P.keep x l (hdom x l hl) hl, fun x l hl => ?_, fun b hb => ?_, fun b hb hn => P.still b hb fun ⟨x, l, h1, h2⟩ => hn x l h1 h2⟩
    · rw [M3.B.block b (by rw [hB0]; exact hb)]; exact hget b hb
    · rcases Nat.lt_or_ge x s with hx | hx
      · obtain ⟨blk, hblk⟩ := Option.ne_none_iff_exists'.1 (hfl x hx)
        obtain ⟨l0, _, _, _, k1, _⟩ := H.own x blk hblk
        have := P.keep x l0 hx k1
        rw [hl] at this
        injection this with this
        subst this
        exact .inl k1
      · have hx' : x = s := by
          have := M3.dom x l hl
          show x = s
          have : x < s + 1 := this
          omega
        refine .inr ⟨hx', ?_⟩
        rcases P.own x l hl with ⟨y, k, h1, h2⟩ | h
        · exact .inr ⟨y, k, h1, h2⟩
        · exact .inl h
    · rcases P.nw b hb with h | h | ⟨y, k, h1, h2⟩
      · exact .inl h
      · exact .inr ⟨Nat.le_trans H.big h, .inl h⟩
      · rcases M3.nw b hb with h | h
        · exact .inl h
        · exact .inr ⟨by rwa [hB0] at h, .inr ⟨y, k, h1, h2⟩⟩
  cases e' with
  | normal => exact fin hfin
  | ret => exact fin hfin
  | exit i => exact hfin.elim

/-! ### in whatever memory -/
theorem rep_map {S : Nat → Prop} {w : World} {β : Bt} {a : AV} {v : Value} (hr : Rep S w β a v) : ∀ {β' : Bt} {ρ : Nat → Nat}, (∀ x l, β x = some l → β' (ρ x) = some l) → Rep S w β' (mapA ρ a) v := by
  induction hr with
  | v x => intro β' ρ _; exact .v x
  | agg cs vs hl h1 h ih =>
    intro β' ρ hb
    refine .agg _ vs (by rw [mapL_len]; exact hl) h1 fun i a u p q => ?_
    rw [mapL_get] at p
    obtain ⟨y, hy, rfl⟩ := Option.map_eq_some_iff.1 p
    exact ih i y u hy q hb
  | tup cs vs hl h ih =>
    intro β' ρ hb
    refine .tup _ vs (by rw [mapL_len]; exact hl) fun i a u p q => ?_
    rw [mapL_get] at p
    obtain ⟨y, hy, rfl⟩ := Option.map_eq_some_iff.1 p
    exact ih i y u hy q hb
  | sl rs rows clip A c b o u hc hm hcl hrs hA hw h1 hr ih => intro β' ρ _; exact .sl rs rows clip A c b o u hc hm hcl hrs hA hw h1 hr
  | dp rs col row b o u hrs hb hw h1 hr ih => intro β' ρ _; exact .dp rs col row b o u hrs hb hw h1 hr
  | ptr s col l hl => intro β' ρ hb; exact .ptr _ col l (hb _ _ hl)
  | ptr2 s row col l hl => intro β' ρ hb; exact .ptr2 _ row col l (hb _ _ hl)
  | osl s lo len clip l A c hl hc hm hcl hA cs e fr hb room => intro β' ρ hb'; exact .osl _ lo len clip l A c (hb' _ _ hl) hc hm hcl hA cs e fr hb room
  | clo f first caps vs us hl h hl' h' ih ih' =>
    intro β' ρ hb
    refine .clo f _ _ vs us (by rw [mapL_len]; exact hl) (fun i a u p q => ?_) (by rw [mapL_len]; exact hl') fun i a u p q => ?_
    · rw [mapL_get] at p
      obtain ⟨y, hy, rfl⟩ := Option.map_eq_some_iff.1 p
      exact ih i y u hy q hb
    · rw [mapL_get] at p
      obtain ⟨y, hy, rfl⟩ := Option.map_eq_some_iff.1 p
      exact ih' i y u hy q hb
  | optT g a x hg h ih => intro β' ρ hb; exact .optT g _ x hg (ih hb)
  | optF g a hg => intro β' ρ _; exact .optF g _ hg
  | any x => intro β' ρ _; exact .any x
theorem inblk_map {S : Nat → Prop} {w : World} {β β' : Bt} {ρ : Nat → Nat} {l : Loc} {cs : Array Value} {blk : Blk} (k : InBlk S w β l cs blk) (hb : ∀ x l, β x = some l → β' (ρ x) = some l) : InBlk S w β' l cs (mapB ρ blk) := by
  cases blk with
  | box cells =>
    intro j a hj
    rw [mapL_get] at hj
    obtain ⟨y, hy, rfl⟩ := Option.map_eq_some_iff.1 hj
    obtain ⟨u, p1, p2, p3⟩ := k j y hy
    exact ⟨u, p1, p2, rep_map p3 hb⟩
  | arr rows rs => exact k
  | row cells =>
    refine ⟨k.1, fun j a hj => ?_⟩
    rw [mapL_get] at hj
    obtain ⟨y, hy, rfl⟩ := Option.map_eq_some_iff.1 hj
    obtain ⟨u, p1, p2, p3⟩ := k.2 j y hy
    exact ⟨u, p1, p2, rep_map p3 hb⟩
theorem inblk_back {S : Nat → Prop} {w : World} {β : Bt} {ρ : Nat → Nat} {n : Nat} {l : Loc} {cs : Array Value} {blk : Blk} (hb : belowB n blk = true) (k : InBlk S w β l cs (mapB ρ blk)) : InBlk S w (fun s => if s < n then β (ρ s) else none) l cs blk := by
  cases blk with
  | box cells =>
    intro j a hj
    obtain ⟨u, q1, q2, q3⟩ := k j (mapA ρ a) (by rw [mapL_get, hj]; rfl)
    exact ⟨u, q1, q2, map_rep _ _ _ (Nat.le_refl _) (belowL_get _ cells (by simpa [belowB] using hb) j a hj) q3⟩
  | arr rows rs => exact k
  | row cells =>
    refine ⟨k.1, fun j a hj => ?_⟩
    obtain ⟨u, q1, q2, q3⟩ := k.2 j (mapA ρ a) (by rw [mapL_get, hj]; rfl)
    exact ⟨u, q1, q2, map_rep _ _ _ (Nat.le_refl _) (belowL_get _ cells (by simpa [belowB] using hb) j a hj) q3⟩

/-- Names of a callee's memory, in the caller's. -/
def newN (ρ : Nat → Nat) (s s2 : Nat) : Nat → Nat := fun x => match Nat.beq x s with | true => s2 | false => ρ x
theorem newN_self (ρ : Nat → Nat) (s s2 : Nat) : newN ρ s s2 s = s2 := by simp [newN]
theorem newN_other (ρ : Nat → Nat) {s s2 x : Nat} (h : x ≠ s) : newN ρ s s2 x = ρ x := by
  unfold newN
  have : Nat.beq x s = false := by rw [← Bool.not_eq_true]; exact fun e => h (Nat.eq_of_beq_eq_true e)
  rw [this]

theorem HSem.frame {P : Program} {G : Nat → Option (List AV)} {f : FuncId} {args : List AV} {h : AH} {s : Nat} {Post : AV → AH → Prop} (H : HSem P G f args h s Post) (ρ : Nat → Nat) (K : AH) (s2 : Nat) (hfull : fullB h s = true) (hlt : ∀ x, h x ≠ none → x < s)
    (h1 : ∀ x blk, h x = some blk → ρ x < s2 ∧ belowB s blk = true ∧ K (ρ x) = some (mapB ρ blk)) (h2 : ∀ x y, x < s → y < s → ρ x = ρ y → x = y) (ha : belowL s args = true)
    (Post' : AV → AH → Prop) (hPost : ∀ r h', Post r h' → ∃ K', Post' (mapA (newN ρ s s2) r) K' ∧ ∀ y blk, K' y = some blk → (∃ x blk0, h' x = some blk0 ∧ y = newN ρ s s2 x ∧ blk = mapB (newN ρ s s2) blk0) ∨ (K y = some blk ∧ ∀ x, x < s → ρ x ≠ y)) :
    HSem P G f (mapL ρ args) K s2 Post' := by
  refine ⟨H.1, fun B S w β vs HK hdom hG hargs => ?_⟩
  have hfl := fullB_get hfull
  have hβ : ∀ x, x < s → ∃ l, β (ρ x) = some l ∧ K (ρ x) ≠ none := fun x hx => by
    obtain ⟨blk, hblk⟩ := Option.ne_none_iff_exists'.1 (hfl x hx)
    obtain ⟨_, _, e⟩ := h1 x blk hblk
    obtain ⟨l, _, _, _, k1, _⟩ := HK.own _ _ e
    exact ⟨l, k1, by rw [e]; simp⟩
  have HS : SimH B S w (fun x => if x < s then β (ρ x) else none) h := by
    refine ⟨fun x blk hx => ?_, fun x x' l l' hx hx' e e' hb => ?_, HK.lt, HK.big⟩
    · obtain ⟨_, b1, e⟩ := h1 x blk hx
      have hxs := hlt x (by rw [hx]; simp)
      obtain ⟨l, cs, t, fr, k1, k2, k3, k4, k5, k6⟩ := HK.own _ _ e
      exact ⟨l, cs, t, fr, by simp only [hxs, if_true]; exact k1, k2, k3, k4, k5, inblk_back b1 k6⟩
    · have g1 := hlt x hx
      have g2 := hlt x' hx'
      rw [if_pos g1] at e
      rw [if_pos g2] at e'
      exact h2 x x' g1 g2 (HK.inj _ _ _ _ (hβ x g1).choose_spec.2 (hβ x' g2).choose_spec.2 e e' hb)
  have hL : RepL S w (fun x => if x < s then β (ρ x) else none) args vs := by
    refine ⟨by rw [← hargs.1, mapL_len], fun i a u p q => ?_⟩
    exact map_rep _ _ _ (Nat.le_refl _) (belowL_get _ args ha i a p) (hargs.2 i (mapA ρ a) u (by rw [mapL_get, p]; rfl) q)
  refine (H.2 B S w _ vs HS (fun x l hl => ?_) hG hL).mono ?_
  · by_cases hx : x < s
    · exact hx
    · rw [if_neg hx] at hl; cases hl
  rintro e w' ⟨v, S', βc, r, h', hP, rfl, hr, HS', KK⟩
  obtain ⟨K', hP', h3⟩ := hPost r h' hP
  have old : ∀ x l, (if x < s then β (ρ x) else none) = some l → x < s ∧ β (ρ x) = some l := fun x l hl => by
    by_cases hx : x < s
    · rw [if_pos hx] at hl; exact ⟨hx, hl⟩
    · rw [if_neg hx] at hl; cases hl
  have hmap : ∀ x l, βc x = some l → (fun y => if y = s2 then βc s else β y) (newN ρ s s2 x) = some l := fun x l hl => by
    rcases KK.hdom x l hl with h | ⟨h, _⟩
    · obtain ⟨hx, hx'⟩ := old x l h
      have : ρ x < s2 := hdom _ _ hx'
      rw [newN_other ρ (by omega)]
      show (if ρ x = s2 then βc s else β (ρ x)) = some l
      rw [if_neg (by omega)]; exact hx'
    · subst h
      rw [newN_self]
      show (if s2 = s2 then βc x else β s2) = some l
      rw [if_pos rfl]; exact hl
  have hle : BtLe β (fun y => if y = s2 then βc s else β y) := fun y l hl => by
    have := hdom y l hl
    show (if y = s2 then βc s else β y) = some l
    rw [if_neg (by omega)]; exact hl
  have other : ∀ y blk l, K y = some blk → β y = some l → (∀ x, x < s → ρ x ≠ y) → ∀ x k, (if x < s then β (ρ x) else none) = some k → k.blk ≠ l.blk := fun y blk l hy hl hne x k hk e => by
    obtain ⟨hx, hx'⟩ := old x k hk
    exact hne x hx (HK.inj _ _ _ _ (hβ x hx).choose_spec.2 (by rw [hy]; simp) hx' hl e)
  refine ⟨v, S', fun y => if y = s2 then βc s else β y, _, K', hP', rfl, rep_map hr hmap, ⟨fun y blk hy => ?_, fun y y' l l' hy hy' e1 e2 hb => ?_, HS'.lt, HS'.big⟩, ⟨KK.hS, KK.hE, KK.hB, hle, fun y l hl => ?_, fun b hb => ?_, fun b hb hn => KK.hO b hb fun x k hk => ?_⟩⟩
  · rcases h3 y blk hy with ⟨x, blk0, e1, rfl, rfl⟩ | ⟨e1, hne⟩
    · obtain ⟨l, cs, t, fr, k1, k2, k3, k4, k5, k6⟩ := HS'.own x blk0 e1
      exact ⟨l, cs, t, fr, hmap x l k1, k2, k3, k4, k5, inblk_map k6 hmap⟩
    · obtain ⟨l, cs, t, fr, k1, k2, k3, k4, k5, k6⟩ := HK.own y blk e1
      have hdiff := other y blk l e1 k1 hne
      have hlt := lt_of_heap k2
      refine ⟨l, cs, t, fr, hle _ _ k1, (KK.hO _ hlt hdiff).trans k2, k3, k4, fun hS => ?_, k6.mono KK.hS KK.hE hle⟩
      rcases KK.hN _ hS with h | ⟨_, h | ⟨x, k, q1, q2⟩⟩
      · exact k5 h
      · omega
      · exact hdiff x k q1 q2
  · -- two names of one block
    have sort : ∀ y l, K' y ≠ none → (if y = s2 then βc s else β y) = some l → (∃ x, h' x ≠ none ∧ βc x = some l ∧ y = newN ρ s s2 x) ∨ (K y ≠ none ∧ β y = some l ∧ ∀ x, x < s → ρ x ≠ y) := fun y l hy hl => by
      obtain ⟨blk, hblk⟩ := Option.ne_none_iff_exists'.1 hy
      rcases h3 y blk hblk with ⟨x, blk0, e1, e2, _⟩ | ⟨e1, hne⟩
      · obtain ⟨l0, _, _, _, k1, _⟩ := HS'.own x blk0 e1
        have := hmap x l0 k1
        rw [← e2] at this
        rw [show (fun y => if y = s2 then βc s else β y) y = (if y = s2 then βc s else β y) from rfl, hl] at this
        injection this with this; subst this
        exact .inl ⟨x, by rw [e1]; simp, k1, e2⟩
      · obtain ⟨l0, _, _, _, k1, _⟩ := HK.own y blk e1
        have hys : y < s2 := hdom y l0 k1
        rw [if_neg (by omega)] at hl
        exact .inr ⟨by rw [e1]; simp, hl, hne⟩
    have mix : ∀ y l x l', K y ≠ none → β y = some l → (∀ x, x < s → ρ x ≠ y) → h' x ≠ none → βc x = some l' → l.blk ≠ l'.blk := fun y l x l' hy hl hne hx hl' e => by
      obtain ⟨blk, hblk⟩ := Option.ne_none_iff_exists'.1 hy
      have hdiff := other y blk l hblk hl hne
      obtain ⟨l0, _, _, _, k1, k2, _⟩ := HK.own y blk hblk
      rw [hl] at k1; injection k1 with k1; subst k1
      have hlt := lt_of_heap k2
      rcases KK.hdom x l' hl' with h | ⟨_, h | ⟨z, k, q1, q2⟩⟩
      · exact hdiff x l' h e.symm
      · omega
      · exact hdiff z k q1 (q2.trans e.symm)
    rcases sort y l hy e1 with ⟨x, a1, a2, a3⟩ | ⟨a1, a2, a3⟩ <;> rcases sort y' l' hy' e2 with ⟨x', b1, b2, b3⟩ | ⟨b1, b2, b3⟩
    · rw [a3, b3, HS'.inj x x' l l' a1 b1 a2 b2 hb]
    · exact absurd hb.symm (mix y' l' x l b1 b2 b3 a1 a2)
    · exact absurd hb (mix y l x' l' a1 a2 a3 b1 b2)
    · exact HK.inj y y' l l' a1 b1 a2 b2 hb
  · have hl : (if y = s2 then βc s else β y) = some l := hl
    by_cases hy : y = s2
    · rw [if_pos hy] at hl
      refine .inr ⟨hy, ?_⟩
      rcases KK.hdom s l hl with h | ⟨_, h | ⟨z, k, q1, q2⟩⟩
      · exact absurd (old s l h).1 (Nat.lt_irrefl _)
      · exact .inl h
      · exact .inr ⟨_, k, (old z k q1).2, q2⟩
    · rw [if_neg hy] at hl; exact .inl hl
  · rcases KK.hN b hb with h | ⟨hB, h | ⟨x, k, q1, q2⟩⟩
    · exact .inl h
    · exact .inr ⟨hB, .inl h⟩
    · exact .inr ⟨hB, .inr ⟨_, k, (old x k q1).2, q2⟩⟩
  · exact hn _ k (old x k hk).2

/-! ### one block, in whatever memory -/
theorem HSem.frame1 {P : Program} {G : Nat → Option (List AV)} {f : FuncId} {args : List AV} {blk blk1 : Blk} {r : AV} (H : HSem P G f args (heapF [(0, blk)]) 1 (fun x h' => x = r ∧ h' = heapF [(0, blk1)])) (b : Nat) (K : AH) (s2 : Nat) (hb : b < s2)
    (hbl : belowB 1 blk = true) (hK : K b = some (mapB (fun _ => b) blk)) (ha : belowL 1 args = true) :
    HSem P G f (mapL (fun _ => b) args) K s2 (fun x h' => x = mapA (newN (fun _ => b) 1 s2) r ∧ h' = upd K b (some (mapB (newN (fun _ => b) 1 s2) blk1))) := by
  refine H.frame (fun _ => b) K s2 rfl (fun x hx => ?_) (fun x blk0 hx => ?_) (fun x y hx hy _ => by omega) ha _ fun r' h' hP => ?_
  · cases x with
    | zero => omega
    | succ x => exact absurd rfl hx
  · cases x with
    | zero => injection hx with hx; subst hx; exact ⟨hb, hbl, hK⟩
    | succ x => cases hx
  · obtain ⟨rfl, rfl⟩ := hP
    refine ⟨_, ⟨rfl, rfl⟩, fun y blk0 hy => ?_⟩
    by_cases he : y = b
    · subst he
      rw [upd_same] at hy; injection hy with hy
      exact .inl ⟨0, blk1, rfl, rfl, hy.symm⟩
    · rw [upd_other _ _ he] at hy
      exact .inr ⟨hy, fun x hx e => he e.symm⟩
theorem CtxOk.at {C : Ctx} {s : Nat} (h : CtxOk C) : CtxOk (C.at s) := ⟨h.ty, h.mixed, h.hH⟩
theorem cJoin {C : Ctx} {R : FuncId → List AV → AV → Prop} {Q : AEx → ASt → Prop} {κ : Type} (S : κ → ASt) (G : κ → Prop) {a b : Code} {st : ASt} (ka : codeA C R a st (fun e st' => match e with | .normal => GhostN st' (fun st'' => ∃ k σ, Weak st'' (S k) σ ∧ keepB C.fr σ (S k).n = true ∧ G k) | e => Q e st')) (kb : ∀ k, G k → codeA C R b (S k) Q) : codeA C R (.seq a b) st Q :=
  cSeqJ S G ka kb codeA_mono
theorem finH {C : Ctx} {fn : Func} {Post : AV → AH → Prop} {s : Nat} {st : ASt} {rs : List AV} (h1 : resA C st fn.results.toList = some rs) {r : AV} {h' : AH} {σ : Nat → Nat} (hP : Post r h') (hk : keepB s σ (s + 1) = true) (hW : Weak ⟨ret1 (retA rs), st.h, st.n⟩ ⟨ret1 r, h', s + 1⟩ σ) :
    ∃ rs, resA C st fn.results.toList = some rs ∧ GhostN ⟨ret1 (retA rs), st.h, st.n⟩ (fun stg => ∃ r h' σ, Post r h' ∧ keepB s σ (s + 1) = true ∧ Weak stg ⟨ret1 r, h', s + 1⟩ σ) :=
  ⟨rs, h1, .mk _ (.refl _) ⟨r, h', σ, hP, hk, hW⟩⟩
theorem weak_ret {st : ASt} {x r : AV} {hp : List (Nat × Blk)} {n : Nat} (σ : Nat → Nat) (hx : x = mapA σ r) (hb : belowA n r = true) (hh : WH ⟨ret1 x, st.h, st.n⟩ n σ hp) (hi : nodupL ((hp.map (·.1)).map σ) = true) : Weak ⟨ret1 x, st.h, st.n⟩ ⟨ret1 r, heapF hp, n⟩ σ := by
  have W := Weak.of_lists (st := ⟨ret1 x, st.h, st.n⟩) (l := [(0, r)]) (hp := hp) (n := n) σ ⟨⟨hx, hb⟩, trivial⟩ hh hi
  refine ⟨fun i => ?_, W.h, W.inj⟩
  have := W.t i
  cases i with
  | zero => exact this
  | succ i => exact .inl rfl

/-! ### by lists -/
def LeL (fz : Fz) : List AV → List AV → Prop
  | [], [] => True
  | a :: as, b :: bs => LeZ fz a b ∧ LeL fz as bs
  | _, _ => False
theorem LeL.get {fz : Fz} : ∀ {as bs : List AV}, LeL fz as bs → as.length = bs.length ∧ ∀ (i : Nat) a d, as[i]? = some a → bs[i]? = some d → LeZ fz a d
  | [], [], _ => ⟨rfl, fun i a d h => by simp at h⟩
  | a :: as, b :: bs, h => by
    obtain ⟨h1, h2⟩ := LeL.get h.2
    refine ⟨by simp [h1], fun i x y hx hy => ?_⟩
    cases i with
    | zero => simp at hx hy; subst hx hy; exact h.1
    | succ i => exact h2 i x y (by simpa using hx) (by simpa using hy)
  | [], _ :: _, h => h.elim
  | _ :: _, [], h => h.elim
theorem LeZ.aggL {fz : Fz} {as bs : List AV} (h : LeL fz as bs) : LeZ fz (.agg as) (.agg bs) := .agg as bs h.get.1 h.get.2
theorem LeZ.tupL {fz : Fz} {as bs : List AV} (h : LeL fz as bs) : LeZ fz (.tup as) (.tup bs) := .tup as bs h.get.1 h.get.2
theorem LeB.boxL {fz : Fz} {as bs : List AV} (h : LeL fz as bs) : LeB fz (.box as) (.box bs) := .box as bs h.get.1 h.get.2
def GT (st : ASt) (fz : Fz) : List (Nat × AV) → Prop
  | [] => True
  | (i, x) :: l => LeZ fz (st.t i) x ∧ GT st fz l
def GH (st : ASt) (fz : Fz) : List (Nat × Blk) → Prop
  | [] => True
  | (i, x) :: l => ((match fz with | some (b, _, _) => Nat.beq i b = false | none => True) ∧ ∃ b0, st.h i = some b0 ∧ LeB fz b0 x) ∧ GH st fz l
theorem Ghost.of_lists {st : ASt} {fz : Fz} {l : List (Nat × AV)} {hp : List (Nat × Blk)} (hb : match fz with | some (x, rs, rows) => st.h x = some (.arr rows rs) | none => True) (ht : GT st fz l) (hh : GH st fz hp) : Ghost st ⟨slotsF l, heapF hp, st.n⟩ fz := by
  refine ⟨fun x rs rows h => (by subst h; exact hb), rfl, fun i => ?_, fun s blk hs => ?_⟩
  · clear hh hb
    induction l with
    | nil => exact .any _
    | cons p l ih =>
      obtain ⟨j, x⟩ := p
      show LeZ fz _ (slotsF _ _)
      simp only [slotsF]
      cases hq : Nat.beq j i with
      | true => rw [← Nat.eq_of_beq_eq_true hq]; exact ht.1
      | false => exact ih ht.2
  · clear ht hb
    induction hp with
    | nil => cases hs
    | cons p hp ih =>
      obtain ⟨j, x⟩ := p
      change heapF _ _ = _ at hs
      simp only [heapF] at hs
      cases hq : Nat.beq j s with
      | true =>
        rw [hq] at hs
        injection hs with hs; subst hs
        rw [← Nat.eq_of_beq_eq_true hq]
        refine ⟨fun x rs rows hz e => ?_, hh.1.2⟩
        have := hh.1.1
        subst hz
        simp only at this
        rw [e] at this
        simp at this
      | false => rw [hq] at hs; exact ih hh.2 hs
end Go.Proofs.YtpefnjbmbfdmmaaDoor
