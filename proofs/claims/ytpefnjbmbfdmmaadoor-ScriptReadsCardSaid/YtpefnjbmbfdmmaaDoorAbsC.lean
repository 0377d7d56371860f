/- The second machine: loops told by lists of slots; contracts of flat values, both ways. -/
import Derived.Test.YtpefnjbmbfdmmaaDoorAbsEq
namespace Go.Proofs.YtpefnjbmbfdmmaaDoor
open Go.RowKit

def slotsF : List (Nat × AV) → Nat → AV
  | [], _ => .any
  | (i, x) :: l, j => match Nat.beq i j with | true => x | false => slotsF l j
def heapF : List (Nat × Blk) → AH
  | [], _ => none
  | (i, x) :: l, j => match Nat.beq i j with | true => some x | false => heapF l j
def WT (st : ASt) (n : Nat) (σ : Nat → Nat) : List (Nat × AV) → Prop
  | [] => True
  | (i, x) :: l => (st.t i = mapA σ x ∧ belowA n x = true) ∧ WT st n σ l
def WH (st : ASt) (n : Nat) (σ : Nat → Nat) : List (Nat × Blk) → Prop
  | [] => True
  | (i, x) :: l => (Nat.blt i n = true ∧ st.h (σ i) = some (mapB σ x) ∧ belowB n x = true) ∧ WH st n σ l
def freshL (x : Nat) : List Nat → Bool
  | [] => true
  | y :: l => match Nat.beq x y with | true => false | false => freshL x l
def nodupL : List Nat → Bool
  | [] => true
  | x :: l => match freshL x l with | true => nodupL l | false => false
theorem freshL_not : ∀ (l : List Nat) (x : Nat), freshL x l = true → x ∉ l
  | [], _, _ => by simp
  | y :: l, x, h => by
    simp only [freshL] at h
    split at h
    · cases h
    · rename_i hb
      have : x ≠ y := fun e => by subst e; simp at hb
      simp [this, freshL_not l x h]
theorem nodupL_inj {σ : Nat → Nat} : ∀ (l : List Nat), nodupL (l.map σ) = true → ∀ a ∈ l, ∀ b ∈ l, σ a = σ b → a = b
  | [], _ => by simp
  | x :: l, h => by
    simp only [List.map_cons, nodupL] at h
    split at h
    · rename_i hf
      have hn := freshL_not _ _ hf
      have ih := nodupL_inj l h
      intro a ha b hb e
      rcases List.mem_cons.1 ha with rfl | ha
      · rcases List.mem_cons.1 hb with hb | hb
        · exact hb.symm
        · exact absurd (List.mem_map.2 ⟨b, hb, e.symm⟩) hn
      · rcases List.mem_cons.1 hb with hb | hb
        · exact absurd (List.mem_map.2 ⟨a, ha, e.trans (congrArg σ hb)⟩) hn
        · exact ih a ha b hb e
    · cases h
theorem Weak.of_lists {st : ASt} {l : List (Nat × AV)} {hp : List (Nat × Blk)} {n : Nat} (σ : Nat → Nat) (ht : WT st n σ l) (hh : WH st n σ hp) (hi : nodupL ((hp.map (·.1)).map σ) = true) : Weak st ⟨slotsF l, heapF hp, n⟩ σ := by
  have keyH : ∀ (hp : List (Nat × Blk)) s blk, heapF hp s = some blk → s ∈ hp.map (·.1) := by
    intro hp
    induction hp with
    | nil => intro s blk h; simp [heapF] at h
    | cons p hp ih =>
      obtain ⟨i, x⟩ := p
      intro s blk h
      simp only [heapF] at h
      split at h
      · rename_i hb
        simp [Nat.eq_of_beq_eq_true hb]
      · simp [ih s blk h]
  refine ⟨fun i => ?_, fun s blk hs => ?_, fun s s' h1 h2 e => ?_⟩
  · clear hh hi
    induction l with
    | nil => exact .inl rfl
    | cons p l ih =>
      obtain ⟨j, x⟩ := p
      obtain ⟨⟨h1, h2⟩, h3⟩ := ht
      show slotsF _ _ = _ ∨ (_ = mapA σ (slotsF _ _) ∧ belowA n (slotsF _ _) = true)
      simp only [slotsF]
      cases hb : Nat.beq j i with
      | true => exact .inr (by rw [← Nat.eq_of_beq_eq_true hb]; exact ⟨h1, h2⟩)
      | false => exact ih h3
  · clear ht hi
    induction hp with
    | nil => cases hs
    | cons p hp ih =>
      obtain ⟨j, x⟩ := p
      obtain ⟨⟨h1, h2, h3⟩, h4⟩ := hh
      change heapF _ _ = _ at hs
      simp only [heapF] at hs
      cases hb : Nat.beq j s with
      | true =>
        rw [hb] at hs
        injection hs with hs; subst hs
        rw [← Nat.eq_of_beq_eq_true hb]
        exact ⟨Nat.le_of_ble_eq_true h1, h2, h3⟩
      | false => rw [hb] at hs; exact ih h4 hs
  · cases e1 : heapF hp s with
    | none => exact absurd e1 h1
    | some b1 =>
      cases e2 : heapF hp s' with
      | none => exact absurd e2 h2
      | some b2 => exact nodupL_inj _ hi s (keyH hp s b1 e1) s' (keyH hp s' b2 e2) e

section
variable {C : Ctx} {V : Inv C.fr} {R : FuncId → List AV → AV → Prop}
theorem node_mono {h : AH} {s : Nat} {r : Res} {K K' : AV → AH → Prop} (hk : ∀ x h, K x h → K' x h) (hn : node C R h s r K) : node C R h s r K' := by
  cases r <;> simp only [node] at hn ⊢
  case ok => exact hk _ _ hn
  case need => exact .mk hn.1 (hk _ _ hn.2)
  case idx =>
    obtain ⟨row, hr, h1⟩ := hn
    refine .mk row hr ?_
    split
    · rename_i hx; rw [hx] at h1; exact hk _ _ h1
    · rename_i hx; rw [hx] at h1; exact h1.elim
  case fx => exact .mk hn.1 (hk _ _ hn.2)
  case idxfx =>
    obtain ⟨row, hr, h1⟩ := hn
    refine .mk row hr ?_
    split
    · rename_i hx; rw [hx] at h1; exact hk _ _ h1
    · rename_i hx; rw [hx] at h1; exact h1.elim
  case str => obtain ⟨l, h1, h2⟩ := hn; exact .mk l h1 (hk _ _ h2)
  case call =>
    rcases hn with hn | hn
    · obtain ⟨x, a, b, c, d, e⟩ := hn; exact .inl (.mk x a b c d (hk _ _ e))
    · obtain ⟨Post, a, b⟩ := hn; exact .inr (.mk Post a fun r h' hP => hk _ _ (b r h' hP))
theorem nodeG_mono {h : AH} {g : Bool} {r : Res} {K K' : AV → AH → Prop} (hk : ∀ x h, K x h → K' x h) (hn : nodeG C R h g r K) : nodeG C R h g r K' := by
  cases r <;> simp only [nodeG] at hn ⊢
  case ok => exact hk _ _ hn
  case need => exact .mk hn.1 (hk _ _ hn.2)
  case idx =>
    obtain ⟨row, hr, h1⟩ := hn
    refine .mk row hr ?_
    split
    · rename_i hx; rw [hx] at h1; exact hk _ _ h1
    · rename_i hx; rw [hx] at h1; exact h1.elim
  case str => obtain ⟨l, h1, h2⟩ := hn; exact .mk l h1 (hk _ _ h2)
  case call => obtain ⟨x, a, b, c, d, e⟩ := hn; exact .mk x a b c d (hk _ _ e)
theorem stepA_mono {all : List Oper} {o : Oper} {s : Nat} {t : Nat → AV} {h : AH} {K K' : AV → AH → Prop} (hk : ∀ x h, K x h → K' x h) (hn : stepA C R all o s t h K) : stepA C R all o s t h K' := by
  unfold stepA at hn ⊢
  split
  · rename_i hg; rw [hg] at hn; exact node_mono hk hn
  · rename_i i pol hg
    rw [hg] at hn
    simp only at hn
    split
    · rename_i hd; rw [hd] at hn; exact hn
    · rename_i d hd
      rw [hd] at hn
      simp only at hn
      split
      · rename_i hv; rw [hv] at hn; exact hn
      · rename_i g hv
        rw [hv] at hn
        simp only at hn
        split
        · rename_i hc; rw [hc] at hn; exact hn.imp (nodeG_mono hk) fun q => ⟨q.1, node_mono hk q.2⟩
        · rename_i c hc; rw [hc] at hn; exact .mk hn.1 (nodeG_mono hk hn.2)
theorem regA_mono {all : List Oper} {K K' : ASt → Prop} (hk : ∀ st, K st → K' st) : ∀ (l : List Oper) (j : Nat) (st : ASt), regA C R all l j st K → regA C R all l j st K'
  | [], _, _, h => hk _ h
  | _ :: l, j, _, h => stepA_mono (fun _ _ q => regA_mono hk l (j + 1) _ q) h
theorem forL_mono {α : Type} {P P' : α → Prop} (h : ∀ x, P x → P' x) : ∀ l, forL P l → forL P' l
  | [], _ => trivial
  | x :: l, k => ⟨h x k.1, forL_mono h l k.2⟩
theorem anyA_mono {ops : Array Oper} {K K' : ASt → Prop} (hk : ∀ st, K st → K' st) : ∀ (fuel : Nat) (listed : Array Bool) (st : ASt), anyA C R ops K fuel listed st → anyA C R ops K' fuel listed st
  | 0, _, _, h => ⟨h.1, hk _ h.2⟩
  | fuel + 1, listed, st, h => ⟨h.1, forL_mono (fun i q => by
      unfold aOne at q ⊢
      split
      · rename_i o ho
        rw [ho] at q
        exact stepA_mono (fun _ _ q => anyA_mono hk fuel _ _ q) q
      · rename_i ho
        rw [ho] at q
        exact q) _ h.2⟩
theorem codeA_mono : ∀ (c : Code) (st : ASt) (Q Q' : AEx → ASt → Prop), (∀ e st, Q e st → Q' e st) → codeA C R c st Q → codeA C R c st Q'
  | .skip, _, _, _, hq, h => hq _ _ h
  | .label _, _, _, _, hq, h => hq _ _ h
  | .region _ ops dr, _, _, _, hq, h => by
    simp only [codeA] at h ⊢
    split
    · rename_i hb; rw [hb] at h; exact h.elim (fun h => .inl (anyA_mono (fun st q => hq _ st q) _ _ _ h)) fun h => .inr ⟨h.1, regA_mono (fun st q => ⟨q.1, hq _ st q.2⟩) _ _ _ h.2⟩
    · rename_i hb; rw [hb] at h; exact h.imp (fun h => regA_mono (fun st q => hq _ st q) _ _ _ h) fun h => ⟨h.1, anyA_mono (fun st q => hq _ st q) _ _ _ h.2⟩
  | .seq a b, st, Q, Q', hq, h => h.imp
    (fun h => codeA_mono a st _ _ (fun e st' k => by
      cases e with
      | normal => exact codeA_mono b st' Q Q' hq k
      | exit i => exact hq _ _ k
      | ret => exact hq _ _ k) h)
    (fun h => h.imp (fun h => codeA_mono a st _ _ (fun e st' k => by
      cases e with
      | normal => obtain ⟨st2, g, k⟩ := k; exact .mk st2 g (codeA_mono b st2 Q Q' hq k)
      | exit i => exact hq _ _ k
      | ret => exact hq _ _ k) h)
      (fun h => codeA_mono a st _ _ (fun e st' k => by
      cases e with
      | normal => obtain ⟨st2, g, st3, σ, h1, h2, k⟩ := k; exact .mk st2 g (.mk st3 σ h1 h2 (codeA_mono b st3 Q Q' hq k))
      | exit i => exact hq _ _ k
      | ret => exact hq _ _ k) h))
  | .cond c x y, st, Q, Q', hq, h => by
    simp only [codeA] at h ⊢
    split
    · rename_i b hv
      rw [hv] at h
      obtain ⟨h1, h2⟩ := h
      exact .mk (fun e => codeA_mono x st Q Q' hq (h1 e)) (fun e => codeA_mono y st Q Q' hq (h2 e))
    · rename_i hv
      split at h
      · rename_i b hv'; exact absurd hv' (hv b)
      · exact h
  | .block id b, st, Q, Q', hq, h => codeA_mono b st _ _ (fun e st' k => by
      cases e with
      | normal => exact hq _ _ k
      | exit i =>
        simp only at k ⊢
        split
        · rename_i hb; rw [hb] at k; exact hq _ _ k
        · rename_i hb; rw [hb] at k; exact hq _ _ k
      | ret => exact hq _ _ k) h
  | .loop b, st, Q, Q', hq, h => by
    obtain ⟨I, μ, st0, σ, hw, hf, h0, round⟩ := h
    exact .mk I μ st0 σ hw hf h0 fun st' hi => codeA_mono b st' _ _ (fun e st'' k => by
      cases e with
      | normal => exact k
      | exit i => exact hq _ _ k
      | ret => exact hq _ _ k) (round st' hi)
  | .exit id, _, _, _, hq, h => hq _ _ h
  | .ret, _, _, _, hq, h => hq _ _ h
end

/-- A loop, its states told by a family. -/
theorem cLoopK {C : Ctx} {R : FuncId → List AV → AV → Prop} {b : Code} {st : ASt} {Q : AEx → ASt → Prop} {κ : Type} (S : κ → ASt) (G : κ → Prop) (μ : κ → Nat) (k0 : κ) (σ : Nat → Nat) (hw : Weak st (S k0) σ) (hf : keepB C.fr σ (S k0).n = true) (h0 : G k0)
    (round : ∀ k, G k → codeA C R b (S k) (fun e st' => match e with | .normal => GhostN st' (fun stg => ∃ k' σ, Weak stg (S k') σ ∧ keepB C.fr σ (S k').n = true ∧ G k' ∧ μ k' < μ k) | e => Q e st')) : codeA C R (.loop b) st Q := by
  show LoopN C.fr (codeA C R b) st Q
  classical
  have least : ∀ (st : ASt) (n : Nat) (k : κ), G k → st = S k → μ k ≤ n → ∃ k, G k ∧ st = S k ∧ ∀ k', G k' → st = S k' → μ k ≤ μ k' := by
    intro st n
    induction n with
    | zero => intro k h1 h2 h3; exact ⟨k, h1, h2, fun k' _ _ => by omega⟩
    | succ n ih =>
      intro k h1 h2 h3
      by_cases hc : ∃ k', G k' ∧ st = S k' ∧ μ k' ≤ n
      · obtain ⟨k', p, q, r⟩ := hc; exact ih k' p q r
      · exact ⟨k, h1, h2, fun k' p q => Nat.le_of_lt_succ (Nat.lt_succ_of_le (Nat.le_trans h3 (Nat.lt_of_not_le fun r => hc ⟨k', p, q, r⟩)))⟩
  have hl : ∀ st : ASt, (∃ k, G k ∧ st = S k) → ∃ k, G k ∧ st = S k ∧ ∀ k', G k' → st = S k' → μ k ≤ μ k' := fun st ⟨k, p, q⟩ => least st (μ k) k p q (Nat.le_refl _)
  let M : ASt → Nat := fun st => open Classical in if h : ∃ k, G k ∧ st = S k then μ (Classical.choose (hl st h)) else 0
  have hM : ∀ st k, G k → st = S k → M st ≤ μ k := by
    intro st k p q
    have h : ∃ k, G k ∧ st = S k := ⟨k, p, q⟩
    show dite _ _ _ ≤ _
    rw [dif_pos h]
    exact (Classical.choose_spec (hl st h)).2.2 k p q
  refine .mk (fun st => ∃ k, G k ∧ st = S k) M (S k0) σ hw hf ⟨k0, h0, rfl⟩ ?_
  rintro st' h
  have e : M st' = μ (Classical.choose (hl st' h)) := dif_pos h
  obtain ⟨p, q, r⟩ := Classical.choose_spec (hl st' h)
  generalize Classical.choose (hl st' h) = k at e p q r
  subst q
  have := round k p
  refine codeA_mono b _ _ _ (fun e' st'' hq => ?_) this
  cases e' with
  | normal =>
    obtain ⟨stg, g, k', σ', h1, hf', h2, h3⟩ := hq
    exact .mk stg g ⟨S k', σ', h1, hf', ⟨k', h2, rfl⟩, by rw [e]; exact Nat.lt_of_le_of_lt (hM _ k' h2 rfl) h3⟩
  | exit i => exact hq
  | ret => exact hq

theorem keepB_zero (σ : Nat → Nat) (n : Nat) : keepB 0 σ n = true := rfl
theorem cLoop {C : Ctx} {R : FuncId → List AV → AV → Prop} {b : Code} {st : ASt} {Q : AEx → ASt → Prop} {κ : Type} (S : κ → ASt) (G : κ → Prop) (μ : κ → Nat) (k0 : κ) (σ : Nat → Nat) (hw : Weak st (S k0) σ) (h0 : G k0)
    (round : ∀ k, G k → codeA C R b (S k) (fun e st' => match e with | .normal => ∃ k' σ, Weak st' (S k') σ ∧ G k' ∧ μ k' < μ k | e => Q e st')) (hfr : C.fr = 0 := by rfl) : codeA C R (.loop b) st Q := by
  refine cLoopK S G μ k0 σ hw (by rw [hfr]; rfl) h0 fun k hk => codeA_mono b _ _ _ (fun e st' q => ?_) (round k hk)
  cases e with
  | normal => obtain ⟨k', σ', h1, h2, h3⟩ := q; exact .mk st' (.refl _) ⟨k', σ', h1, by rw [hfr]; rfl, h2, h3⟩
  | exit i => exact q
  | ret => exact q

/-! ### flat values -/
def valC : List AV → Option (List Value)
  | [] => some []
  | .v x :: cs => match valC cs with | some l => some (x :: l) | none => none
  | _ :: _ => none
def valF : AV → Option Value
  | .v x => some x
  | .agg cs => match valC cs with | some l => (match oneC l with | true => some (.agg l.toArray) | false => none) | none => none
  | _ => none
def valL : List AV → Option (List Value)
  | [] => some []
  | x :: cs => match valF x, valL cs with | some u, some l => some (u :: l) | _, _ => none
theorem valC_get : ∀ (cs : List AV) (l : List Value), valC cs = some l → cs = l.map .v
  | [], l, h => by injection h with h; subst h; rfl
  | c :: cs, l, h => by
    cases c <;> simp only [valC] at h <;> try (cases h; done)
    split at h
    · rename_i l' hl
      injection h with h; subst h
      rw [valC_get cs l' hl]; rfl
    · cases h
section
variable {S : Nat → Prop} {w : World} {β : Bt}
theorem valF_rep {a : AV} {u : Value} (h : valF a = some u) : Rep S w β a u := by
  cases a <;> simp only [valF] at h <;> try (cases h; done)
  case v x => injection h with h; subst h; exact .v _
  case agg cs =>
    split at h
    · rename_i l hl
      split at h
      · rename_i ho
        injection h with h; subst h
        have := valC_get cs l hl; subst this
        refine .agg _ _ (by simp) (fun i u hu => oneC_spec _ ho i u (by simpa using hu)) fun i a u h1 h2 => ?_
        have h2' : l[i]? = some u := by simpa using h2
        simp [h2'] at h1
        subst h1; exact .v _
      · cases h
    · cases h
theorem valF_eq {a : AV} {u v : Value} (h : valF a = some u) (hr : Rep S w β a v) : v = u := by
  cases a <;> simp only [valF] at h <;> try (cases h; done)
  case v x => injection h with h; subst h; cases hr; rfl
  case agg cs =>
    split at h
    · rename_i l hl
      split at h
      · injection h with h; subst h
        have := valC_get cs l hl; subst this
        cases hr with
        | agg _ vs hl1 h1 hh =>
          congr 1
          apply Array.ext
          · simpa using hl1.symm
          · intro i p q
            have p1 : vs[i]? = some vs[i] := Array.getElem?_eq_getElem p
            have q1 : i < l.length := by simpa using q
            have := hh i (.v l[i]) vs[i] (by simp [q1]) p1
            have := rep_v this
            rw [this]; simp
      · cases h
    · cases h
theorem valL_len : ∀ {args : List AV} {vs : List Value}, valL args = some vs → args.length = vs.length
  | [], vs, h => by injection h with h; subst h; rfl
  | x :: args, vs, h => by
    simp only [valL] at h
    split at h
    · rename_i u l h1 h2
      injection h with h; subst h
      simp [valL_len h2]
    · cases h
theorem valL_get : ∀ {args : List AV} {vs : List Value}, valL args = some vs → ∀ (i : Nat) a u, args[i]? = some a → vs[i]? = some u → valF a = some u
  | [], vs, h, i, a, u, h1, _ => by simp at h1
  | x :: args, vs, h, i, a, u, h1, h2 => by
    simp only [valL] at h
    split at h
    · rename_i u' l g1 g2
      injection h with h; subst h
      cases i with
      | zero => simp at h1 h2; subst h1; subst h2; exact g1
      | succ i => exact valL_get g2 i a u (by simpa using h1) (by simpa using h2)
    · cases h
theorem valL_rep {args : List AV} {vs : List Value} (h : valL args = some vs) : RepL S w β args vs :=
  ⟨valL_len h, fun i a u h1 h2 => valF_rep (valL_get h i a u h1 h2)⟩
theorem valL_eq {args : List AV} {vs us : List Value} (h : valL args = some vs) (hr : RepL S w β args us) : us = vs := by
  apply List.ext_getElem?
  intro i
  have l1 := valL_len h
  have l2 : args.length = us.length := hr.1
  rcases Nat.lt_or_ge i args.length with k | k
  · have e1 : args[i]? = some args[i] := List.getElem?_eq_getElem k
    have e2 : us[i]? = some us[i] := List.getElem?_eq_getElem (by omega)
    have e3 : vs[i]? = some vs[i] := List.getElem?_eq_getElem (by omega)
    rw [e2, e3, valF_eq (valL_get h i _ _ e1 e3) (hr.2 i _ _ e1 e2)]
  · rw [List.getElem?_eq_none (by omega), List.getElem?_eq_none (by omega)]
end

theorem okB {a b : Bool} (h : a = b) : Res.ok (.v (.bool a)) = .ok (.v (.bool b)) := by rw [h]
theorem okI {k : IntKind} {a b : Int} (h : a = b) : Res.ok (.v (.int k a)) = .ok (.v (.int k b)) := by rw [h]
theorem needI {p : Prop} {k : IntKind} {a b : Int} (h : a = b) : Res.need p (.v (.int k a)) = .need p (.v (.int k b)) := by rw [h]
theorem eqN (x y : Nat) : ((x : Int) == (y : Int)) = (x == y) := by rw [Bool.eq_iff_iff]; simp only [beq_iff_eq]; omega
theorem neN (x y : Nat) : ((x : Int) != (y : Int)) = (x != y) := by simp only [bne, eqN]
theorem ltN (x y : Nat) : decide ((x : Int) < (y : Int)) = decide (x < y) := by simp only [Int.ofNat_lt]
theorem leN (x y : Nat) : decide ((x : Int) ≤ (y : Int)) = decide (x ≤ y) := by simp only [Int.ofNat_le]
theorem gtN (x y : Nat) : decide ((x : Int) > (y : Int)) = decide (x > y) := ltN y x
theorem geN (x y : Nat) : decide ((x : Int) ≥ (y : Int)) = decide (x ≥ y) := leN y x
theorem modI {e B M : Nat} (h : e ≤ B) (hB : Nat.blt B M = true) : ((e % M : Nat) : Int) = ((e : Nat) : Int) := by
  have := Nat.le_of_ble_eq_true hB
  rw [Nat.mod_eq_of_lt (by omega)]
theorem subI32 {x y B : Nat} (h : y ≤ B) (hB : Nat.ble B 4294967296 = true) : IntKind.wrap .u32 ((x : Int) - (y : Int)) = (((x + 4294967296 - y) % 4294967296 : Nat) : Int) := by
  have := Nat.le_of_ble_eq_true hB
  simp only [IntKind.wrap, IntKind.signed, IntKind.bits]
  simp
  omega
theorem subI64 {x y B : Nat} (h : y ≤ B) (hB : Nat.ble B 18446744073709551616 = true) : IntKind.wrap .u64 ((x : Int) - (y : Int)) = (((x + 18446744073709551616 - y) % 18446744073709551616 : Nat) : Int) := by
  have := Nat.le_of_ble_eq_true hB
  simp only [IntKind.wrap, IntKind.signed, IntKind.bits]
  simp
  omega
theorem wrap_i64 {x : Int} (h1 : -9223372036854775808 ≤ x) (h2 : x < 9223372036854775808) : IntKind.wrap .i64 x = x := by
  simp only [IntKind.wrap, IntKind.signed, IntKind.bits]
  simp
  omega
theorem wrapI64 {e B : Nat} (h : e ≤ B) (hB : Nat.blt B 9223372036854775808 = true) : IntKind.wrap .i64 ((e : Nat) : Int) = ((e : Nat) : Int) := by
  have := Nat.le_of_ble_eq_true hB
  exact wrap_i64 (by omega) (by omega)
theorem shr_nat {x n : Nat} (c : Nat) (h : x < 2 ^ n) : Int.fdiv (x : Int) (2 ^ (min c n)) = ((x / 2 ^ c : Nat) : Int) := by
  have e : ((2 : Int) ^ (min c n)) = ((2 ^ (min c n) : Nat) : Int) := by simp
  rw [e, Int.fdiv_eq_ediv_of_nonneg _ (Int.natCast_nonneg _), ← Int.natCast_ediv]
  rcases Nat.le_total c n with k | k
  · rw [Nat.min_eq_left k]
  · rw [Nat.min_eq_right k, Nat.div_eq_of_lt h, Nat.div_eq_of_lt (Nat.lt_of_lt_of_le h (Nat.pow_le_pow_right (by decide) k))]
theorem shrI32 {x B : Nat} (c : Nat) (h : x ≤ B) (hB : Nat.ble B 4294967295 = true) : Int.fdiv (x : Int) (2 ^ (min (Int.toNat (c : Int)) (IntKind.bits .u32))) = ((x / 2 ^ c : Nat) : Int) := by
  have := Nat.le_of_ble_eq_true hB
  rw [Int.toNat_natCast]
  exact shr_nat (n := 32) c (by omega)
theorem shrI64 {x B : Nat} (c : Nat) (h : x ≤ B) (hB : Nat.ble B 18446744073709551615 = true) : Int.fdiv (x : Int) (2 ^ (min (Int.toNat (c : Int)) (IntKind.bits .u64))) = ((x / 2 ^ c : Nat) : Int) := by
  have := Nat.le_of_ble_eq_true hB
  rw [Int.toNat_natCast]
  exact shr_nat (n := 64) c (by omega)
theorem bv_nat {x B : Nat} (h : x ≤ B) (hB : Nat.ble B 4294967295 = true) : (BitVec.ofInt 32 (x : Int)).toNat = x := by
  have := Nat.le_of_ble_eq_true hB
  rw [BitVec.toNat_ofInt]; omega
theorem wrap32 {x : Nat} (h : x < 4294967296) : IntKind.wrap .u32 (x : Int) = (x : Int) := (modI (e := x) (B := x) (M := 4294967296) (Nat.le_refl _) (Nat.ble_eq_true_of_le h))
theorem andI32 {x y B D : Nat} (hx : x ≤ B) (hy : y ≤ D) (hB : Nat.ble B 4294967295 = true) (hD : Nat.ble D 4294967295 = true) :
    IntKind.wrap .u32 (BitVec.ofInt (IntKind.bits .u32) (x : Int) &&& BitVec.ofInt (IntKind.bits .u32) (y : Int)).toNat = ((x &&& y : Nat) : Int) := by
  show IntKind.wrap .u32 (BitVec.ofInt 32 (x : Int) &&& BitVec.ofInt 32 (y : Int)).toNat = _
  rw [BitVec.toNat_and, bv_nat hx hB, bv_nat hy hD]
  exact wrap32 (Nat.lt_of_le_of_lt Nat.and_le_left (Nat.lt_succ_of_le (Nat.le_trans hx (Nat.le_of_ble_eq_true hB))))
theorem orLe32 {x y B D : Nat} (hx : x ≤ B) (hy : y ≤ D) (hB : Nat.ble B 4294967295 = true) (hD : Nat.ble D 4294967295 = true) : x ||| y ≤ 4294967295 :=
  Nat.le_of_lt_succ (Nat.or_lt_two_pow (n := 32) (Nat.lt_succ_of_le (Nat.le_trans hx (Nat.le_of_ble_eq_true hB))) (Nat.lt_succ_of_le (Nat.le_trans hy (Nat.le_of_ble_eq_true hD))))
theorem orI32 {x y B D : Nat} (hx : x ≤ B) (hy : y ≤ D) (hB : Nat.ble B 4294967295 = true) (hD : Nat.ble D 4294967295 = true) :
    IntKind.wrap .u32 (BitVec.ofInt (IntKind.bits .u32) (x : Int) ||| BitVec.ofInt (IntKind.bits .u32) (y : Int)).toNat = ((x ||| y : Nat) : Int) := by
  show IntKind.wrap .u32 (BitVec.ofInt 32 (x : Int) ||| BitVec.ofInt 32 (y : Int)).toNat = _
  rw [BitVec.toNat_or, bv_nat hx hB, bv_nat hy hD]
  exact wrap32 (Nat.lt_succ_of_le (orLe32 hx hy hB hD))
theorem xorLe32 {x y B D : Nat} (hx : x ≤ B) (hy : y ≤ D) (hB : Nat.ble B 4294967295 = true) (hD : Nat.ble D 4294967295 = true) : x ^^^ y ≤ 4294967295 :=
  Nat.le_of_lt_succ (Nat.xor_lt_two_pow (n := 32) (Nat.lt_succ_of_le (Nat.le_trans hx (Nat.le_of_ble_eq_true hB))) (Nat.lt_succ_of_le (Nat.le_trans hy (Nat.le_of_ble_eq_true hD))))
theorem xorI32 {x y B D : Nat} (hx : x ≤ B) (hy : y ≤ D) (hB : Nat.ble B 4294967295 = true) (hD : Nat.ble D 4294967295 = true) :
    IntKind.wrap .u32 (BitVec.ofInt (IntKind.bits .u32) (x : Int) ^^^ BitVec.ofInt (IntKind.bits .u32) (y : Int)).toNat = ((x ^^^ y : Nat) : Int) := by
  show IntKind.wrap .u32 (BitVec.ofInt 32 (x : Int) ^^^ BitVec.ofInt 32 (y : Int)).toNat = _
  rw [BitVec.toNat_xor, bv_nat hx hB, bv_nat hy hD]
  exact wrap32 (Nat.lt_succ_of_le (xorLe32 hx hy hB hD))
theorem slot_inc (k : Nat) (h : k < 9223372036854775807) : AV.v (.int .i64 (IntKind.wrap .i64 ((k : Int) + 1))) = .v (.int .i64 ((k + 1 : Nat) : Int)) := by rw [wrap_i64 (by omega) (by omega)]; rfl
theorem retA_eq {C : Ctx} {fn : Func} {r : AV} {st : ASt} {rs : List AV} (h1 : resA C st fn.results.toList = some rs) (h2 : lenOkA st.h (retA rs)) (h3 : closedA (datA st.h (retA rs)) = true) (h4 : datA st.h (retA rs) = r) : RetA C fn r st :=
  ⟨rs, h1, h2, h3, h4 ▸ Sub.refl _⟩

/-- A contract of flat values, told of the model, is one of the second machine. -/
theorem DCall.of_flat {C : Ctx} {f : FuncId} {fn : Func} {args : List AV} {vs : List Value} {r : AV} {v : Value} (hf : C.P.funcs[f]? = some fn) (hb : fn.body.isSome = true) (hnm : (fn.name == "runtime.NumGoroutine") = false)
    (ha : valL args = some vs) (hr : valF r = some v) (hc : ∀ w, Calls C.P f vs.toArray w fun e w' => e = .returned v ∧ Below w.heap.size w w') : DCall C f args r :=
  ⟨⟨fn, hf, hb, hnm⟩, fun S w us hS hG hu => by
    rw [valL_eq ha hu]
    exact (hc w).mono fun e w' ⟨he, hB⟩ => ⟨v, he, hB, valF_rep hr⟩⟩
/-- And the other way. -/
theorem DCall.flat {C : Ctx} {f : FuncId} {args : List AV} {vs : List Value} {r : AV} {v : Value} (h : DCall C f args r) (hG : ∀ S w, GOk C S w) (ha : valL args = some vs) (hr : valF r = some v) (w : World) :
    Calls C.P f vs.toArray w fun e w' => e = .returned v ∧ Below w.heap.size w w' :=
  (h.2 (fun _ => False) w vs (fun _ h => h.elim) (hG _ _) (valL_rep ha)).mono fun e w' ⟨u, he, hB, hu⟩ => ⟨by rw [he, valF_eq hr hu], hB⟩
end Go.Proofs.YtpefnjbmbfdmmaaDoor
