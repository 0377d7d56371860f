/- The second machine: when two rows of a struct are equal. -/
import Derived.Test.YtckjihpdjefpgaaQ6
import Derived.DataReads
import Derived.Deep.Strs
namespace Go.Proofs.Ytckjihpdjefpgaa
open Go.RowKit

theorem eqVL_len : ∀ (ks : List CK) (xs ys : List Value) (b : Bool), eqVL ks xs ys = some b → xs.length = ks.length ∧ ys.length = ks.length
  | [], [], [], _, _ => ⟨rfl, rfl⟩
  | k :: ks, x :: xs, y :: ys, b, h => by
    simp only [eqVL] at h
    split at h
    · rename_i a c h1 h2
      obtain ⟨e1, e2⟩ := eqVL_len ks xs ys c h2
      exact ⟨by simp [e1], by simp [e2]⟩
    · cases h
  | [], [], _ :: _, _, h => by simp [eqVL] at h
  | [], _ :: _, _, _, h => by simp [eqVL] at h
  | _ :: _, [], _, _, h => by simp [eqVL] at h
  | _ :: _, _ :: _, [], _, h => by simp [eqVL] at h
theorem eqVL_append : ∀ (ks js : List CK) (xs ys : List Value) (b : Bool), eqVL (ks ++ js) xs ys = some b →
    ∃ b1 b2, eqVL ks (xs.take ks.length) (ys.take ks.length) = some b1 ∧ eqVL js (xs.drop ks.length) (ys.drop ks.length) = some b2 ∧ b = (b1 && b2)
  | [], js, xs, ys, b, h => ⟨true, b, by simp [eqVL], by simpa using h, by simp⟩
  | k :: ks, js, x :: xs, y :: ys, b, h => by
    simp only [List.cons_append, eqVL] at h
    split at h
    · rename_i a c h1 h2
      injection h with h; subst h
      obtain ⟨b1, b2, e1, e2, e3⟩ := eqVL_append ks js xs ys c h2
      refine ⟨a && b1, b2, ?_, by simpa using e2, by rw [e3, Bool.and_assoc]⟩
      simp only [List.length_cons, List.take_succ_cons, eqVL, h1, e1]
    · cases h
  | _ :: _, _, [], _, _, h => by simp [eqVL] at h
  | _ :: _, _, _ :: _, [], _, h => by simp [eqVL] at h

/-- The cells of a struct's fields, at running places. -/
def fieldsK (P : Program) (K : TypeId → Option (List CK)) : Nat → List Field → Option (List CK)
  | _, [] => some []
  | off, f :: fs => match f.name == "_", f.offset == off, P.info? f.type, K f.type with
    | false, true, some inf, some ks => match inf.size == ks.length, fieldsK P K (off + ks.length) fs with
      | true, some js => some (ks ++ js)
      | _, _ => none
    | _, _, _, _ => none
def cellK (P : Program) : Nat → TypeId → Option (List CK)
  | 0, _ => none
  | d + 1, t => match P.underlying t with
    | some .bool => some [.b]
    | some (.int _) => some [.i]
    | some .string => some [.s]
    | some (.struct fs) => match P.stoodInHeld t with | true => none | false => fieldsK P (cellK P d) 0 fs.toList
    | some (.array n e) => match P.info? e, cellK P d e with
      | some inf, some ks => (match inf.size == ks.length with | true => some (List.flatten (List.replicate n ks)) | false => none)
      | _, _ => none
    | _ => none

/-- Two parts of rows are found equal as their cells are. -/
def PartEq (P : Program) (D : Nat) (t : TypeId) (ks : List CK) : Prop := ∀ (xs ys : Array Value) (off : Nat) (b : Bool) (w : World),
  eqVL ks ((xs.toList.drop off).take ks.length) ((ys.toList.drop off).take ks.length) = some b →
  ∃ u v, (part t xs off).run P w = .ok u w ∧ (part t ys off).run P w = .ok v w ∧ (Op.equalIn D t u v).run P w = .ok b w

theorem eqFields {P : Program} {D : Nat} {K : TypeId → Option (List CK)} (hK : ∀ t ks inf, K t = some ks → P.info? t = some inf → inf.size = ks.length → PartEq P D t ks) :
    ∀ (fs : List Field) (off : Nat) (js : List CK) (xs ys : Array Value) (b : Bool) (w : World), fieldsK P K off fs = some js → eqVL js (xs.toList.drop off) (ys.toList.drop off) = some b →
    (forIn fs ((none, ()) : Option Bool × PUnit) (fun f r => do
        if f.name ≠ "_" then
          if !(← Op.equalIn D f.type (← part f.type xs f.offset) (← part f.type ys f.offset)) then pure (ForInStep.done (some false, ())) else pure (ForInStep.yield (none, ()))
        else pure (ForInStep.yield (none, ())) : Field → Option Bool × PUnit → Sem (ForInStep (Option Bool × PUnit)))).run P w = .ok (match b with | true => (none, ()) | false => (some false, ())) w
  | [], off, js, xs, ys, b, w, hf, h => by
    simp only [fieldsK, Option.some.injEq] at hf; subst hf
    have hb : b = true := by
      cases hx : xs.toList.drop off <;> cases hy : ys.toList.drop off <;> rw [hx, hy] at h <;> simp [eqVL] at h <;> first | exact h | exact h.symm
    subst hb; rfl
  | f :: fs, off, js, xs, ys, b, w, hf, h => by
    simp only [fieldsK] at hf
    split at hf
    · rename_i inf ks h1 h2 h3 h4
      split at hf
      · rename_i js' h5 h6
        injection hf with hf; subst hf
        have e2 : f.offset = off := by simpa using h2
        have e5 : inf.size = ks.length := by simpa using h5
        have e1 : f.name ≠ "_" := by simpa using h1
        obtain ⟨b1, b2, g1, g2, g3⟩ := eqVL_append ks js' _ _ b h
        obtain ⟨u, v, p1, p2, p3⟩ := hK f.type ks inf h4 h3 e5 xs ys off b1 w g1
        have IH := eqFields hK fs (off + ks.length) js' xs ys b2 w h6 (by simpa [List.drop_drop] using g2)
        simp only [List.forIn_cons, Sem.run_bind, e1, e2, ne_eq, not_false_eq_true, if_true, p1, p2, p3, Result.andThen_ok]
        cases b1 with
        | false => subst g3; simp
        | true =>
          simp only [Bool.not_true, Bool.false_eq_true, if_false, Sem.run_pure, Result.andThen_ok]
          rw [g3, Bool.true_and]
          simpa only [ne_eq] using IH
      · cases hf
    · cases hf

theorem eqRow {P : Program} {D : Nat} {t : TypeId} {K : TypeId → Option (List CK)} (hK : ∀ t ks inf, K t = some ks → P.info? t = some inf → inf.size = ks.length → PartEq P D t ks)
    {fs : Array Field} (hu : P.underlying t = some (.struct fs)) (hst : P.stoodInHeld t = false) {ks : List CK} (hf : fieldsK P K 0 fs.toList = some ks) {xs ys : Array Value} {b : Bool} (w : World) (h : eqVL ks xs.toList ys.toList = some b) :
    (Op.equalIn (D + 1) t (.agg xs) (.agg ys)).run P w = .ok b w := by
  rw [Op.equalIn]
  have := eqFields hK fs.toList 0 ks xs ys b w hf (by simpa using h)
  simp only [Sem.run_bind, run_underlying hu, Result.andThen_ok, show Sem.run P program w = .ok P w from rfl, hst, Bool.false_eq_true, if_false]
  rw [← Array.forIn_toList]
  simp only [ne_eq, Sem.run_bind] at this ⊢
  rw [this]
  cases b <;> rfl

theorem eqElems {P : Program} {D : Nat} {e : TypeId} {ks : List CK} {inf : TypeInfo} (hi : P.info? e = some inf) (hsz : inf.size = ks.length) (hK : PartEq P D e ks) :
    ∀ (m s : Nat) (xs ys : Array Value) (b : Bool) (w : World), eqVL (List.flatten (List.replicate m ks)) (xs.toList.drop (s * ks.length)) (ys.toList.drop (s * ks.length)) = some b →
    (forIn (List.range' s m) ((none, ()) : Option Bool × PUnit) (fun i r => do
        if !(← Op.equalIn D e (← part e xs (i * ks.length)) (← part e ys (i * ks.length))) then pure (ForInStep.done (some false, ())) else pure (ForInStep.yield (none, ())) : Nat → Option Bool × PUnit → Sem (ForInStep (Option Bool × PUnit)))).run P w = .ok (match b with | true => (none, ()) | false => (some false, ())) w
  | 0, s, xs, ys, b, w, h => by
    have hb : b = true := by
      simp only [List.replicate_zero, List.flatten_nil] at h
      cases hx : xs.toList.drop (s * ks.length) <;> cases hy : ys.toList.drop (s * ks.length) <;> rw [hx, hy] at h <;> simp [eqVL] at h <;> first | exact h | exact h.symm
    subst hb; rfl
  | m + 1, s, xs, ys, b, w, h => by
    rw [List.replicate_succ, List.flatten_cons] at h
    obtain ⟨b1, b2, g1, g2, g3⟩ := eqVL_append ks _ _ _ b h
    obtain ⟨u, v, p1, p2, p3⟩ := hK xs ys (s * ks.length) b1 w g1
    have IH := eqElems hi hsz hK m (s + 1) xs ys b2 w (by rw [Nat.add_mul, Nat.one_mul]; simpa [List.drop_drop] using g2)
    rw [List.range'_succ]
    simp only [List.forIn_cons, Sem.run_bind, p1, p2, p3, Result.andThen_ok]
    cases b1 with
    | false => subst g3; simp
    | true =>
      simp only [Bool.not_true, Bool.false_eq_true, if_false, Sem.run_pure, Result.andThen_ok]
      rw [g3, Bool.true_and]
      exact IH

theorem partEq {P : Program} : ∀ (d D : Nat), d ≤ D → ∀ t ks inf, cellK P d t = some ks → P.info? t = some inf → inf.size = ks.length → PartEq P D t ks
  | 0, _, _, t, ks, _, h, _, _ => by simp [cellK] at h
  | d + 1, 0, hD, _, _, _, _, _, _ => by omega
  | d + 1, D + 1, hD, t, ks, inf, h, hi, hsz => by
    intro xs ys off b w he
    simp only [cellK] at h
    have sc : ∀ (k : CK), ks = [k] → ∃ u v, xs.toList[off]? = some u ∧ ys.toList[off]? = some v ∧ eqV k u v = some b := by
      intro k hk; subst hk
      obtain ⟨l1, l2⟩ := eqVL_len _ _ _ _ he
      cases hx : (xs.toList.drop off) with
      | nil => rw [hx] at l1; simp at l1
      | cons u us =>
        cases hy : (ys.toList.drop off) with
        | nil => rw [hy] at l2; simp at l2
        | cons v vs =>
          rw [hx, hy] at he
          simp only [List.length_cons, List.length_nil, Nat.zero_add, List.take_succ_cons, List.take_zero, eqVL] at he
          refine ⟨u, v, ?_, ?_, ?_⟩
          · have : (xs.toList.drop off)[0]? = some u := by rw [hx]; rfl
            simpa using this
          · have : (ys.toList.drop off)[0]? = some v := by rw [hy]; rfl
            simpa using this
          · split at he
            · rename_i a c g1 g2
              injection g2 with g2; subst g2
              rw [g1]; simpa using he
            · cases he
    have pt : ∀ (dd : TypeDesc) (zs : Array Value) (u : Value), P.underlying t = some dd → dd.isRow = false → zs.toList[off]? = some u → (part t zs off).run P w = .ok u w := by
      intro dd zs u hu hr hz
      have hz' : zs[off]? = some u := by simpa using hz
      unfold part isAgg
      simp only [Sem.run_bind, run_underlying hu, Result.andThen_ok]
      cases dd <;> first | (simp [TypeDesc.isRow] at hr; done) | (simp [hz'])
    split at h
    · rename_i hu
      injection h with h; subst h
      obtain ⟨u, v, g1, g2, g3⟩ := sc .b rfl
      refine ⟨u, v, pt _ _ _ hu rfl g1, pt _ _ _ hu rfl g2, ?_⟩
      cases u <;> cases v <;> simp [eqV] at g3
      rw [Op.equalIn]
      simp only [Sem.run_bind, run_underlying hu, Result.andThen_ok, Sem.run_pure]
      simp [g3]
    · rename_i k0 hu
      injection h with h; subst h
      obtain ⟨u, v, g1, g2, g3⟩ := sc .i rfl
      refine ⟨u, v, pt _ _ _ hu rfl g1, pt _ _ _ hu rfl g2, ?_⟩
      cases u <;> cases v <;> simp only [eqV] at g3 <;> try (cases g3; done)
      split at g3
      · rename_i hk
        have := sameKind_eq hk; subst this
        rw [Op.equalIn]
        simp only [Sem.run_bind, run_underlying hu, Result.andThen_ok, if_true, Sem.run_pure]
        simpa using g3
      · cases g3
    · rename_i hu
      injection h with h; subst h
      obtain ⟨u, v, g1, g2, g3⟩ := sc .s rfl
      refine ⟨u, v, pt _ _ _ hu rfl g1, pt _ _ _ hu rfl g2, ?_⟩
      cases u <;> cases v <;> simp [eqV] at g3
      rw [Op.equalIn]
      simp only [Sem.run_bind, run_underlying hu, Result.andThen_ok, Sem.run_pure]
      simp [g3]
    · rename_i fs hu
      split at h
      · cases h
      · rename_i hst
        have IH : ∀ t ks inf, cellK P d t = some ks → P.info? t = some inf → inf.size = ks.length → PartEq P D t ks := partEq d D (by omega)
        have pa : ∀ zs : Array Value, (part t zs off).run P w = .ok (.agg (zs.extract off (off + ks.length))) w := by
          intro zs
          unfold part isAgg sizeOf typeInfo
          simp [run_underlying hu, hi, hsz]
        refine ⟨_, _, pa xs, pa ys, eqRow IH hu hst h w ?_⟩
        simpa [Array.toList_extract, List.extract] using he
    · rename_i n e hu
      split at h
      · rename_i inf' ks' h1 h2
        split at h
        · rename_i h3
          injection h with h
          have hs' : inf'.size = ks'.length := by simpa using h3
          have IH : PartEq P D e ks' := partEq d D (by omega) e ks' inf' h2 h1 hs'
          have pa : ∀ zs : Array Value, (part t zs off).run P w = .ok (.agg (zs.extract off (off + ks.length))) w := by
            intro zs
            unfold part isAgg sizeOf typeInfo
            simp [run_underlying hu, hi, hsz]
          refine ⟨_, _, pa xs, pa ys, ?_⟩
          rw [Op.equalIn]
          have hz : (sizeOf e).run P w = .ok ks'.length w := by unfold sizeOf typeInfo; simp [h1, hs']
          have L := eqElems h1 hs' IH n 0 (xs.extract off (off + ks.length)) (ys.extract off (off + ks.length)) b w (by rw [h]; simpa [Array.toList_extract, List.extract] using he)
          simp only [Sem.run_bind, run_underlying hu, Result.andThen_ok, hz]
          simp only [Std.Legacy.Range.forIn_eq_forIn_range', Std.Legacy.Range.size, Nat.sub_zero, Nat.add_one_sub_one, Nat.div_one]
          (try simp only [Sem.run_bind] at L)
          rw [L]
          cases b <;> rfl
        · cases h
      · cases h
    · cases h

/-- The cells' kinds of a struct are as the kernel reckons them. -/
theorem eqOk_of {P : Program} {d : Nat} {t : TypeId} {ks : List CK} (h : (match P.underlying t with
    | some (.struct fs) => if (!P.stoodInHeld t && !P.eqGuardType P.depth t) = true then fieldsK P (cellK P d) 0 fs.toList else none
    | _ => none) = some ks) (hd : Nat.ble d 9999 = true := by rfl) : EqOk P t ks := by
  intro xs ys b x y w he
  split at h
  · rename_i fs hu
    split at h
    · rename_i hc
      simp only [Bool.and_eq_true, Bool.not_eq_true'] at hc
      have e1 : (Op.equal t (.agg xs) (.agg ys)).run P w = .ok b w := by
        unfold Op.equal
        rw [show Op.maxDepth = 9999 + 1 from rfl]
        exact eqRow (partEq d 9999 (Nat.le_of_ble_eq_true hd)) hu hc.1 h w he
      have e2 : ∀ op, (op = .eql ∨ op = .neq) → (eqGuard op t x y (.agg xs) (.agg ys)).run P w = .ok () w := by
        intro op ho
        unfold eqGuard
        rcases ho with rfl | rfl <;> simp [show Sem.run P program w = .ok P w from rfl, hc.2]
      constructor
      · simp only [Sem.run_bind, e2 .eql (.inl rfl), Result.andThen_ok, binOp, e1, Sem.run_pure]
      · simp only [Sem.run_bind, e2 .neq (.inr rfl), Result.andThen_ok, binOp, e1, Sem.run_pure]
    · cases h
  · cases h
/-- Of an array. -/
theorem eqOk_arr {P : Program} {d : Nat} {t e : TypeId} {n : Nat} {inf : TypeInfo} {ks ks' : List CK} (hu : P.underlying t = some (.array n e)) (h1 : P.info? e = some inf) (h2 : cellK P d e = some ks') (hs : inf.size = ks'.length) (h : List.flatten (List.replicate n ks') = ks) (hg : P.eqGuardType P.depth t = false) (hd : Nat.ble d 9999 = true := by rfl) : EqOk P t ks := by
  intro xs ys b x y w he
  have e1 : (Op.equal t (.agg xs) (.agg ys)).run P w = .ok b w := by
    unfold Op.equal
    rw [show Op.maxDepth = 9999 + 1 from rfl, Op.equalIn]
    have hz : (sizeOf e).run P w = .ok ks'.length w := by unfold sizeOf typeInfo; simp [h1, hs]
    have L := eqElems h1 hs (partEq d 9999 (Nat.le_of_ble_eq_true hd) e ks' inf h2 h1 hs) n 0 xs ys b w (by rw [h]; simpa using he)
    simp only [Sem.run_bind, run_underlying hu, Result.andThen_ok, hz]
    simp only [Std.Legacy.Range.forIn_eq_forIn_range', Std.Legacy.Range.size, Nat.sub_zero, Nat.add_one_sub_one, Nat.div_one]
    (try simp only [Sem.run_bind] at L)
    rw [L]
    cases b <;> rfl
  have e2 : ∀ op, (op = .eql ∨ op = .neq) → (eqGuard op t x y (.agg xs) (.agg ys)).run P w = .ok () w := by
    intro op ho
    unfold eqGuard
    rcases ho with rfl | rfl <;> simp [show Sem.run P program w = .ok P w from rfl, hg]
  constructor
  · simp only [Sem.run_bind, e2 .eql (.inl rfl), Result.andThen_ok, binOp, e1, Sem.run_pure]
  · simp only [Sem.run_bind, e2 .neq (.inr rfl), Result.andThen_ok, binOp, e1, Sem.run_pure]
end Go.Proofs.Ytckjihpdjefpgaa

namespace Go.Proofs.Ytckjihpdjefpgaa
open Go.RowKit

def slotsF : List (Nat × AV) → Nat → AV
  | [], _ => .any
  | (i, x) :: l, j => match Nat.beq i j with | true => x | false => slotsF l j
def heapF : List (Nat × Blk) → AH
  | [], _ => none
  | (i, x) :: l, j => match Nat.beq i j with | true => some x | false => heapF l j
def WT (st : ASt) (n : Nat) (σ : Nat → Nat) : List (Nat × AV) → Prop
  | [] => True
  | (i, x) :: l => (st.t i = mapA σ x ∧ belowA n x = true) ∧ WT st n σ l
def WH (st : ASt) (n : Nat) (σ : Nat → Nat) : List (Nat × Blk) → Prop
  | [] => True
  | (i, x) :: l => (Nat.blt i n = true ∧ st.h (σ i) = some (mapB σ x) ∧ belowB n x = true) ∧ WH st n σ l
def freshL (x : Nat) : List Nat → Bool
  | [] => true
  | y :: l => match Nat.beq x y with | true => false | false => freshL x l
def nodupL : List Nat → Bool
  | [] => true
  | x :: l => match freshL x l with | true => nodupL l | false => false
theorem freshL_not : ∀ (l : List Nat) (x : Nat), freshL x l = true → x ∉ l
  | [], _, _ => by simp
  | y :: l, x, h => by
    simp only [freshL] at h
    split at h
    · cases h
    · rename_i hb
      have : x ≠ y := fun e => by subst e; simp at hb
      simp [this, freshL_not l x h]
theorem nodupL_inj {σ : Nat → Nat} : ∀ (l : List Nat), nodupL (l.map σ) = true → ∀ a ∈ l, ∀ b ∈ l, σ a = σ b → a = b
  | [], _ => by simp
  | x :: l, h => by
    simp only [List.map_cons, nodupL] at h
    split at h
    · rename_i hf
      have hn := freshL_not _ _ hf
      have ih := nodupL_inj l h
      intro a ha b hb e
      rcases List.mem_cons.1 ha with rfl | ha
      · rcases List.mem_cons.1 hb with hb | hb
        · exact hb.symm
        · exact absurd (List.mem_map.2 ⟨b, hb, e.symm⟩) hn
      · rcases List.mem_cons.1 hb with hb | hb
        · exact absurd (List.mem_map.2 ⟨a, ha, e.trans (congrArg σ hb)⟩) hn
        · exact ih a ha b hb e
    · cases h
theorem Weak.of_lists {st : ASt} {l : List (Nat × AV)} {hp : List (Nat × Blk)} {n : Nat} (σ : Nat → Nat) (ht : WT st n σ l) (hh : WH st n σ hp) (hi : nodupL ((hp.map (·.1)).map σ) = true) : Weak st ⟨slotsF l, heapF hp, n⟩ σ := by
  have keyH : ∀ (hp : List (Nat × Blk)) s blk, heapF hp s = some blk → s ∈ hp.map (·.1) := by
    intro hp
    induction hp with
    | nil => intro s blk h; simp [heapF] at h
    | cons p hp ih =>
      obtain ⟨i, x⟩ := p
      intro s blk h
      simp only [heapF] at h
      split at h
      · rename_i hb
        simp [Nat.eq_of_beq_eq_true hb]
      · simp [ih s blk h]
  refine ⟨fun i => ?_, fun s blk hs => ?_, fun s s' h1 h2 e => ?_⟩
  · clear hh hi
    induction l with
    | nil => exact .inl rfl
    | cons p l ih =>
      obtain ⟨j, x⟩ := p
      obtain ⟨⟨h1, h2⟩, h3⟩ := ht
      show slotsF _ _ = _ ∨ (_ = mapA σ (slotsF _ _) ∧ belowA n (slotsF _ _) = true)
      simp only [slotsF]
      cases hb : Nat.beq j i with
      | true => exact .inr (by rw [← Nat.eq_of_beq_eq_true hb]; exact ⟨h1, h2⟩)
      | false => exact ih h3
  · clear ht hi
    induction hp with
    | nil => cases hs
    | cons p hp ih =>
      obtain ⟨j, x⟩ := p
      obtain ⟨⟨h1, h2, h3⟩, h4⟩ := hh
      change heapF _ _ = _ at hs
      simp only [heapF] at hs
      cases hb : Nat.beq j s with
      | true =>
        rw [hb] at hs
        injection hs with hs; subst hs
        rw [← Nat.eq_of_beq_eq_true hb]
        exact ⟨Nat.le_of_ble_eq_true h1, h2, h3⟩
      | false => rw [hb] at hs; exact ih h4 hs
  · cases e1 : heapF hp s with
    | none => exact absurd e1 h1
    | some b1 =>
      cases e2 : heapF hp s' with
      | none => exact absurd e2 h2
      | some b2 => exact nodupL_inj _ hi s (keyH hp s b1 e1) s' (keyH hp s' b2 e2) e

section
variable {C : Ctx} {V : Inv C.fr} {R : FuncId → List AV → AV → Prop}
theorem node_mono {h : AH} {s : Nat} {r : Res} {K K' : AV → AH → Prop} (hk : ∀ x h, K x h → K' x h) (hn : node C R h s r K) : node C R h s r K' := by
  cases r <;> simp only [node] at hn ⊢
  case ok => exact hk _ _ hn
  case need => exact .mk hn.1 (hk _ _ hn.2)
  case idx =>
    obtain ⟨row, hr, h1⟩ := hn
    refine .mk row hr ?_
    split
    · rename_i hx; rw [hx] at h1; exact hk _ _ h1
    · rename_i hx; rw [hx] at h1; exact h1.elim
  case fx => exact .mk hn.1 (hk _ _ hn.2)
  case idxfx =>
    obtain ⟨row, hr, h1⟩ := hn
    refine .mk row hr ?_
    split
    · rename_i hx; rw [hx] at h1; exact hk _ _ h1
    · rename_i hx; rw [hx] at h1; exact h1.elim
  case str => obtain ⟨l, h1, h2⟩ := hn; exact .mk l h1 (hk _ _ h2)
  case call =>
    rcases hn with hn | hn
    · obtain ⟨x, a, b, c, d, e⟩ := hn; exact .inl (.mk x a b c d (hk _ _ e))
    · obtain ⟨x, h', a, b⟩ := hn; exact .inr (.mk x h' a (hk _ _ b))
theorem nodeG_mono {h : AH} {g : Bool} {r : Res} {K K' : AV → AH → Prop} (hk : ∀ x h, K x h → K' x h) (hn : nodeG C R h g r K) : nodeG C R h g r K' := by
  cases r <;> simp only [nodeG] at hn ⊢
  case ok => exact hk _ _ hn
  case need => exact .mk hn.1 (hk _ _ hn.2)
  case idx =>
    obtain ⟨row, hr, h1⟩ := hn
    refine .mk row hr ?_
    split
    · rename_i hx; rw [hx] at h1; exact hk _ _ h1
    · rename_i hx; rw [hx] at h1; exact h1.elim
  case str => obtain ⟨l, h1, h2⟩ := hn; exact .mk l h1 (hk _ _ h2)
  case call => obtain ⟨x, a, b, c, d, e⟩ := hn; exact .mk x a b c d (hk _ _ e)
theorem stepA_mono {all : List Oper} {o : Oper} {s : Nat} {t : Nat → AV} {h : AH} {K K' : AV → AH → Prop} (hk : ∀ x h, K x h → K' x h) (hn : stepA C R all o s t h K) : stepA C R all o s t h K' := by
  unfold stepA at hn ⊢
  split
  · rename_i hg; rw [hg] at hn; exact node_mono hk hn
  · rename_i i pol hg
    rw [hg] at hn
    simp only at hn
    split
    · rename_i hd; rw [hd] at hn; exact hn
    · rename_i d hd
      rw [hd] at hn
      simp only at hn
      split
      · rename_i hv; rw [hv] at hn; exact hn
      · rename_i g hv
        rw [hv] at hn
        simp only at hn
        split
        · rename_i hc; rw [hc] at hn; exact nodeG_mono hk hn
        · rename_i c hc; rw [hc] at hn; exact .mk hn.1 (nodeG_mono hk hn.2)
theorem regA_mono {all : List Oper} {K K' : ASt → Prop} (hk : ∀ st, K st → K' st) : ∀ (l : List Oper) (j : Nat) (st : ASt), regA C R all l j st K → regA C R all l j st K'
  | [], _, _, h => hk _ h
  | _ :: l, j, _, h => stepA_mono (fun _ _ q => regA_mono hk l (j + 1) _ q) h
theorem forL_mono {α : Type} {P P' : α → Prop} (h : ∀ x, P x → P' x) : ∀ l, forL P l → forL P' l
  | [], _ => trivial
  | x :: l, k => ⟨h x k.1, forL_mono h l k.2⟩
theorem anyA_mono {ops : Array Oper} {K K' : ASt → Prop} (hk : ∀ st, K st → K' st) : ∀ (fuel : Nat) (listed : Array Bool) (st : ASt), anyA C R ops K fuel listed st → anyA C R ops K' fuel listed st
  | 0, _, _, h => ⟨h.1, hk _ h.2⟩
  | fuel + 1, listed, st, h => ⟨h.1, forL_mono (fun i q => by
      unfold aOne at q ⊢
      split
      · rename_i o ho
        rw [ho] at q
        exact stepA_mono (fun _ _ q => anyA_mono hk fuel _ _ q) q
      · rename_i ho
        rw [ho] at q
        exact q) _ h.2⟩
theorem codeA_mono : ∀ (c : Code) (st : ASt) (Q Q' : AEx → ASt → Prop), (∀ e st, Q e st → Q' e st) → codeA C R c st Q → codeA C R c st Q'
  | .skip, _, _, _, hq, h => hq _ _ h
  | .label _, _, _, _, hq, h => hq _ _ h
  | .region _ ops dr, _, _, _, hq, h => by
    simp only [codeA] at h ⊢
    split
    · rename_i hb; rw [hb] at h; exact h.elim (fun h => .inl (anyA_mono (fun st q => hq _ st q) _ _ _ h)) fun h => .inr ⟨h.1, regA_mono (fun st q => ⟨q.1, hq _ st q.2⟩) _ _ _ h.2⟩
    · rename_i hb; rw [hb] at h; exact regA_mono (fun st q => hq _ st q) _ _ _ h
  | .seq a b, st, Q, Q', hq, h => h.elim
    (fun h => .inl (codeA_mono a st _ _ (fun e st' k => by
      cases e with
      | normal => exact codeA_mono b st' Q Q' hq k
      | exit i => exact hq _ _ k
      | ret => exact hq _ _ k) h))
    (fun h => .inr (codeA_mono a st _ _ (fun e st' k => by
      cases e with
      | normal => obtain ⟨st2, g, k⟩ := k; exact .mk st2 g (codeA_mono b st2 Q Q' hq k)
      | exit i => exact hq _ _ k
      | ret => exact hq _ _ k) h))
  | .cond c x y, st, Q, Q', hq, h => by
    simp only [codeA] at h ⊢
    split
    · rename_i b hv
      rw [hv] at h
      obtain ⟨h1, h2⟩ := h
      exact .mk (fun e => codeA_mono x st Q Q' hq (h1 e)) (fun e => codeA_mono y st Q Q' hq (h2 e))
    · rename_i hv
      split at h
      · rename_i b hv'; exact absurd hv' (hv b)
      · exact h
  | .block id b, st, Q, Q', hq, h => codeA_mono b st _ _ (fun e st' k => by
      cases e with
      | normal => exact hq _ _ k
      | exit i =>
        simp only at k ⊢
        split
        · rename_i hb; rw [hb] at k; exact hq _ _ k
        · rename_i hb; rw [hb] at k; exact hq _ _ k
      | ret => exact hq _ _ k) h
  | .loop b, st, Q, Q', hq, h => by
    obtain ⟨I, μ, st0, σ, hw, hf, h0, round⟩ := h
    exact .mk I μ st0 σ hw hf h0 fun st' hi => codeA_mono b st' _ _ (fun e st'' k => by
      cases e with
      | normal => exact k
      | exit i => exact hq _ _ k
      | ret => exact hq _ _ k) (round st' hi)
  | .exit id, _, _, _, hq, h => hq _ _ h
  | .ret, _, _, _, hq, h => hq _ _ h
end

/-- A loop, its states told by a family. -/
theorem cLoopK {C : Ctx} {R : FuncId → List AV → AV → Prop} {b : Code} {st : ASt} {Q : AEx → ASt → Prop} {κ : Type} (S : κ → ASt) (G : κ → Prop) (μ : κ → Nat) (k0 : κ) (σ : Nat → Nat) (hw : Weak st (S k0) σ) (hf : keepB C.fr σ (S k0).n = true) (h0 : G k0)
    (round : ∀ k, G k → codeA C R b (S k) (fun e st' => match e with | .normal => GhostN st' (fun stg => ∃ k' σ, Weak stg (S k') σ ∧ keepB C.fr σ (S k').n = true ∧ G k' ∧ μ k' < μ k) | e => Q e st')) : codeA C R (.loop b) st Q := by
  show LoopN C.fr (codeA C R b) st Q
  classical
  have least : ∀ (st : ASt) (n : Nat) (k : κ), G k → st = S k → μ k ≤ n → ∃ k, G k ∧ st = S k ∧ ∀ k', G k' → st = S k' → μ k ≤ μ k' := by
    intro st n
    induction n with
    | zero => intro k h1 h2 h3; exact ⟨k, h1, h2, fun k' _ _ => by omega⟩
    | succ n ih =>
      intro k h1 h2 h3
      by_cases hc : ∃ k', G k' ∧ st = S k' ∧ μ k' ≤ n
      · obtain ⟨k', p, q, r⟩ := hc; exact ih k' p q r
      · exact ⟨k, h1, h2, fun k' p q => Nat.le_of_lt_succ (Nat.lt_succ_of_le (Nat.le_trans h3 (Nat.lt_of_not_le fun r => hc ⟨k', p, q, r⟩)))⟩
  have hl : ∀ st : ASt, (∃ k, G k ∧ st = S k) → ∃ k, G k ∧ st = S k ∧ ∀ k', G k' → st = S k' → μ k ≤ μ k' := fun st ⟨k, p, q⟩ => least st (μ k) k p q (Nat.le_refl _)
  let M : ASt → Nat := fun st => open Classical in if h : ∃ k, G k ∧ st = S k then μ (Classical.choose (hl st h)) else 0
  have hM : ∀ st k, G k → st = S k → M st ≤ μ k := by
    intro st k p q
    have h : ∃ k, G k ∧ st = S k := ⟨k, p, q⟩
    show dite _ _ _ ≤ _
    rw [dif_pos h]
    exact (Classical.choose_spec (hl st h)).2.2 k p q
  refine .mk (fun st => ∃ k, G k ∧ st = S k) M (S k0) σ hw hf ⟨k0, h0, rfl⟩ ?_
  rintro st' h
  have e : M st' = μ (Classical.choose (hl st' h)) := dif_pos h
  obtain ⟨p, q, r⟩ := Classical.choose_spec (hl st' h)
  generalize Classical.choose (hl st' h) = k at e p q r
  subst q
  have := round k p
  refine codeA_mono b _ _ _ (fun e' st'' hq => ?_) this
  cases e' with
  | normal =>
    obtain ⟨stg, g, k', σ', h1, hf', h2, h3⟩ := hq
    exact .mk stg g ⟨S k', σ', h1, hf', ⟨k', h2, rfl⟩, by rw [e]; exact Nat.lt_of_le_of_lt (hM _ k' h2 rfl) h3⟩
  | exit i => exact hq
  | ret => exact hq

theorem cLoop {C : Ctx} {R : FuncId → List AV → AV → Prop} {b : Code} {st : ASt} {Q : AEx → ASt → Prop} {κ : Type} (S : κ → ASt) (G : κ → Prop) (μ : κ → Nat) (k0 : κ) (σ : Nat → Nat) (hw : Weak st (S k0) σ) (h0 : G k0)
    (round : ∀ k, G k → codeA C R b (S k) (fun e st' => match e with | .normal => ∃ k' σ, Weak st' (S k') σ ∧ G k' ∧ μ k' < μ k | e => Q e st')) (hfr : C.fr = 0 := by rfl) : codeA C R (.loop b) st Q := by
  refine cLoopK S G μ k0 σ hw (by rw [hfr]; rfl) h0 fun k hk => codeA_mono b _ _ _ (fun e st' q => ?_) (round k hk)
  cases e with
  | normal => obtain ⟨k', σ', h1, h2, h3⟩ := q; exact .mk st' (.refl _) ⟨k', σ', h1, by rw [hfr]; rfl, h2, h3⟩
  | exit i => exact q
  | ret => exact q

/-! ### flat values -/
def valC : List AV → Option (List Value)
  | [] => some []
  | .v x :: cs => match valC cs with | some l => some (x :: l) | none => none
  | _ :: _ => none
def valF : AV → Option Value
  | .v x => some x
  | .agg cs => match valC cs with | some l => (match oneC l with | true => some (.agg l.toArray) | false => none) | none => none
  | _ => none
def valL : List AV → Option (List Value)
  | [] => some []
  | x :: cs => match valF x, valL cs with | some u, some l => some (u :: l) | _, _ => none
theorem valC_get : ∀ (cs : List AV) (l : List Value), valC cs = some l → cs = l.map .v
  | [], l, h => by injection h with h; subst h; rfl
  | c :: cs, l, h => by
    cases c <;> simp only [valC] at h <;> try (cases h; done)
    split at h
    · rename_i l' hl
      injection h with h; subst h
      rw [valC_get cs l' hl]; rfl
    · cases h
section
variable {S : Nat → Prop} {w : World} {β : Bt}
theorem valF_rep {a : AV} {u : Value} (h : valF a = some u) : Rep S w β a u := by
  cases a <;> simp only [valF] at h <;> try (cases h; done)
  case v x => injection h with h; subst h; exact .v _
  case agg cs =>
    split at h
    · rename_i l hl
      split at h
      · rename_i ho
        injection h with h; subst h
        have := valC_get cs l hl; subst this
        refine .agg _ _ (by simp) (fun i u hu => oneC_spec _ ho i u (by simpa using hu)) fun i a u h1 h2 => ?_
        have h2' : l[i]? = some u := by simpa using h2
        simp [h2'] at h1
        subst h1; exact .v _
      · cases h
    · cases h
theorem valF_eq {a : AV} {u v : Value} (h : valF a = some u) (hr : Rep S w β a v) : v = u := by
  cases a <;> simp only [valF] at h <;> try (cases h; done)
  case v x => injection h with h; subst h; cases hr; rfl
  case agg cs =>
    split at h
    · rename_i l hl
      split at h
      · injection h with h; subst h
        have := valC_get cs l hl; subst this
        cases hr with
        | agg _ vs hl1 h1 hh =>
          congr 1
          apply Array.ext
          · simpa using hl1.symm
          · intro i p q
            have p1 : vs[i]? = some vs[i] := Array.getElem?_eq_getElem p
            have q1 : i < l.length := by simpa using q
            have := hh i (.v l[i]) vs[i] (by simp [q1]) p1
            have := rep_v this
            rw [this]; simp
      · cases h
    · cases h
theorem valL_len : ∀ {args : List AV} {vs : List Value}, valL args = some vs → args.length = vs.length
  | [], vs, h => by injection h with h; subst h; rfl
  | x :: args, vs, h => by
    simp only [valL] at h
    split at h
    · rename_i u l h1 h2
      injection h with h; subst h
      simp [valL_len h2]
    · cases h
theorem valL_get : ∀ {args : List AV} {vs : List Value}, valL args = some vs → ∀ (i : Nat) a u, args[i]? = some a → vs[i]? = some u → valF a = some u
  | [], vs, h, i, a, u, h1, _ => by simp at h1
  | x :: args, vs, h, i, a, u, h1, h2 => by
    simp only [valL] at h
    split at h
    · rename_i u' l g1 g2
      injection h with h; subst h
      cases i with
      | zero => simp at h1 h2; subst h1; subst h2; exact g1
      | succ i => exact valL_get g2 i a u (by simpa using h1) (by simpa using h2)
    · cases h
theorem valL_rep {args : List AV} {vs : List Value} (h : valL args = some vs) : RepL S w β args vs :=
  ⟨valL_len h, fun i a u h1 h2 => valF_rep (valL_get h i a u h1 h2)⟩
theorem valL_eq {args : List AV} {vs us : List Value} (h : valL args = some vs) (hr : RepL S w β args us) : us = vs := by
  apply List.ext_getElem?
  intro i
  have l1 := valL_len h
  have l2 : args.length = us.length := hr.1
  rcases Nat.lt_or_ge i args.length with k | k
  · have e1 : args[i]? = some args[i] := List.getElem?_eq_getElem k
    have e2 : us[i]? = some us[i] := List.getElem?_eq_getElem (by omega)
    have e3 : vs[i]? = some vs[i] := List.getElem?_eq_getElem (by omega)
    rw [e2, e3, valF_eq (valL_get h i _ _ e1 e3) (hr.2 i _ _ e1 e2)]
  · rw [List.getElem?_eq_none (by omega), List.getElem?_eq_none (by omega)]
end

theorem okB {a b : Bool} (h : a = b) : Res.ok (.v (.bool a)) = .ok (.v (.bool b)) := by rw [h]
theorem okI {k : IntKind} {a b : Int} (h : a = b) : Res.ok (.v (.int k a)) = .ok (.v (.int k b)) := by rw [h]
theorem needI {p : Prop} {k : IntKind} {a b : Int} (h : a = b) : Res.need p (.v (.int k a)) = .need p (.v (.int k b)) := by rw [h]
theorem eqN (x y : Nat) : ((x : Int) == (y : Int)) = (x == y) := by rw [Bool.eq_iff_iff]; simp only [beq_iff_eq]; omega
theorem neN (x y : Nat) : ((x : Int) != (y : Int)) = (x != y) := by simp only [bne, eqN]
theorem ltN (x y : Nat) : decide ((x : Int) < (y : Int)) = decide (x < y) := by simp only [Int.ofNat_lt]
theorem leN (x y : Nat) : decide ((x : Int) ≤ (y : Int)) = decide (x ≤ y) := by simp only [Int.ofNat_le]
theorem gtN (x y : Nat) : decide ((x : Int) > (y : Int)) = decide (x > y) := ltN y x
theorem geN (x y : Nat) : decide ((x : Int) ≥ (y : Int)) = decide (x ≥ y) := leN y x
theorem modI {e B M : Nat} (h : e ≤ B) (hB : Nat.blt B M = true) : ((e % M : Nat) : Int) = ((e : Nat) : Int) := by
  have := Nat.le_of_ble_eq_true hB
  rw [Nat.mod_eq_of_lt (by omega)]
theorem subI32 {x y B : Nat} (h : y ≤ B) (hB : Nat.ble B 4294967296 = true) : IntKind.wrap .u32 ((x : Int) - (y : Int)) = (((x + 4294967296 - y) % 4294967296 : Nat) : Int) := by
  have := Nat.le_of_ble_eq_true hB
  simp only [IntKind.wrap, IntKind.signed, IntKind.bits]
  simp
  omega
theorem subI64 {x y B : Nat} (h : y ≤ B) (hB : Nat.ble B 18446744073709551616 = true) : IntKind.wrap .u64 ((x : Int) - (y : Int)) = (((x + 18446744073709551616 - y) % 18446744073709551616 : Nat) : Int) := by
  have := Nat.le_of_ble_eq_true hB
  simp only [IntKind.wrap, IntKind.signed, IntKind.bits]
  simp
  omega
theorem wrap_i64 {x : Int} (h1 : -9223372036854775808 ≤ x) (h2 : x < 9223372036854775808) : IntKind.wrap .i64 x = x := by
  simp only [IntKind.wrap, IntKind.signed, IntKind.bits]
  simp
  omega
theorem wrapI64 {e B : Nat} (h : e ≤ B) (hB : Nat.blt B 9223372036854775808 = true) : IntKind.wrap .i64 ((e : Nat) : Int) = ((e : Nat) : Int) := by
  have := Nat.le_of_ble_eq_true hB
  exact wrap_i64 (by omega) (by omega)
theorem shr_nat {x n : Nat} (c : Nat) (h : x < 2 ^ n) : Int.fdiv (x : Int) (2 ^ (min c n)) = ((x / 2 ^ c : Nat) : Int) := by
  have e : ((2 : Int) ^ (min c n)) = ((2 ^ (min c n) : Nat) : Int) := by simp
  rw [e, Int.fdiv_eq_ediv_of_nonneg _ (Int.natCast_nonneg _), ← Int.natCast_ediv]
  rcases Nat.le_total c n with k | k
  · rw [Nat.min_eq_left k]
  · rw [Nat.min_eq_right k, Nat.div_eq_of_lt h, Nat.div_eq_of_lt (Nat.lt_of_lt_of_le h (Nat.pow_le_pow_right (by decide) k))]
theorem shrI32 {x B : Nat} (c : Nat) (h : x ≤ B) (hB : Nat.ble B 4294967295 = true) : Int.fdiv (x : Int) (2 ^ (min (Int.toNat (c : Int)) (IntKind.bits .u32))) = ((x / 2 ^ c : Nat) : Int) := by
  have := Nat.le_of_ble_eq_true hB
  rw [Int.toNat_natCast]
  exact shr_nat (n := 32) c (by omega)
theorem retA_eq {C : Ctx} {fn : Func} {r : AV} {st : ASt} {rs : List AV} (h1 : resA C st fn.results.toList = some rs) (h2 : lenOkA st.h (retA rs)) (h3 : closedA (datA st.h (retA rs)) = true) (h4 : datA st.h (retA rs) = r) : RetA C fn r st :=
  ⟨rs, h1, h2, h3, h4 ▸ Sub.refl _⟩

/-- A contract of flat values, told of the model, is one of the second machine. -/
theorem DCall.of_flat {C : Ctx} {f : FuncId} {fn : Func} {args : List AV} {vs : List Value} {r : AV} {v : Value} (hf : C.P.funcs[f]? = some fn) (hb : fn.body.isSome = true) (hnm : (fn.name == "runtime.NumGoroutine") = false)
    (ha : valL args = some vs) (hr : valF r = some v) (hc : ∀ w, Calls C.P f vs.toArray w fun e w' => e = .returned v ∧ Below w.heap.size w w') : DCall C f args r :=
  ⟨⟨fn, hf, hb, hnm⟩, fun S w us hS hG hu => by
    rw [valL_eq ha hu]
    exact (hc w).mono fun e w' ⟨he, hB⟩ => ⟨v, he, hB, valF_rep hr⟩⟩
/-- And the other way. -/
theorem DCall.flat {C : Ctx} {f : FuncId} {args : List AV} {vs : List Value} {r : AV} {v : Value} (h : DCall C f args r) (hG : ∀ S w, GOk C S w) (ha : valL args = some vs) (hr : valF r = some v) (w : World) :
    Calls C.P f vs.toArray w fun e w' => e = .returned v ∧ Below w.heap.size w w' :=
  (h.2 (fun _ => False) w vs (fun _ h => h.elim) (hG _ _) (valL_rep ha)).mono fun e w' ⟨u, he, hB, hu⟩ => ⟨by rw [he, valF_eq hr hu], hB⟩
end Go.Proofs.Ytckjihpdjefpgaa

namespace Go.Proofs.Ytckjihpdjefpgaa
open Go.RowKit

abbrev vU (n : Nat) : AV := .v (.int .u32 (n : Int))
abbrev vN (n : Nat) : AV := .v (.int .i64 (n : Int))
abbrev vI (n : Int) : AV := .v (.int .i64 n)
abbrev vB (b : Bool) : AV := .v (.bool b)
section
variable {C : Ctx} {R : FuncId → List AV → AV → Prop} {all rest : List Oper} {o : Oper} {j n : Nat} {t : Nat → AV} {h h' : AH} {K : ASt → Prop} {Q : AEx → ASt → Prop} {fn : Func} {st : ASt}
theorem rO (d : Nat) (x : AV) (k : regA C R all rest (j + 1) ⟨upd t d x, h, n⟩ K) (hg : o.guard = none := by exact rfl) (hd : o.dst = some d := by exact rfl) (hx : opA C (evA C t) h (n + j) o.op = .ok x := by exact rfl) : regA C R all (o :: rest) j ⟨t, h, n⟩ K := rOk hg hd hx k
theorem rX (d : Nat) (x : AV) (hx : opA C (evA C t) h (n + j) o.op = .ok x) (k : regA C R all rest (j + 1) ⟨upd t d x, h, n⟩ K) (hg : o.guard = none := by exact rfl) (hd : o.dst = some d := by exact rfl) : regA C R all (o :: rest) j ⟨t, h, n⟩ K := rOk hg hd hx k
theorem rE (n' : Nat) (k : K ⟨t, h, n'⟩) (e : n + j = n' := by exact rfl) : regA C R all [] j ⟨t, h, n⟩ K := rEnd e k
theorem rF (d : Nat) (x : AV) (h' : AH) (k : regA C R all rest (j + 1) ⟨upd t d x, h', n⟩ K) (hg : o.guard = none := by exact rfl) (hd : o.dst = some d := by exact rfl) (hx : opA C (evA C t) h (n + j) o.op = .fx True x h' := by exact rfl) : regA C R all (o :: rest) j ⟨t, h, n⟩ K := rFx hg hd hx trivial k
theorem rS (h' : AH) (k : regA C R all rest (j + 1) ⟨t, h', n⟩ K) (hg : o.guard = none := by exact rfl) (hd : o.dst = none := by exact rfl) (hx : opA C (evA C t) h (n + j) o.op = .fx True .any h' := by exact rfl) : regA C R all (o :: rest) j ⟨t, h, n⟩ K := rFx0 hg hd hx trivial k
theorem gO (d : Nat) (g : Bool) (x : AV) {i e : Nat} {pol : Bool} (k : regA C R all rest (j + 1) ⟨upd t d (.opt g x), h, n⟩ K) (hg : o.guard = some (i, pol) := by exact rfl) (he : (all[i]?).bind (·.dst) = some e := by exact rfl) (hgv : guardA (t e) pol = some g := by exact rfl) (hc : condsO t o.op = none := by exact rfl) (hd : o.dst = some d := by exact rfl) (hx : opA C (evA C t) h (n + j) o.op = .ok x := by exact rfl) : regA C R all (o :: rest) j ⟨t, h, n⟩ K := gOk hg he hgv hc hd hx k
theorem cR {id : Nat} {ops : Array Oper} {l : List Oper} {dr : Bool} {st : ASt} (k : regA (C.noHif dr) R l l 0 st (Q .normal)) (hl : ops.toList = l := by exact rfl) (hd : (dr && lateR l) = false := by exact rfl) : codeA C R (.region id ops dr) st Q := cReg hl k hd
theorem cEq {α : Type} [BEq α] [LawfulBEq α] (x y : α) {c : Operand} {a b : Code} (k1 : x = y → codeA C R a ⟨t, h, n⟩ Q) (k2 : ¬ x = y → codeA C R b ⟨t, h, n⟩ Q) (hv : evA C t c = .v (.bool (x == y)) := by exact rfl) : codeA C R (.cond c a b) ⟨t, h, n⟩ Q :=
  cCond hv (fun e => k1 (by simpa using e)) (fun e => k2 (by simpa using e))
/-- A condition told by a proposition. -/
theorem cPr (p : Prop) {v : Bool} (hp : v = true ↔ p) {c : Operand} {a b : Code} (k1 : p → codeA C R a ⟨t, h, n⟩ Q) (k2 : ¬ p → codeA C R b ⟨t, h, n⟩ Q) (hv : evA C t c = .v (.bool v) := by exact rfl) : codeA C R (.cond c a b) ⟨t, h, n⟩ Q :=
  cCond hv (fun e => k1 (hp.1 e)) (fun e => k2 (fun q => by rw [hp.2 q] at e; cases e))
/-- A condition that is known. -/
theorem cT {v : Bool} (hv' : v = true) {c : Operand} {a b : Code} (k1 : codeA C R a ⟨t, h, n⟩ Q) (hv : evA C t c = .v (.bool v) := by exact rfl) : codeA C R (.cond c a b) ⟨t, h, n⟩ Q :=
  cCond hv (fun _ => k1) (fun e => by rw [hv'] at e; cases e)
theorem fI {k : IntKind} {x y : Int} (h1 : resA C st fn.results.toList = some [.v (.int k x)]) (e : x = y) : RetA C fn (.v (.int k y)) st := retA_eq h1 trivial rfl (by rw [e]; rfl)
theorem fB {x y : Bool} (h1 : resA C st fn.results.toList = some [.v (.bool x)]) (e : x = y) : RetA C fn (.v (.bool y)) st := retA_eq h1 trivial rfl (by rw [e]; rfl)
theorem fS {x y : ByteArray} (h1 : resA C st fn.results.toList = some [.v (.string x)]) (e : x = y) : RetA C fn (.v (.string y)) st := retA_eq h1 trivial rfl (by rw [e]; rfl)
end
theorem c2 (c x y : Bool) : cond2 c x y = (c && x || !c && y) := by cases c <;> simp [cond2]
theorem c2or (x y : Bool) {p q : Prop} (hx : x = true ↔ p) (hy : y = true ↔ q) : cond2 x true y = true ↔ (p ∨ q) := by rw [← hx, ← hy]; cases x <;> simp [cond2]
theorem c2and (x y : Bool) {p q : Prop} (hx : x = true ↔ p) (hy : y = true ↔ q) : cond2 x y false = true ↔ (p ∧ q) := by rw [← hx, ← hy]; cases x <;> simp [cond2]
theorem pEq {α : Type} [BEq α] [LawfulBEq α] {x y : α} : (x == y) = true ↔ x = y := by simp
theorem pNe {α : Type} [BEq α] [LawfulBEq α] {x y : α} : (x != y) = true ↔ ¬ x = y := by simp
theorem pDec {p : Prop} [Decidable p] : decide p = true ↔ p := by simp
theorem pNot {b : Bool} {p : Prop} (h : b = true ↔ p) : (!b) = true ↔ ¬ p := by rw [← h]; cases b <;> simp
end Go.Proofs.Ytckjihpdjefpgaa

namespace Go.Proofs.Ytckjihpdjefpgaa
open Go.RowKit Go.ChangeShapes Go.WideShapes Go.ChangeAt Go.Deep

/-- Cells as a variable's type says. -/
inductive TyV (P : Program) : TypeId → List AV → Prop
  | bool {t : TypeId} (h : P.underlying t = some .bool) (b : Bool) : TyV P t [.v (.bool b)]
  | int {t : TypeId} {k : IntKind} (h : P.underlying t = some (.int k)) (n : Int) (hn : (Lit.int k n).wf = true) : TyV P t [.v (.int k n)]
  | string {t : TypeId} (h : P.underlying t = some .string) (s : ByteArray) (hs : s.size ≤ maxLen) : TyV P t [.v (.string s)]
  | slice {t e : TypeId} (h : P.underlying t = some (.slice e)) (rows : List (List AV)) (hl : rows.length ≤ maxLen) (hr : ∀ row ∈ rows, TyV P e row) (hrs : ∀ row ∈ rows, row.length = P.cellsOf e) : TyV P t [.sl (P.cellsOf e) rows false]
  | struct {t : TypeId} {fs : Array Field} (h : P.underlying t = some (.struct fs)) (parts : Nat → List AV) (hp : ∀ (j : Nat) f, fs[j]? = some f → TyV P f.type (parts j)) : TyV P t ((List.range fs.size).flatMap parts)
  | array {t e : TypeId} {n : Nat} (h : P.underlying t = some (.array n e)) (parts : Nat → List AV) (hp : ∀ j, j < n → TyV P e (parts j)) : TyV P t ((List.range n).flatMap parts)

/-- Offsets that run on. -/
def runsF (P : Program) : Nat → List Field → Option Nat
  | o, [] => some o
  | o, f :: fs => match Nat.beq f.offset o with | true => runsF P (o + P.cellsOf f.type) fs | false => none
/-- Types of numbers, strings, slices, structs, arrays; their layout. -/
def plainT (P : Program) : Nat → TypeId → Bool
  | 0, _ => false
  | d + 1, t => match P.underlying t with
    | some .bool | some (.int _) | some .string => true
    | some (.slice e) => Nat.blt 0 (P.cellsOf e) && plainT P d e
    | some (.struct fs) => (match runsF P 0 fs.toList with | some n => Nat.beq n (P.cellsOf t) | none => false) && fs.toList.all (fun f => plainT P d f.type)
    | some (.array n e) => Nat.beq (n * P.cellsOf e) (P.cellsOf t) && plainT P d e
    | _ => false

section
variable {H : Type} {enc : TypeId × Value → H} {P : Program} {w : World} {base : Nat} {spare : Nat → Bool} {held : Bool}

/-- What is said of cells. -/
structure Opened (P : Program) (w : World) (t : TypeId) (cs : List AV) (vals : List Value) : Prop where
  rep : RepL (· < w.heap.size) w noB cs vals
  one : ∀ u ∈ vals, u.oneCell' = true
  ty : TyV P t cs

theorem repL_flat {S : Nat → Prop} {β : Bt} : ∀ (n : Nat) (A : Nat → List AV) (V : Nat → List Value), (∀ i, i < n → RepL S w β (A i) (V i)) → RepL S w β ((List.range n).flatMap A) ((List.range n).flatMap V)
  | 0, _, _, _ => by simpa using RepL.nil S w β
  | n + 1, A, V, h => by
    rw [List.range_succ, List.flatMap_append, List.flatMap_append]
    have ih := repL_flat n A V fun i hi => h i (by omega)
    have h1 := h n (by omega)
    simp only [List.flatMap_cons, List.flatMap_nil, List.append_nil]
    refine ⟨by simp [ih.1, h1.1], fun i a u ha hu => ?_⟩
    rcases Nat.lt_or_ge i ((List.range n).flatMap A).length with k | k
    · rw [List.getElem?_append_left k] at ha
      rw [List.getElem?_append_left (by rw [← ih.1]; exact k)] at hu
      exact ih.2 i a u ha hu
    · rw [List.getElem?_append_right k] at ha
      rw [List.getElem?_append_right (by rw [← ih.1]; exact k), ← ih.1] at hu
      exact h1.2 _ a u ha hu

theorem runs_flat : ∀ (fs : List Field) (o n : Nat) (vals : List Value), runsF P o fs = some n → o ≤ vals.length → n ≤ vals.length → o ≤ n ∧
    (List.range fs.length).flatMap (fun j => match (fs[j]? : Option Field) with | some f => (vals.drop (Field.offset f)).take (P.cellsOf (Field.type f)) | none => []) = (vals.drop o).take (n - o)
  | [], o, n, vals, h, _, _ => by
    simp only [runsF, Option.some.injEq] at h; subst h; simp
  | f :: fs, o, n, vals, h, ho, hn => by
    simp only [runsF] at h
    split at h
    · rename_i hb
      have hb := Nat.eq_of_beq_eq_true hb
      have hle : o + P.cellsOf f.type ≤ n := by
        have : ∀ (fs : List Field) (o n : Nat), runsF P o fs = some n → o ≤ n := by
          intro fs
          induction fs with
          | nil => intro o n h; simp only [runsF, Option.some.injEq] at h; omega
          | cons f fs ih =>
            intro o n h
            simp only [runsF] at h
            split at h
            · have := ih _ _ h; omega
            · cases h
        exact this fs _ _ h
      obtain ⟨h1, h2⟩ := runs_flat fs (o + P.cellsOf f.type) n vals h (by omega) hn
      refine ⟨by omega, ?_⟩
      rw [List.length_cons, List.range_succ_eq_map, List.flatMap_cons, List.flatMap_map]
      simp only [List.getElem?_cons_zero, Function.comp_def, List.getElem?_cons_succ]
      rw [h2, hb]
      have : n - o = P.cellsOf f.type + (n - (o + P.cellsOf f.type)) := by omega
      rw [this, List.take_add, List.drop_drop]
    · cases h

theorem segs_flat (vals : List Value) (sz : Nat) : ∀ n, n * sz ≤ vals.length → (List.range n).flatMap (fun i => (vals.drop (i * sz)).take sz) = vals.take (n * sz)
  | 0, _ => by simp
  | n + 1, h => by
    rw [Nat.add_mul, Nat.one_mul] at h
    rw [List.range_succ, List.flatMap_append, segs_flat vals sz n (by omega), Nat.add_mul, Nat.one_mul, List.take_add]
    simp

theorem trod_opened : ∀ (D fuel : Nat) (t : TypeId) (vals : List Value) (x : DataW H × List MemPlace), DataW.trod enc P w base spare held fuel t vals = some x → plainT P D t = true → ∃ cs, Opened P w t cs vals
  | 0, _, _, _, _, _, h => by simp [plainT] at h
  | D + 1, fuel, t, vals, x, h, hp => by
    have single : ∀ (a : AV) (u : Value), Rep (· < w.heap.size) w noB a u → u.oneCell' = true → TyV P t [a] → Opened P w t [a] [u] := fun a u h1 h2 h3 => ⟨.cons h1 (.nil _ _ _), fun v hv => by simp at hv; subst hv; exact h2, h3⟩
    unfold plainT at hp
    cases hu : P.underlying t with
    | none => rw [hu] at hp; cases hp
    | some d =>
      rw [hu] at hp
      cases d <;> simp only [Bool.false_eq_true] at hp <;> try (cases hp; done)
      case bool =>
        obtain ⟨b, rfl, _⟩ := DataW.trod_bool hu h
        exact ⟨_, single _ _ (.v _) rfl (.bool hu b)⟩
      case int k =>
        obtain ⟨n, rfl, _, hw⟩ := DataW.trod_int hu h
        exact ⟨_, single _ _ (.v _) rfl (.int hu n hw)⟩
      case string =>
        obtain ⟨s, rfl, _, hs⟩ := DataW.trod_string hu h
        exact ⟨_, single _ _ (.v _) rfl (.string hu s hs)⟩
      case slice e =>
        simp only [Bool.and_eq_true] at hp
        obtain ⟨hc0, hp⟩ := hp
        have hc0 : 0 < P.cellsOf e := Nat.le_of_ble_eq_true hc0
        rcases DataW.trod_slice hu h with ⟨rfl, _⟩ | ⟨a, len, cap, elems, rest, n, rfl, rfl, _, hb, hl, hm, he, hel, _⟩
        · exact ⟨_, single (.sl (P.cellsOf e) [] false) _ (.sl _ [] false none 0 0 0 (fun _ _ => .bool false) (by simp) (by simp) (fun h => by cases h) (fun _ h => by simp at h) (fun h => by simp at h) (fun i row j a h => by simp at h) (fun _ _ => rfl) (fun i row j a h => by simp at h)) rfl (.slice hu [] (by simp) (fun _ h => by simp at h) (fun _ h => by simp at h))⟩
        · have row : ∀ i, ∃ cs us, i < len → Opened P w e cs us ∧ us.length = P.cellsOf e ∧ ∀ (j : Nat), j < P.cellsOf e → w.cell? ((a.add (i * P.cellsOf e)).add j) = us[j]? := by
            intro i
            by_cases hi : i < len
            · have h1 := hel i hi
              have h2 : elems[i]? = some (elems[i]'(by omega)) := List.getElem?_eq_getElem (by omega)
              rw [h2, Option.bind_eq_some_iff] at h1
              obtain ⟨us, g1, g2⟩ := h1
              obtain ⟨cs, hcs⟩ := trod_opened D n e us _ g2 hp
              unfold World.cells? at g1
              split at g1
              · have l1 : us.length = P.cellsOf e := by simpa using mapM_some_length g1
                exact ⟨cs, us, fun _ => ⟨hcs, l1, fun j hj => mapM_some_get g1 j j (by simp [hj])⟩⟩
              · cases g1
            · exact ⟨[], [], fun h => absurd h hi⟩
          obtain ⟨A, hA⟩ := Classical.axiomOfChoice row
          obtain ⟨V, hV⟩ := Classical.axiomOfChoice hA
          have lenA : ∀ i, i < len → (A i).length = P.cellsOf e := fun i hi => (hV i hi).1.rep.1.trans (hV i hi).2.1
          have spot : ∀ i, i < len → 0 < P.cellsOf e → a.spot = none ∨ i * P.cellsOf e ≠ 0 := by
            intro i hi h0
            by_cases hz : i * P.cellsOf e = 0
            · left
              have h1 := (hV i hi).2.2 0 h0
              have h2 : (V i)[0]? = some ((V i)[0]'(by rw [(hV i hi).2.1]; exact h0)) := List.getElem?_eq_getElem _
              rw [h2] at h1
              simp only [Addr.add, hz, if_true, World.cell?] at h1
              split at h1
              · cases hs : a.spot <;> simp [hs] at h1 ⊢
              · cases h1
            · exact .inr hz
          have hspot : 0 < len → 0 < P.cellsOf e → a.spot = none := fun h1 h2 => (spot 0 h1 h2).elim id fun h => absurd (Nat.zero_mul _) h
          have cell : ∀ i, i < len → ∀ (j : Nat), j < P.cellsOf e → w.cell? ⟨a.block, a.off + i * P.cellsOf e + j, none⟩ = (V i)[j]? := by
            intro i hi j hj
            rw [← (hV i hi).2.2 j hj]
            have hsp := hspot (by omega) (by omega)
            congr 1
            obtain ⟨b, o, sp⟩ := a
            simp only at hsp
            subst hsp
            unfold Addr.add
            by_cases h1 : i * P.cellsOf e = 0 <;> by_cases h2 : j = 0 <;> simp [h1, h2]
          have hmem : ∀ row ∈ (List.range len).map A, ∃ i, i < len ∧ A i = row := fun row hr => by simpa using hr
          have at' : ∀ (i : Nat) row, ((List.range len).map A)[i]? = some row → i < len ∧ row = A i := fun i row h => by
            rw [List.getElem?_map] at h
            rcases Nat.lt_or_ge i len with hi | hi
            · rw [List.getElem?_range hi] at h
              exact ⟨hi, by simpa using h.symm⟩
            · rw [List.getElem?_eq_none (by simpa using hi)] at h; cases h
          have hval : ∀ i, i < len → ∀ (j : Nat) x, (A i)[j]? = some x → ∃ u, (V i)[j]? = some u ∧ (if i < len ∧ j < P.cellsOf e then (V i).getD j (.bool false) else .bool false) = u ∧ j < P.cellsOf e := by
            intro i hi j x hx
            have hj : j < P.cellsOf e := by rw [← lenA i hi]; exact (List.getElem?_eq_some_iff.1 hx).1
            have hj' : j < (V i).length := by rw [(hV i hi).2.1]; exact hj
            exact ⟨(V i)[j], List.getElem?_eq_getElem hj', by simp [hi, hj, hj'], hj⟩
          refine ⟨_, single (.sl (P.cellsOf e) ((List.range len).map A) false) _ ?_ rfl (.slice hu _ (by simp; omega) (fun row hr => ?_) (fun row hr => ?_))⟩
          · have := Rep.sl (S := (· < w.heap.size)) (w := w) (β := noB) (P.cellsOf e) ((List.range len).map A) false (if 0 < len then some ⟨a.block, a.off, none⟩ else some a) cap a.block a.off
              (fun i j => if i < len ∧ j < P.cellsOf e then (V i).getD j (.bool false) else .bool false) (by simpa using hl) hm (fun h => by cases h)
              (fun row hr => by obtain ⟨i, hi, rfl⟩ := hmem row hr; exact lenA i hi) ?_ ?_ ?_ ?_
            · simp only [List.length_map, List.length_range] at this
              by_cases h0 : 0 < len
              · rw [if_pos h0] at this
                have hsp := hspot h0 hc0
                obtain ⟨b, o, sp⟩ := a
                simp only at hsp; subst hsp
                exact this
              · rw [if_neg h0] at this; exact this
            · intro h0
              simp only [List.length_map, List.length_range] at h0
              rw [if_pos h0]
              refine ⟨rfl, ?_⟩
              have h1 := cell 0 h0 0 hc0
              have h2 : (V 0)[0]? = some ((V 0)[0]'(by rw [(hV 0 h0).2.1]; exact hc0)) := List.getElem?_eq_getElem _
              rw [h2] at h1
              simp only [World.cell?] at h1
              split at h1
              · rename_i hb; exact lt_of_heap hb
              · cases h1
            · intro i row j x h1 h2
              obtain ⟨hi, rfl⟩ := at' i row h1
              obtain ⟨u, g1, g2, g3⟩ := hval i hi j x h2
              rw [cell i hi j g3, g2, g1]
            · intro i j
              split
              · rename_i hc
                have hj' : j < (V i).length := by rw [(hV i hc.1).2.1]; exact hc.2
                rw [List.getD_eq_getElem?_getD, List.getElem?_eq_getElem hj']
                exact (hV i hc.1).1.one _ (List.getElem_mem hj')
              · rfl
            · intro i row j x h1 h2
              obtain ⟨hi, rfl⟩ := at' i row h1
              obtain ⟨u, g1, g2, g3⟩ := hval i hi j x h2
              rw [g2]
              exact (hV i hi).1.rep.2 j x u h2 g1
          · obtain ⟨i, hi, rfl⟩ := hmem row hr; exact (hV i hi).1.ty
          · obtain ⟨i, hi, rfl⟩ := hmem row hr; exact lenA i hi
      case struct fs =>
        simp only [Bool.and_eq_true] at hp
        obtain ⟨hp1, hp2⟩ := hp
        split at hp1
        · rename_i n hn
          have hn' := Nat.eq_of_beq_eq_true hp1
          obtain ⟨xs, m, rfl, _, hlen, hxl, hfd⟩ := DataW.trod_struct hu h
          have part : ∀ j : Nat, ∃ cs, ∀ f : Field, fs[j]? = some f → Opened P w f.type cs ((vals.drop f.offset).take (P.cellsOf f.type)) := by
            intro j
            cases hf : fs[j]? with
            | none => exact ⟨[], fun f hf => by cases hf⟩
            | some f =>
              have h1 := hfd j f hf
              have hj : j < fs.size := (Array.getElem?_eq_some_iff.1 hf).1
              rw [List.getElem?_eq_getElem (by omega)] at h1
              obtain ⟨cs, hcs⟩ := trod_opened D m f.type _ _ h1 (List.all_eq_true.1 hp2 f (Array.mem_toList_iff.2 (Array.mem_of_getElem? hf)))
              exact ⟨cs, fun f' hf' => by injection hf' with hf'; subst hf'; exact hcs⟩
          obtain ⟨A, hA⟩ := Classical.axiomOfChoice part
          obtain ⟨_, hr⟩ := runs_flat fs.toList 0 n vals hn (Nat.zero_le _) (by omega)
          have hall : (List.range fs.size).flatMap (fun j => match (fs[j]? : Option Field) with | some f => (vals.drop (Field.offset f)).take (P.cellsOf (Field.type f)) | none => []) = vals := by
            have : (List.range fs.toList.length).flatMap (fun j => match (fs.toList[j]? : Option Field) with | some f => (vals.drop f.offset).take (P.cellsOf f.type) | none => []) = vals := by
              rw [hr]; simp [hn', ← hlen]
            simpa using this
          have hrep := repL_flat (S := (· < w.heap.size)) (w := w) (β := noB) fs.size A (fun j => match (fs[j]? : Option Field) with | some f => (vals.drop (Field.offset f)).take (P.cellsOf (Field.type f)) | none => []) (fun j hj => by
            have hf : fs[j]? = some fs[j] := Array.getElem?_eq_getElem hj
            simp only [hf]
            exact (hA j _ hf).rep)
          rw [hall] at hrep
          refine ⟨_, hrep, fun u hu' => ?_, .struct hu A fun j f hf => (hA j f hf).ty⟩
          rw [← hall] at hu'
          obtain ⟨j, hj, hju⟩ := List.mem_flatMap.1 hu'
          have hj' : j < fs.size := by simpa using hj
          have hf : fs[j]? = some fs[j] := Array.getElem?_eq_getElem hj'
          simp only [hf] at hju
          exact (hA j _ hf).one u hju
        · cases hp1
      case array n e =>
        simp only [Bool.and_eq_true] at hp
        obtain ⟨hp1, hp2⟩ := hp
        have hn := Nat.eq_of_beq_eq_true hp1
        obtain ⟨xs, m, rfl, _, hlen, hxl, hfd⟩ := DataW.trod_array hu h
        have part : ∀ i, ∃ cs, i < n → Opened P w e cs ((vals.drop (i * P.cellsOf e)).take (P.cellsOf e)) := by
          intro i
          by_cases hi : i < n
          · have h1 := hfd i hi
            rw [List.getElem?_eq_getElem (by omega)] at h1
            obtain ⟨cs, hcs⟩ := trod_opened D m e _ _ h1 hp2
            exact ⟨cs, fun _ => hcs⟩
          · exact ⟨[], fun h => absurd h hi⟩
        obtain ⟨A, hA⟩ := Classical.axiomOfChoice part
        have hall := segs_flat vals (P.cellsOf e) n (by omega)
        rw [hn, ← hlen, List.take_length] at hall
        have hrep := repL_flat (S := (· < w.heap.size)) (w := w) (β := noB) n A _ (fun j hj => (hA j hj).rep)
        rw [hall] at hrep
        refine ⟨_, hrep, fun u hu' => ?_, .array hu A fun j hj => (hA j hj).ty⟩
        rw [← hall] at hu'
        obtain ⟨j, hj, hju⟩ := List.mem_flatMap.1 hu'
        exact (hA j (by simpa using hj)).one u hju
end
end Go.Proofs.Ytckjihpdjefpgaa
