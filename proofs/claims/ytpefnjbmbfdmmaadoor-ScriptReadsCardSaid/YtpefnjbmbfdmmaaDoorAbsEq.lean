/- The second machine: when two rows of a struct are equal. -/
import Derived.Test.YtpefnjbmbfdmmaaDoorAbsTy
namespace Go.Proofs.YtpefnjbmbfdmmaaDoor
open Go.RowKit

theorem eqVL_len : ∀ (ks : List CK) (xs ys : List Value) (b : Bool), eqVL ks xs ys = some b → xs.length = ks.length ∧ ys.length = ks.length
  | [], [], [], _, _ => ⟨rfl, rfl⟩
  | k :: ks, x :: xs, y :: ys, b, h => by
    simp only [eqVL] at h
    split at h
    · rename_i a c h1 h2
      obtain ⟨e1, e2⟩ := eqVL_len ks xs ys c h2
      exact ⟨by simp [e1], by simp [e2]⟩
    · cases h
  | [], [], _ :: _, _, h => by simp [eqVL] at h
  | [], _ :: _, _, _, h => by simp [eqVL] at h
  | _ :: _, [], _, _, h => by simp [eqVL] at h
  | _ :: _, _ :: _, [], _, h => by simp [eqVL] at h
theorem eqVL_append : ∀ (ks js : List CK) (xs ys : List Value) (b : Bool), eqVL (ks ++ js) xs ys = some b →
    ∃ b1 b2, eqVL ks (xs.take ks.length) (ys.take ks.length) = some b1 ∧ eqVL js (xs.drop ks.length) (ys.drop ks.length) = some b2 ∧ b = (b1 && b2)
  | [], js, xs, ys, b, h => ⟨true, b, by simp [eqVL], by simpa using h, by simp⟩
  | k :: ks, js, x :: xs, y :: ys, b, h => by
    simp only [List.cons_append, eqVL] at h
    split at h
    · rename_i a c h1 h2
      injection h with h; subst h
      obtain ⟨b1, b2, e1, e2, e3⟩ := eqVL_append ks js xs ys c h2
      refine ⟨a && b1, b2, ?_, by simpa using e2, by rw [e3, Bool.and_assoc]⟩
      simp only [List.length_cons, List.take_succ_cons, eqVL, h1, e1]
    · cases h
  | _ :: _, _, [], _, _, h => by simp [eqVL] at h
  | _ :: _, _, _ :: _, [], _, h => by simp [eqVL] at h

/-- The cells of a struct's fields, at running places. -/
def fieldsK (P : Program) (K : TypeId → Option (List CK)) : Nat → List Field → Option (List CK)
  | _, [] => some []
  | off, f :: fs => match f.name == "_", f.offset == off, P.info? f.type, K f.type with
    | false, true, some inf, some ks => match inf.size == ks.length, fieldsK P K (off + ks.length) fs with
      | true, some js => some (ks ++ js)
      | _, _ => none
    | _, _, _, _ => none
def cellK (P : Program) : Nat → TypeId → Option (List CK)
  | 0, _ => none
  | d + 1, t => match P.underlying t with
    | some .bool => some [.b]
    | some (.int _) => some [.i]
    | some .string => some [.s]
    | some (.struct fs) => match P.stoodInHeld t with | true => none | false => fieldsK P (cellK P d) 0 fs.toList
    | some (.array n e) => match P.info? e, cellK P d e with
      | some inf, some ks => (match inf.size == ks.length with | true => some (List.flatten (List.replicate n ks)) | false => none)
      | _, _ => none
    | _ => none

/-- Two parts of rows are found equal as their cells are. -/
def PartEq (P : Program) (D : Nat) (t : TypeId) (ks : List CK) : Prop := ∀ (xs ys : Array Value) (off : Nat) (b : Bool) (w : World),
  eqVL ks ((xs.toList.drop off).take ks.length) ((ys.toList.drop off).take ks.length) = some b →
  ∃ u v, (part t xs off).run P w = .ok u w ∧ (part t ys off).run P w = .ok v w ∧ (Op.equalIn D t u v).run P w = .ok b w

theorem eqFields {P : Program} {D : Nat} {K : TypeId → Option (List CK)} (hK : ∀ t ks inf, K t = some ks → P.info? t = some inf → inf.size = ks.length → PartEq P D t ks) :
    ∀ (fs : List Field) (off : Nat) (js : List CK) (xs ys : Array Value) (b : Bool) (w : World), fieldsK P K off fs = some js → eqVL js (xs.toList.drop off) (ys.toList.drop off) = some b →
    (forIn fs ((none, ()) : Option Bool × PUnit) (fun f r => do
        if f.name ≠ "_" then
          if !(← Op.equalIn D f.type (← part f.type xs f.offset) (← part f.type ys f.offset)) then pure (ForInStep.done (some false, ())) else pure (ForInStep.yield (none, ()))
        else pure (ForInStep.yield (none, ())) : Field → Option Bool × PUnit → Sem (ForInStep (Option Bool × PUnit)))).run P w = .ok (match b with | true => (none, ()) | false => (some false, ())) w
  | [], off, js, xs, ys, b, w, hf, h => by
    simp only [fieldsK, Option.some.injEq] at hf; subst hf
    have hb : b = true := by
      cases hx : xs.toList.drop off <;> cases hy : ys.toList.drop off <;> rw [hx, hy] at h <;> simp [eqVL] at h <;> first | exact h | exact h.symm
    subst hb; rfl
  | f :: fs, off, js, xs, ys, b, w, hf, h => by
    simp only [fieldsK] at hf
    split at hf
    · rename_i inf ks h1 h2 h3 h4
      split at hf
      · rename_i js' h5 h6
        injection hf with hf; subst hf
        have e2 : f.offset = off := by simpa using h2
        have e5 : inf.size = ks.length := by simpa using h5
        have e1 : f.name ≠ "_" := by simpa using h1
        obtain ⟨b1, b2, g1, g2, g3⟩ := eqVL_append ks js' _ _ b h
        obtain ⟨u, v, p1, p2, p3⟩ := hK f.type ks inf h4 h3 e5 xs ys off b1 w g1
        have IH := eqFields hK fs (off + ks.length) js' xs ys b2 w h6 (by simpa [List.drop_drop] using g2)
        simp only [List.forIn_cons, Sem.run_bind, e1, e2, ne_eq, not_false_eq_true, if_true, p1, p2, p3, Result.andThen_ok]
        cases b1 with
        | false => subst g3; simp
        | true =>
          simp only [Bool.not_true, Bool.false_eq_true, if_false, Sem.run_pure, Result.andThen_ok]
          rw [g3, Bool.true_and]
          simpa only [ne_eq] using IH
      · cases hf
    · cases hf

theorem eqRow {P : Program} {D : Nat} {t : TypeId} {K : TypeId → Option (List CK)} (hK : ∀ t ks inf, K t = some ks → P.info? t = some inf → inf.size = ks.length → PartEq P D t ks)
    {fs : Array Field} (hu : P.underlying t = some (.struct fs)) (hst : P.stoodInHeld t = false) {ks : List CK} (hf : fieldsK P K 0 fs.toList = some ks) {xs ys : Array Value} {b : Bool} (w : World) (h : eqVL ks xs.toList ys.toList = some b) :
    (Op.equalIn (D + 1) t (.agg xs) (.agg ys)).run P w = .ok b w := by
  rw [Op.equalIn]
  have := eqFields hK fs.toList 0 ks xs ys b w hf (by simpa using h)
  simp only [Sem.run_bind, run_underlying hu, Result.andThen_ok, show Sem.run P program w = .ok P w from rfl, hst, Bool.false_eq_true, if_false]
  rw [← Array.forIn_toList]
  simp only [ne_eq, Sem.run_bind] at this ⊢
  rw [this]
  cases b <;> rfl

theorem eqElems {P : Program} {D : Nat} {e : TypeId} {ks : List CK} {inf : TypeInfo} (hi : P.info? e = some inf) (hsz : inf.size = ks.length) (hK : PartEq P D e ks) :
    ∀ (m s : Nat) (xs ys : Array Value) (b : Bool) (w : World), eqVL (List.flatten (List.replicate m ks)) (xs.toList.drop (s * ks.length)) (ys.toList.drop (s * ks.length)) = some b →
    (forIn (List.range' s m) ((none, ()) : Option Bool × PUnit) (fun i r => do
        if !(← Op.equalIn D e (← part e xs (i * ks.length)) (← part e ys (i * ks.length))) then pure (ForInStep.done (some false, ())) else pure (ForInStep.yield (none, ())) : Nat → Option Bool × PUnit → Sem (ForInStep (Option Bool × PUnit)))).run P w = .ok (match b with | true => (none, ()) | false => (some false, ())) w
  | 0, s, xs, ys, b, w, h => by
    have hb : b = true := by
      simp only [List.replicate_zero, List.flatten_nil] at h
      cases hx : xs.toList.drop (s * ks.length) <;> cases hy : ys.toList.drop (s * ks.length) <;> rw [hx, hy] at h <;> simp [eqVL] at h <;> first | exact h | exact h.symm
    subst hb; rfl
  | m + 1, s, xs, ys, b, w, h => by
    rw [List.replicate_succ, List.flatten_cons] at h
    obtain ⟨b1, b2, g1, g2, g3⟩ := eqVL_append ks _ _ _ b h
    obtain ⟨u, v, p1, p2, p3⟩ := hK xs ys (s * ks.length) b1 w g1
    have IH := eqElems hi hsz hK m (s + 1) xs ys b2 w (by rw [Nat.add_mul, Nat.one_mul]; simpa [List.drop_drop] using g2)
    rw [List.range'_succ]
    simp only [List.forIn_cons, Sem.run_bind, p1, p2, p3, Result.andThen_ok]
    cases b1 with
    | false => subst g3; simp
    | true =>
      simp only [Bool.not_true, Bool.false_eq_true, if_false, Sem.run_pure, Result.andThen_ok]
      rw [g3, Bool.true_and]
      exact IH

theorem partEq {P : Program} : ∀ (d D : Nat), d ≤ D → ∀ t ks inf, cellK P d t = some ks → P.info? t = some inf → inf.size = ks.length → PartEq P D t ks
  | 0, _, _, t, ks, _, h, _, _ => by simp [cellK] at h
  | d + 1, 0, hD, _, _, _, _, _, _ => by omega
  | d + 1, D + 1, hD, t, ks, inf, h, hi, hsz => by
    intro xs ys off b w he
    simp only [cellK] at h
    have sc : ∀ (k : CK), ks = [k] → ∃ u v, xs.toList[off]? = some u ∧ ys.toList[off]? = some v ∧ eqV k u v = some b := by
      intro k hk; subst hk
      obtain ⟨l1, l2⟩ := eqVL_len _ _ _ _ he
      cases hx : (xs.toList.drop off) with
      | nil => rw [hx] at l1; simp at l1
      | cons u us =>
        cases hy : (ys.toList.drop off) with
        | nil => rw [hy] at l2; simp at l2
        | cons v vs =>
          rw [hx, hy] at he
          simp only [List.length_cons, List.length_nil, Nat.zero_add, List.take_succ_cons, List.take_zero, eqVL] at he
          refine ⟨u, v, ?_, ?_, ?_⟩
          · have : (xs.toList.drop off)[0]? = some u := by rw [hx]; rfl
            simpa using this
          · have : (ys.toList.drop off)[0]? = some v := by rw [hy]; rfl
            simpa using this
          · split at he
            · rename_i a c g1 g2
              injection g2 with g2; subst g2
              rw [g1]; simpa using he
            · cases he
    have pt : ∀ (dd : TypeDesc) (zs : Array Value) (u : Value), P.underlying t = some dd → dd.isRow = false → zs.toList[off]? = some u → (part t zs off).run P w = .ok u w := by
      intro dd zs u hu hr hz
      have hz' : zs[off]? = some u := by simpa using hz
      unfold part isAgg
      simp only [Sem.run_bind, run_underlying hu, Result.andThen_ok]
      cases dd <;> first | (simp [TypeDesc.isRow] at hr; done) | (simp [hz'])
    split at h
    · rename_i hu
      injection h with h; subst h
      obtain ⟨u, v, g1, g2, g3⟩ := sc .b rfl
      refine ⟨u, v, pt _ _ _ hu rfl g1, pt _ _ _ hu rfl g2, ?_⟩
      cases u <;> cases v <;> simp [eqV] at g3
      rw [Op.equalIn]
      simp only [Sem.run_bind, run_underlying hu, Result.andThen_ok, Sem.run_pure]
      simp [g3]
    · rename_i k0 hu
      injection h with h; subst h
      obtain ⟨u, v, g1, g2, g3⟩ := sc .i rfl
      refine ⟨u, v, pt _ _ _ hu rfl g1, pt _ _ _ hu rfl g2, ?_⟩
      cases u <;> cases v <;> simp only [eqV] at g3 <;> try (cases g3; done)
      split at g3
      · rename_i hk
        have := sameKind_eq hk; subst this
        rw [Op.equalIn]
        simp only [Sem.run_bind, run_underlying hu, Result.andThen_ok, if_true, Sem.run_pure]
        simpa using g3
      · cases g3
    · rename_i hu
      injection h with h; subst h
      obtain ⟨u, v, g1, g2, g3⟩ := sc .s rfl
      refine ⟨u, v, pt _ _ _ hu rfl g1, pt _ _ _ hu rfl g2, ?_⟩
      cases u <;> cases v <;> simp [eqV] at g3
      rw [Op.equalIn]
      simp only [Sem.run_bind, run_underlying hu, Result.andThen_ok, Sem.run_pure]
      simp [g3]
    · rename_i fs hu
      split at h
      · cases h
      · rename_i hst
        have IH : ∀ t ks inf, cellK P d t = some ks → P.info? t = some inf → inf.size = ks.length → PartEq P D t ks := partEq d D (by omega)
        have pa : ∀ zs : Array Value, (part t zs off).run P w = .ok (.agg (zs.extract off (off + ks.length))) w := by
          intro zs
          unfold part isAgg sizeOf typeInfo
          simp [run_underlying hu, hi, hsz]
        refine ⟨_, _, pa xs, pa ys, eqRow IH hu hst h w ?_⟩
        simpa [Array.toList_extract, List.extract] using he
    · rename_i n e hu
      split at h
      · rename_i inf' ks' h1 h2
        split at h
        · rename_i h3
          injection h with h
          have hs' : inf'.size = ks'.length := by simpa using h3
          have IH : PartEq P D e ks' := partEq d D (by omega) e ks' inf' h2 h1 hs'
          have pa : ∀ zs : Array Value, (part t zs off).run P w = .ok (.agg (zs.extract off (off + ks.length))) w := by
            intro zs
            unfold part isAgg sizeOf typeInfo
            simp [run_underlying hu, hi, hsz]
          refine ⟨_, _, pa xs, pa ys, ?_⟩
          rw [Op.equalIn]
          have hz : (sizeOf e).run P w = .ok ks'.length w := by unfold sizeOf typeInfo; simp [h1, hs']
          have L := eqElems h1 hs' IH n 0 (xs.extract off (off + ks.length)) (ys.extract off (off + ks.length)) b w (by rw [h]; simpa [Array.toList_extract, List.extract] using he)
          simp only [Sem.run_bind, run_underlying hu, Result.andThen_ok, hz]
          simp only [Std.Legacy.Range.forIn_eq_forIn_range', Std.Legacy.Range.size, Nat.sub_zero, Nat.add_one_sub_one, Nat.div_one]
          (try simp only [Sem.run_bind] at L)
          rw [L]
          cases b <;> rfl
        · cases h
      · cases h
    · cases h

/-- The cells' kinds of a struct are as the kernel reckons them. -/
theorem eqOk_of {P : Program} {d : Nat} {t : TypeId} {ks : List CK} (h : (match P.underlying t with
    | some (.struct fs) => if (!P.stoodInHeld t && !P.eqGuardType P.depth t) = true then fieldsK P (cellK P d) 0 fs.toList else none
    | _ => none) = some ks) (hd : Nat.ble d 9999 = true := by rfl) : EqOk P t ks := by
  intro xs ys b x y w he
  split at h
  · rename_i fs hu
    split at h
    · rename_i hc
      simp only [Bool.and_eq_true, Bool.not_eq_true'] at hc
      have e1 : (Op.equal t (.agg xs) (.agg ys)).run P w = .ok b w := by
        unfold Op.equal
        rw [show Op.maxDepth = 9999 + 1 from rfl]
        exact eqRow (partEq d 9999 (Nat.le_of_ble_eq_true hd)) hu hc.1 h w he
      have e2 : ∀ op, (op = .eql ∨ op = .neq) → (eqGuard op t x y (.agg xs) (.agg ys)).run P w = .ok () w := by
        intro op ho
        unfold eqGuard
        rcases ho with rfl | rfl <;> simp [show Sem.run P program w = .ok P w from rfl, hc.2]
      constructor
      · simp only [Sem.run_bind, e2 .eql (.inl rfl), Result.andThen_ok, binOp, e1, Sem.run_pure]
      · simp only [Sem.run_bind, e2 .neq (.inr rfl), Result.andThen_ok, binOp, e1, Sem.run_pure]
    · cases h
  · cases h
/-- Of an array. -/
theorem eqOk_arr {P : Program} {d : Nat} {t e : TypeId} {n : Nat} {inf : TypeInfo} {ks ks' : List CK} (hu : P.underlying t = some (.array n e)) (h1 : P.info? e = some inf) (h2 : cellK P d e = some ks') (hs : inf.size = ks'.length) (h : List.flatten (List.replicate n ks') = ks) (hg : P.eqGuardType P.depth t = false) (hd : Nat.ble d 9999 = true := by rfl) : EqOk P t ks := by
  intro xs ys b x y w he
  have e1 : (Op.equal t (.agg xs) (.agg ys)).run P w = .ok b w := by
    unfold Op.equal
    rw [show Op.maxDepth = 9999 + 1 from rfl, Op.equalIn]
    have hz : (sizeOf e).run P w = .ok ks'.length w := by unfold sizeOf typeInfo; simp [h1, hs]
    have L := eqElems h1 hs (partEq d 9999 (Nat.le_of_ble_eq_true hd) e ks' inf h2 h1 hs) n 0 xs ys b w (by rw [h]; simpa using he)
    simp only [Sem.run_bind, run_underlying hu, Result.andThen_ok, hz]
    simp only [Std.Legacy.Range.forIn_eq_forIn_range', Std.Legacy.Range.size, Nat.sub_zero, Nat.add_one_sub_one, Nat.div_one]
    (try simp only [Sem.run_bind] at L)
    rw [L]
    cases b <;> rfl
  have e2 : ∀ op, (op = .eql ∨ op = .neq) → (eqGuard op t x y (.agg xs) (.agg ys)).run P w = .ok () w := by
    intro op ho
    unfold eqGuard
    rcases ho with rfl | rfl <;> simp [show Sem.run P program w = .ok P w from rfl, hg]
  constructor
  · simp only [Sem.run_bind, e2 .eql (.inl rfl), Result.andThen_ok, binOp, e1, Sem.run_pure]
  · simp only [Sem.run_bind, e2 .neq (.inr rfl), Result.andThen_ok, binOp, e1, Sem.run_pure]
end Go.Proofs.YtpefnjbmbfdmmaaDoor
