/- The second machine and the model: regions whose order is drawn: what an operation reads and writes. -/
import Derived.Test.YtpefnjbmbfdmmaaDoorAbsU
namespace Go.Proofs.YtpefnjbmbfdmmaaDoor
open Go.RowKit

/-- Two memories turned alike. -/
def HRel (h1 h2 : AH) (s : Nat) (wr : Bool) (β : Bt) (h1' h2' : AH) : Prop :=
  (∀ b, h2 b = h1 b → h2' b = h1' b) ∧ ∀ b, b ≠ s → (h1' b ≠ h1 b ∨ h2' b ≠ h2 b) → wr = true ∧ h1 b ≠ none ∧ ∃ l, β b = some l

def Tr (h1 h2 : AH) (s : Nat) (wr : Bool) (β : Bt) (r1 r2 : Res) : Prop :=
  match r1 with
  | .bad => True
  | .fx p x h1' => ∃ h2', r2 = .fx p x h2' ∧ HRel h1 h2 s wr β h1' h2'
  | .idxfx rows i f => ∃ f2, r2 = .idxfx rows i f2 ∧ ∀ row h1', f row = some h1' → ∃ h2', f2 row = some h2' ∧ HRel h1 h2 s wr β h1' h2'
  | r => r2 = r

section
variable {C : Ctx} {h1 h2 : AH} {s : Nat} {wr : Bool} {β : Bt} {S : Nat → Prop} {w : World}

theorem Tr.refl_of {r : Res} (hr : isFx r = false) : Tr h1 h2 s wr β r r := by
  cases r <;> first | rfl | (simp [isFx] at hr)

theorem HRel.new (blk : Option Blk) : HRel h1 h2 s wr β (upd h1 s blk) (upd h2 s blk) := by
  refine ⟨fun b hb => ?_, fun b hb h => ?_⟩
  · by_cases he : b = s
    · subst he; rw [upd_same, upd_same]
    · rw [upd_other _ _ he, upd_other _ _ he]; exact hb
  · rw [upd_other _ _ hb, upd_other _ _ hb] at h
    rcases h with h | h <;> exact absurd rfl h
theorem HRel.set {b0 : Nat} {l : Loc} (hl : β b0 = some l) (hn : h1 b0 ≠ none) (blk : Option Blk) : HRel h1 h2 s true β (upd h1 b0 blk) (upd h2 b0 blk) := by
  refine ⟨fun b hb => ?_, fun b hb h => ?_⟩
  · by_cases he : b = b0
    · subst he; rw [upd_same, upd_same]
    · rw [upd_other _ _ he, upd_other _ _ he]; exact hb
  · by_cases he : b = b0
    · subst he; exact ⟨rfl, hn, l, hl⟩
    · rw [upd_other _ _ he, upd_other _ _ he] at h
      rcases h with h | h <;> exact absurd rfl h
theorem HRel.set_new {b0 : Nat} {l : Loc} (hl : β b0 = some l) (hn : h1 b0 ≠ none) (blk blk' : Option Blk) : HRel h1 h2 s true β (upd (upd h1 b0 blk') s blk) (upd (upd h2 b0 blk') s blk) := by
  refine ⟨fun b hb => ?_, fun b hb h => ?_⟩
  · by_cases he : b = s
    · subst he; rw [upd_same, upd_same]
    · rw [upd_other _ _ he, upd_other _ _ he]
      by_cases he : b = b0
      · subst he; rw [upd_same, upd_same]
      · rw [upd_other _ _ he, upd_other _ _ he]; exact hb
  · rw [upd_other _ _ hb, upd_other _ _ hb] at h
    by_cases he : b = b0
    · subst he; exact ⟨rfl, hn, l, hl⟩
    · rw [upd_other _ _ he, upd_other _ _ he] at h
      rcases h with h | h <;> exact absurd rfl h

/-- Where the memories agree. -/
def Agree (β : Bt) (h1 h2 : AH) : Prop := ∀ b l, β b = some l → h1 b ≠ none → h2 b = h1 b

theorem rowsOf_congr {a : AV} {v : Value} (ha : Rep S w β a v) (hag : Agree β h1 h2) {r : Nat × List (List AV)} (hr : rowsOf h1 a = some r) : rowsOf h2 a = some r ∧ (lenOk h2 a ↔ lenOk h1 a) := by
  cases ha with
  | osl s lo len clip l A c hl hc hm hcl hA cs e fr hb room =>
    have hn : h1 s ≠ none := by
      intro h0; simp only [rowsOf, h0] at hr; cases hr
    have e := hag s l hl hn
    simp only [rowsOf, e] at hr ⊢
    exact ⟨hr, by simp only [lenOk, e]⟩
  | v => exact ⟨by cases v <;> exact hr, Iff.rfl⟩
  | _ => exact ⟨hr, Iff.rfl⟩

theorem load_tr (t : TypeId) {a : AV} {v : Value} (ha : Rep S w β a v) (hag : Agree β h1 h2) : Tr h1 h2 s wr β (loadAtA C h1 t a) (loadAtA C h2 t a) := by
  have ok : ∀ x : Option AV, Tr h1 h2 s wr β (okO x) (okO x) := fun x => by cases x <;> first | trivial | rfl
  cases ha <;> simp only [loadAtA] <;> try (exact trivial)
  case ptr b c l hl =>
    cases hb : h1 b with
    | none => exact trivial
    | some blk =>
      rw [hag b l hl (by rw [hb]; simp), hb]
      cases blk with
      | box cells => exact ok _
      | arr rows rs => exact trivial
      | row cells => exact trivial
  case ptr2 b r c l hl =>
    cases hb : h1 b with
    | none => exact trivial
    | some blk =>
      rw [hag b l hl (by rw [hb]; simp), hb]
      cases blk with
      | box cells => exact trivial
      | arr rows rs => rfl
      | row cells => rfl
  case dp => exact ok _

theorem Tr.of_eq {r1 r2 : Res} (he : r2 = r1) (hs : isFx r1 = false ∨ r1 = .bad) : Tr h1 h2 s wr β r1 r2 := by
  subst he
  rcases hs with hs | hs
  · exact Tr.refl_of hs
  · rw [hs]; trivial

theorem blkOf_congr {a : AV} {v : Value} (ha : Rep S w β a v) (hag : Agree β h1 h2) : blkOf h2 a = blkOf h1 a ∨ blkOf h1 a = none ∧ ∃ b lo len clip, a = .osl b lo len clip := by
  cases ha with
  | osl b lo len clip l A c hl hc hm hcl hA cs e fr hb room =>
    cases hb : h1 b with
    | none => exact .inr ⟨hb, b, lo, len, clip, rfl⟩
    | some blk => exact .inl (hag b l hl (by rw [hb]; simp))
  | _ => exact .inl rfl
theorem indexAddr_tr (t : TypeId) {a i : AV} {v : Value} (ha : Rep S w β a v) (hag : Agree β h1 h2) : Tr h1 h2 s wr β (indexAddrA C h1 t a i) (indexAddrA C h2 t a i) := by
  have self : isFx (indexAddrA C h1 t a i) = false ∨ indexAddrA C h1 t a i = .bad := by
    unfold indexAddrA indexAddrV
    repeat' split
    all_goals first | exact .inl rfl | exact .inr rfl
  rcases blkOf_congr ha hag with he | ⟨he, b, lo, len, clip, rfl⟩
  · exact Tr.of_eq (by unfold indexAddrA; rw [he]) self
  · have hbad : indexAddrA C h1 t (.osl b lo len clip) i = .bad := by
      unfold indexAddrA
      rw [he]
      unfold indexAddrV
      split
      · split
        · rename_i hq; cases hq
        · rfl
        · rfl
      · split
        · rename_i hq; cases hq
        · rename_i hq; cases hq
        · rename_i hq; cases hq
        · rfl
      · rfl
    rw [hbad]; trivial

theorem slice_tr (t : TypeId) {a : AV} {lo hi mx : Option AV} {v : Value} (ha : Rep S w β a v) (hag : Agree β h1 h2) : Tr h1 h2 s wr β (sliceA C h1 t a lo hi mx) (sliceA C h2 t a lo hi mx) := by
  have self : isFx (sliceA C h1 t a lo hi mx) = false ∨ sliceA C h1 t a lo hi mx = .bad := by
    unfold sliceA sliceV
    repeat' split
    all_goals first | exact .inl rfl | exact .inr rfl
  rcases blkOf_congr ha hag with he | ⟨he, b, lo', len, clip, rfl⟩
  · exact Tr.of_eq (by unfold sliceA; rw [he]) self
  · have hbad : sliceA C h1 t (.osl b lo' len clip) lo hi mx = .bad := by
      unfold sliceA
      rw [he]
      unfold sliceV
      repeat' split
      all_goals first | rfl | (simp_all; done)
    rw [hbad]; trivial

theorem conv_tr (src dst : TypeId) {a : AV} {v : Value} (ha : Rep S w β a v) (hag : Agree β h1 h2) : Tr h1 h2 s wr β (convO C h1 s src dst a) (convO C h2 s src dst a) := by
  have cself : isFx (convA C src dst a) = false ∨ convA C src dst a = .bad := by
    unfold convA
    split <;> first | exact .inl rfl | exact .inr rfl
  unfold convO
  split
  · split
    · exact ⟨_, rfl, HRel.new _⟩
    · trivial
  · split
    · trivial
    · split
      · rename_i rc rows hq hr
        obtain ⟨e1, e2⟩ := rowsOf_congr ha hag hr
        rw [e1, hq]
        show _ = _
        simp only [e2]
      · trivial
  · exact Tr.of_eq rfl cself

theorem append_tr (ts : List TypeId) {x y : AV} {vx vy : Value} (hx : Rep S w β x vx) (hy : Rep S w β y vy) (hag : Agree β h1 h2) : Tr h1 h2 s true β (builtinA C h1 s .append ts [x, y]) (builtinA C h2 s .append ts [x, y]) := by
  simp only [builtinA]
  -- the same rows
  have key : ∀ (rx ry : Option (Nat × List (List AV))) (blk : Option Blk) (px py : Prop), (∀ b lo len clip, x = .osl b lo len clip → blk ≠ none → (∃ l, β b = some l) ∧ h1 b ≠ none) → Tr h1 h2 s true β (appendV C s ts x rx ry blk px py h1) (appendV C s ts x rx ry blk px py h2) := by
    intro rx ry blk px py hb
    unfold appendV
    split
    · split
      · split
        · split
          · split
            · exact ⟨_, rfl, HRel.new _⟩
            · split
              · exact Tr.of_eq rfl (.inl rfl)
              · exact ⟨_, rfl, HRel.new _⟩
            · trivial
          · split
            · exact ⟨_, rfl, HRel.new _⟩
            · trivial
          · rename_i b lo len _ _ _ _ _ _
            split
            · obtain ⟨⟨l, hl⟩, hn⟩ := hb _ _ _ _ rfl (by simp)
              exact ⟨_, rfl, HRel.set_new hl hn _ _⟩
            · trivial
          · trivial
        · trivial
      · trivial
    · trivial
  have bad1 : ∀ (ry : Option (Nat × List (List AV))) (blk : Option Blk) (px py : Prop), appendV C s ts x none ry blk px py h1 = .bad := by
    intro ry blk px py
    unfold appendV
    split
    · split
      · split
        · split <;> first | rfl | (rename_i h _; cases h; done) | (rename_i h; cases h; done)
        · rfl
      · rfl
    · rfl
  have bad2 : ∀ (rx : Option (Nat × List (List AV))) (blk : Option Blk) (px py : Prop), appendV C s ts x rx none blk px py h1 = .bad := by
    intro rx blk px py
    unfold appendV
    split
    · split
      · split
        · split <;> first | rfl | (rename_i h _; cases h; done) | (rename_i h; cases h; done)
        · rfl
      · rfl
    · rfl
  cases hrx : rowsOf h1 x with
  | none => rw [bad1]; trivial
  | some rx =>
    cases hry : rowsOf h1 y with
    | none => rw [bad2]; trivial
    | some ry =>
      obtain ⟨e1, e2⟩ := rowsOf_congr hx hag hrx
      obtain ⟨e3, e4⟩ := rowsOf_congr hy hag hry
      have hbk : blkOf h2 x = blkOf h1 x := by
        rcases blkOf_congr hx hag with he | ⟨he, b, lo, len, clip, rfl⟩
        · exact he
        · simp only [blkOf] at he
          simp only [rowsOf, he] at hrx
          cases hrx
      rw [e1, e3, hbk, show lenOk h2 x = lenOk h1 x from propext e2, show lenOk h2 y = lenOk h1 y from propext e4]
      refine key _ _ _ _ _ fun b lo len clip hq hne => ?_
      subst hq
      cases hx with
      | osl _ _ _ _ l A c hl hc hm hcl hA cs e fr hb' room => exact ⟨⟨l, hl⟩, hne⟩
theorem copy_tr (ts : List TypeId) {x y : AV} {vx vy : Value} (hx : Rep S w β x vx) (hy : Rep S w β y vy) (hag : Agree β h1 h2) : Tr h1 h2 s true β (copyA C h1 ts x y) (copyA C h2 ts x y) := by
  unfold copyA
  split
  · trivial
  · split
    · split
      · rename_i ei b lo len clip he
        cases hb : h1 b with
        | none => simp only; split <;> trivial
        | some blk =>
          cases hx with
          | osl _ _ _ _ l A c hl hc hm hcl hA cs e fr hb' room =>
          have e := hag b l hl (by rw [hb]; simp)
          cases hr : rowsOf h1 y with
          | none => cases blk <;> trivial
          | some r =>
            obtain ⟨e1, e2⟩ := rowsOf_congr hy hag hr
            rw [e, hb, e1]
            cases blk with
            | box => trivial
            | row => trivial
            | arr rows rs =>
              simp only
              split
              · exact ⟨_, by simp only [e2], HRel.set hl (by rw [hb]; simp) _⟩
              · trivial
      · trivial
    · trivial

theorem datL_get' (h : AH) : ∀ (cs : List AV) (i : Nat), (datL h cs)[i]? = (cs[i]?).map (datA h)
  | [], i => by simp [datL]
  | c :: cs, 0 => by simp [datL]
  | c :: cs, i + 1 => by simp [datL, datL_get' h cs i]
theorem lenOkL_iff (h : AH) : ∀ (cs : List AV), lenOkL h cs ↔ ∀ (i : Nat) a, cs[i]? = some a → lenOkA h a
  | [] => ⟨fun _ i a h => by simp at h, fun _ => trivial⟩
  | c :: cs => by
    simp only [lenOkL, lenOkL_iff h cs]
    refine ⟨fun ⟨h0, hr⟩ i a hi => ?_, fun H => ⟨H 0 c rfl, fun i a hi => H (i + 1) a (by simpa using hi)⟩⟩
    cases i with
    | zero => simp at hi; subst hi; exact h0
    | succ i => exact hr i a (by simpa using hi)

theorem datA_congr {a : AV} {v : Value} (ha : Rep S w β a v) : Agree β h1 h2 → closedA (datA h1 a) = true → datA h2 a = datA h1 a ∧ (lenOkA h2 a ↔ lenOkA h1 a) := by
  induction ha with
  | agg cs vs hl h1' h ih =>
    intro hag hc
    have hc' : closedL (datL h1 cs) = true := hc
    have each : ∀ (i : Nat) a, cs[i]? = some a → datA h2 a = datA h1 a ∧ (lenOkA h2 a ↔ lenOkA h1 a) := by
      intro i a hi
      have hlt : i < vs.size := by rw [← hl]; exact (List.getElem?_eq_some_iff.1 hi).1
      exact ih i a vs[i] hi (Array.getElem?_eq_getElem hlt) hag (closedL_get _ hc' i _ (by rw [datL_get', hi]; rfl))
    constructor
    · show AV.agg (datL h2 cs) = .agg (datL h1 cs)
      congr 1
      apply List.ext_getElem?
      intro i
      rw [datL_get', datL_get']
      cases hi : cs[i]? with
      | none => rfl
      | some a => simp only [Option.map_some, (each i a hi).1]
    · show lenOkL h2 cs ↔ lenOkL h1 cs
      rw [lenOkL_iff, lenOkL_iff]
      exact ⟨fun H i a hi => (each i a hi).2.1 (H i a hi), fun H i a hi => (each i a hi).2.2 (H i a hi)⟩
  | tup cs vs hl h ih =>
    intro hag hc
    cases hq : noOwnL cs with
    | true => simp [datA, lenOkA, hq]
    | false =>
    have hc' : closedL (datL h1 cs) = true := by simpa only [datA, hq, closedA] using hc
    have each : ∀ (i : Nat) a, cs[i]? = some a → datA h2 a = datA h1 a ∧ (lenOkA h2 a ↔ lenOkA h1 a) := by
      intro i a hi
      have hlt : i < vs.size := by rw [← hl]; exact (List.getElem?_eq_some_iff.1 hi).1
      exact ih i a vs[i] hi (Array.getElem?_eq_getElem hlt) hag (closedL_get _ hc' i _ (by rw [datL_get', hi]; rfl))
    constructor
    · simp only [datA, hq]
      congr 1
      apply List.ext_getElem?
      intro i
      rw [datL_get', datL_get']
      cases hi : cs[i]? with
      | none => rfl
      | some a => simp only [Option.map_some, (each i a hi).1]
    · simp only [lenOkA, hq]
      rw [lenOkL_iff, lenOkL_iff]
      exact ⟨fun H i a hi => (each i a hi).2.1 (H i a hi), fun H i a hi => (each i a hi).2.2 (H i a hi)⟩
  | osl s lo len clip l A c hl hc hm hcl hA cs e fr hb room =>
    intro hag hcl'
    have hn : h1 s ≠ none := by
      intro h0
      simp only [datA, h0, closedA] at hcl'
      cases hcl'
    have e := hag s l hl hn
    simp only [datA, lenOkA, e]
    exact ⟨trivial, trivial⟩
  | ptr s col l hl =>
    intro hag hcl'
    have hn : h1 s ≠ none := by
      intro h0
      simp only [datA, h0, closedA] at hcl'
      cases hcl'
    have e := hag s l hl hn
    simp only [datA, lenOkA, e]
    exact ⟨trivial, trivial⟩
  | clo f first caps vs us hl h hl' h' ih ih' =>
    intro hag hc
    simp only [datA, closedA] at hc
    split at hc
    · rename_i hc1
      have each : ∀ (i : Nat) a, first[i]? = some a → datA h2 a = datA h1 a ∧ (lenOkA h2 a ↔ lenOkA h1 a) := by
        intro i a hi
        have hlt : i < vs.size := by rw [← hl]; exact (List.getElem?_eq_some_iff.1 hi).1
        exact ih i a vs[i] hi (Array.getElem?_eq_getElem hlt) hag (closedL_get _ hc1 i _ (by rw [datL_get', hi]; rfl))
      have each' : ∀ (i : Nat) a, caps[i]? = some a → datA h2 a = datA h1 a ∧ (lenOkA h2 a ↔ lenOkA h1 a) := by
        intro i a hi
        have hlt : i < us.size := by rw [← hl']; exact (List.getElem?_eq_some_iff.1 hi).1
        exact ih' i a us[i] hi (Array.getElem?_eq_getElem hlt) hag (closedL_get _ hc i _ (by rw [datL_get', hi]; rfl))
      have ext : ∀ (cs : List AV), (∀ (i : Nat) a, cs[i]? = some a → datA h2 a = datA h1 a ∧ (lenOkA h2 a ↔ lenOkA h1 a)) → datL h2 cs = datL h1 cs ∧ (lenOkL h2 cs ↔ lenOkL h1 cs) := by
        intro cs each
        constructor
        · apply List.ext_getElem?
          intro i
          rw [datL_get', datL_get']
          cases hi : cs[i]? with
          | none => rfl
          | some a => simp only [Option.map_some, (each i a hi).1]
        · rw [lenOkL_iff, lenOkL_iff]
          exact ⟨fun H i a hi => (each i a hi).2.1 (H i a hi), fun H i a hi => (each i a hi).2.2 (H i a hi)⟩
      obtain ⟨p1, p2⟩ := ext first each
      obtain ⟨q1, q2⟩ := ext caps each'
      refine ⟨by simp only [datA, p1, q1], ?_⟩
      show (lenOkL h2 first ∧ lenOkL h2 caps) ↔ (lenOkL h1 first ∧ lenOkL h1 caps)
      rw [p2, q2]
    · cases hc
  | _ => intro _ _; exact ⟨rfl, Iff.rfl⟩
theorem datL_congr {args : List AV} {vs : List Value} (hr : RepL S w β args vs) (hag : Agree β h1 h2) (hc : closedL (datL h1 args) = true) : datL h2 args = datL h1 args ∧ (lenOkL h2 args ↔ lenOkL h1 args) := by
  have each : ∀ (i : Nat) a, args[i]? = some a → datA h2 a = datA h1 a ∧ (lenOkA h2 a ↔ lenOkA h1 a) := by
    intro i a hi
    have hlt : i < vs.length := by rw [← hr.1]; exact (List.getElem?_eq_some_iff.1 hi).1
    exact datA_congr (hr.2 i a _ hi (List.getElem?_eq_getElem hlt)) hag (closedL_get _ hc i _ (by rw [datL_get', hi]; rfl))
  constructor
  · apply List.ext_getElem?
    intro i
    rw [datL_get', datL_get']
    cases hi : args[i]? with
    | none => rfl
    | some a => simp only [Option.map_some, (each i a hi).1]
  · rw [lenOkL_iff, lenOkL_iff]
    exact ⟨fun H i a hi => (each i a hi).2.1 (H i a hi), fun H i a hi => (each i a hi).2.2 (H i a hi)⟩

theorem HRel.refl : HRel h1 h2 s wr β h1 h2 := ⟨fun _ h => h, fun b _ h => by rcases h with h | h <;> exact absurd rfl h⟩

/-- AN OPERATION DOES IN ANOTHER MEMORY, THAT AGREES, WHAT IT DOES IN THE ONE. -/
theorem opA_tr {ev : Operand → AV} {ρ : Operand → Value} (op : Op) (hev : ∀ x ∈ op.operands, Rep S w β (ev x) (ρ x)) (hag : readsO op = true → Agree β h1 h2) :
    Tr h1 h2 s (writesO op) β (opA C ev h1 s op) (opA C ev h2 s op) := by
  have ok : ∀ (wr : Bool) (x : Option AV), Tr h1 h2 s wr β (okO x) (okO x) := fun wr x => by cases x <;> first | trivial | rfl
  cases op <;> simp only [Op.operands] at hev <;> simp only [opA] <;> try (exact trivial)
  case move x => rfl
  case assign x => rfl
  case pick c a b =>
    refine Tr.of_eq rfl ?_
    unfold pickA
    split <;> first | exact .inl rfl | exact .inr rfl
  case alloc t => split <;> first | trivial | exact ⟨_, rfl, HRel.new _⟩
  case box t x => split <;> first | trivial | exact ⟨_, rfl, HRel.new _⟩
  case build t ps =>
    refine Tr.of_eq rfl ?_
    have o : ∀ x : Option AV, isFx (okO x) = false ∨ okO x = .bad := fun x => by cases x <;> first | exact .inl rfl | exact .inr rfl
    unfold buildA
    repeat' split
    all_goals first | exact o _ | exact .inr rfl
  case buildSlice t n ps =>
    refine Tr.of_eq rfl ?_
    repeat' split
    all_goals first | exact .inl rfl | exact .inr rfl
  case load t a => exact load_tr t (hev a (by simp)) (hag rfl)
  case store t a x =>
    have hag := hag rfl
    have ha := hev a (by simp)
    split
    · split
      · generalize ev a = av at ha
        generalize ρ a = va at ha
        cases ha <;> try (exact trivial)
        case ptr b c l hl =>
          simp only
          cases hb : h1 b with
          | none => exact trivial
          | some blk =>
            rw [hag b l hl (by rw [hb]; simp), hb]
            cases blk with
            | arr => exact trivial
            | row => exact trivial
            | box cells =>
              simp only
              split
              · exact ⟨_, rfl, HRel.set hl (by rw [hb]; simp) _⟩
              · trivial
        case ptr2 b r c l hl =>
          simp only
          cases hb : h1 b with
          | none => exact trivial
          | some blk =>
            rw [hag b l hl (by rw [hb]; simp), hb]
            cases blk with
            | box cells => exact trivial
            | arr rows rs =>
              refine ⟨_, rfl, fun row h1' hf => ?_⟩
              dsimp only at hf ⊢
              split at hf
              · rename_i e1 e2
                injection hf with hf; subst hf
                exact ⟨_, by simp only, HRel.set hl (by rw [hb]; simp) _⟩
              · cases hf
            | row cells =>
              refine ⟨_, rfl, fun row h1' hf => ?_⟩
              dsimp only at hf ⊢
              split at hf
              · injection hf with hf; subst hf
                exact ⟨_, rfl, HRel.set hl (by rw [hb]; simp) _⟩
              · cases hf
      · trivial
    · trivial
  case nilCheck x =>
    refine Tr.of_eq rfl ?_
    unfold nilA
    split <;> first | exact .inl rfl | exact .inr rfl
  case binOp op t x y yt =>
    refine Tr.of_eq rfl ?_
    unfold nilEqA binA intOp shOp boolOp strOp
    repeat' split
    all_goals first | exact .inl rfl | exact .inr rfl
  case unOp op t x =>
    refine Tr.of_eq rfl ?_
    unfold unA
    split <;> first | exact .inl rfl | exact .inr rfl
  case convert src dst x => exact conv_tr src dst (hev x (by simp)) (hag rfl)
  case makeFunc fn first caps => cases fn <;> first | trivial | rfl
  case makeSlice t l c =>
    unfold makeA
    repeat' split
    all_goals first | trivial | exact ⟨_, rfl, HRel.new _⟩
  case slice t x lo hi mx => exact slice_tr t (hev x (by simp)) (hag rfl)
  case fieldAddr t x f =>
    refine Tr.of_eq rfl ?_
    unfold fieldAddrA
    repeat' split
    all_goals first | exact .inl rfl | exact .inr rfl
  case field t x f =>
    have o : ∀ x : Option AV, isFx (okO x) = false ∨ okO x = .bad := fun x => by cases x <;> first | exact .inl rfl | exact .inr rfl
    refine Tr.of_eq rfl ?_
    unfold fieldA
    repeat' split
    all_goals first | exact o _ | exact .inr rfl
  case indexAddr t x i => exact indexAddr_tr t (hev x (by simp)) (hag rfl)
  case index t x i =>
    refine Tr.of_eq rfl ?_
    unfold indexA
    repeat' split
    all_goals first | exact .inl rfl | exact .inr rfl
  case extract x i =>
    have o : ∀ x : Option AV, isFx (okO x) = false ∨ okO x = .bad := fun x => by cases x <;> first | exact .inl rfl | exact .inr rfl
    refine Tr.of_eq rfl ?_
    unfold extractA
    split <;> first | exact o _ | exact .inr rfl
  case call c =>
    obtain ⟨callee, args, ats⟩ := c
    cases callee with
    | value f =>
      simp only
      split <;> first | rfl | trivial
    | invoke r m => trivial
    | builtin b =>
      simp only [Call.operands, Array.empty_append] at hev
      have two : ∀ (x y : AV), args.toList.map ev = [x, y] → ∃ v u, Rep S w β x v ∧ Rep S w β y u := by
        intro x y hx
        have hargs : RepL S w β (args.toList.map ev) (args.toList.map ρ) := RepL.of_map _ fun x hx => hev x (by simpa using hx)
        rw [hx] at hargs
        have hl : args.toList.length = 2 := by simpa using hargs.1.symm
        match hq : args.toList, hl with
        | [a, b], _ => exact ⟨ρ a, ρ b, hargs.2 0 x (ρ a) rfl (by simp [hq]), hargs.2 1 y (ρ b) rfl (by simp [hq])⟩
      simp only
      cases b <;> try (simp only [builtinA]; exact trivial)
      case append =>
        match hA : args.toList.map ev with
        | [] => simp only [builtinA]; exact trivial
        | [_] => simp only [builtinA]; exact trivial
        | _ :: _ :: _ :: _ => simp only [builtinA]; exact trivial
        | [x, y] =>
          obtain ⟨v, u, hx, hy⟩ := two x y hA
          exact append_tr ats.toList hx hy (hag rfl)
      case copy =>
        match hA : args.toList.map ev with
        | [] => simp only [builtinA]; exact trivial
        | [_] => simp only [builtinA]; exact trivial
        | _ :: _ :: _ :: _ => simp only [builtinA]; exact trivial
        | [x, y] =>
          obtain ⟨v, u, hx, hy⟩ := two x y hA
          simp only [builtinA]
          exact copy_tr ats.toList hx hy (hag rfl)
      case len =>
        match hA : args.toList.map ev with
        | [] => simp only [builtinA]; exact trivial
        | _ :: _ :: _ => simp only [builtinA]; exact trivial
        | [x] =>
          match hT : ats.toList with
          | [] => simp only [builtinA]; exact trivial
          | _ :: _ :: _ => simp only [builtinA]; exact trivial
          | [t] =>
            simp only [builtinA]
            refine Tr.of_eq rfl ?_
            unfold lenB
            split <;> first | exact .inl rfl | exact .inr rfl
      case min =>
        match hA : args.toList.map ev with
        | [] => simp only [builtinA]; exact trivial
        | [_] => simp only [builtinA]; exact trivial
        | _ :: _ :: _ :: _ => simp only [builtinA]; exact trivial
        | [x, y] =>
          simp only [builtinA]
          refine Tr.of_eq rfl ?_
          unfold minA
          repeat' split
          all_goals first | exact .inl rfl | exact .inr rfl
      case max =>
        match hA : args.toList.map ev with
        | [] => simp only [builtinA]; exact trivial
        | [_] => simp only [builtinA]; exact trivial
        | _ :: _ :: _ :: _ => simp only [builtinA]; exact trivial
        | [x, y] =>
          simp only [builtinA]
          refine Tr.of_eq rfl ?_
          unfold maxA
          repeat' split
          all_goals first | exact .inl rfl | exact .inr rfl

theorem opA_nocall {ev : Operand → AV} (op : Op) (hc : ∀ c : Call, op ≠ .call c) {f : FuncId} {args : List AV} : opA C ev h1 s op ≠ .call f args := by
  intro h
  have o : ∀ x : Option AV, okO x ≠ .call f args := fun x hx => by cases x <;> simp [okO] at hx
  cases op <;> simp only [opA] at h
  case call c => exact hc c rfl
  case makeFunc fn first caps => cases fn <;> cases h
  all_goals first
    | (simp only [pickA, zeroCellsA, buildA, loadAtA, nilA, unA, nilEqA, binA, intOp, shOp, boolOp, strOp, convO, convA, makeA, sliceA, sliceV, fieldAddrA, fieldA, indexAddrA, indexAddrV, indexA, extractA] at h
       (repeat' split at h) <;> first | (cases h; done) | (exact o _ h))
    | ((repeat' split at h) <;> first | (cases h; done) | (exact o _ h))
    | (cases h; done)

theorem opA_call {ev : Operand → AV} {ρ : Operand → Value} (op : Op) (hev : ∀ x ∈ op.operands, Rep S w β (ev x) (ρ x)) {f : FuncId} {args : List AV} (hc : opA C ev h1 s op = .call f args) : readsO op = true ∧ ∃ vs, RepL S w β args vs := by
  by_cases h : ∃ c : Call, op = .call c
  · obtain ⟨c, rfl⟩ := h
    refine ⟨rfl, ?_⟩
    obtain ⟨callee, as, ats⟩ := c
    simp only [Op.operands] at hev
    cases callee with
    | invoke r m => simp only [opA] at hc; cases hc
    | value g =>
      simp only [opA] at hc
      split at hc
      · rename_i g' first caps he
        injection hc with q1 q2
        subst q2
        have hf := hev g (by simp [Call.operands])
        rw [he] at hf
        generalize ρ g = v at hf
        cases hf with
        | clo _ _ _ vs us hl hr hl' hr' =>
        exact ⟨vs.toList ++ as.toList.map ρ ++ us.toList, RepL.append (RepL.append ⟨by simpa using hl, fun i a u p q => hr i a u p (by simpa using q)⟩ (RepL.of_map _ fun x hx => hev x (by simp [Call.operands]; exact .inr (by simpa using hx)))) ⟨by simpa using hl', fun i a u p q => hr' i a u p (by simpa using q)⟩⟩
      · cases hc
    | builtin b =>
      simp only [opA] at hc
      exfalso
      unfold builtinA at hc
      simp only [lenB, minA, maxA, copyA, appendV] at hc
      (repeat' split at hc) <;> cases hc
  · exact absurd hc (opA_nocall op fun c hc => h ⟨c, hc⟩)

theorem nodeR_tr {R : FuncId → List AV → AV → Prop} {ev : Operand → AV} {ρ : Operand → Value} (op : Op) (hev : ∀ x ∈ op.operands, Rep S w β (ev x) (ρ x)) (hag : readsO op = true → Agree β h1 h2) {x : AV} {h1' : AH} (hn : NodeR C R h1 (opA C ev h1 s op) x h1') :
    ∃ h2', NodeR C R h2 (opA C ev h2 s op) x h2' ∧ HRel h1 h2 s (writesO op) β h1' h2' := by
  have T := opA_tr (C := C) (s := s) op hev hag
  cases hr : opA C ev h1 s op with
  | bad => rw [hr] at hn; exact hn.elim
  | ok y => rw [hr] at hn T; obtain ⟨rfl, rfl⟩ := hn; exact ⟨h2, by rw [show opA C ev h2 s op = .ok x from T]; exact ⟨rfl, rfl⟩, HRel.refl⟩
  | need p y => rw [hr] at hn T; obtain ⟨hp, rfl, rfl⟩ := hn; exact ⟨h2, by rw [show opA C ev h2 s op = .need p x from T]; exact ⟨hp, rfl, rfl⟩, HRel.refl⟩
  | idx rows i f => rw [hr] at hn T; obtain ⟨row, h0, h3, h4, rfl⟩ := hn; exact ⟨h2, by rw [show opA C ev h2 s op = .idx rows i f from T]; exact ⟨row, h0, h3, h4, rfl⟩, HRel.refl⟩
  | fx p y k => rw [hr] at hn T; obtain ⟨hp, rfl, rfl⟩ := hn; obtain ⟨h2', e1, e2⟩ := T; exact ⟨h2', by rw [e1]; exact ⟨hp, rfl, rfl⟩, e2⟩
  | idxfx rows i f => rw [hr] at hn T; obtain ⟨row, h0, h3, h4, rfl⟩ := hn; obtain ⟨f2, e1, e2⟩ := T; obtain ⟨h2', e3, e4⟩ := e2 row h1' h4; exact ⟨h2', by rw [e1]; exact ⟨row, h0, h3, e3, rfl⟩, e4⟩
  | str p rows => rw [hr] at hn T; obtain ⟨l, hp, h3, rfl, rfl⟩ := hn; exact ⟨h2, by rw [show opA C ev h2 s op = .str p rows from T]; exact ⟨l, hp, h3, rfl, rfl⟩, HRel.refl⟩
  | call f args =>
    rw [hr] at hn T
    obtain ⟨c1, c2, c3, c4, rfl⟩ := hn
    obtain ⟨hrd, vs, hargs⟩ := opA_call (C := C) (s := s) op hev hr
    obtain ⟨e1, e2⟩ := datL_congr hargs (hag hrd) c1
    refine ⟨h2, ?_, HRel.refl⟩
    rw [show opA C ev h2 s op = .call f args from T]
    exact ⟨by rw [e1]; exact c1, c2.imp id (fun h => ⟨h.1, e2.2 h.2⟩), c3, by rw [e1]; exact c4, rfl⟩
end
end Go.Proofs.YtpefnjbmbfdmmaaDoor
