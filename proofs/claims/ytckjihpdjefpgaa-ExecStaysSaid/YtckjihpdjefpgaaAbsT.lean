/- The second machine and the model: calls, guards, one step of a region. -/
import Derived.Test.YtckjihpdjefpgaaAbsS
namespace Go.Proofs.Ytckjihpdjefpgaa
open Go.RowKit

/-- The package's variables stand as they are told. -/
def GOk (C : Ctx) (S : Nat → Prop) (w : World) : Prop := ∀ g cells, C.G g = some cells → Rep S w noB (.dp cells.length 0 cells) (.pointer (some ⟨g, 0, none⟩))

/-- WHAT A FUNCTION OF KNOWN VALUES COMES TO. -/
def DCall (C : Ctx) (f : FuncId) (args : List AV) (r : AV) : Prop :=
  (∃ fn, C.P.funcs[f]? = some fn ∧ fn.body.isSome = true ∧ (fn.name == "runtime.NumGoroutine") = false) ∧
  ∀ (S : Nat → Prop) (w : World) (vs : List Value), (∀ b, S b → b < w.heap.size) → GOk C S w → RepL S w noB args vs →
    Calls C.P f vs.toArray w fun e w' => ∃ v, e = .returned v ∧ Below w.heap.size w w' ∧ Rep (fun b => S b ∨ (w.heap.size ≤ b ∧ b < w'.heap.size)) w' noB r v

def NodeR (C : Ctx) (R : FuncId → List AV → AV → Prop) (h : AH) (r : Res) (x : AV) (h' : AH) : Prop :=
  match r with
  | .bad => False
  | .ok y => x = y ∧ h' = h
  | .need p y => p ∧ x = y ∧ h' = h
  | .idx rows i f => ∃ row, 0 ≤ i ∧ rows[i.toNat]? = some row ∧ f row = some x ∧ h' = h
  | .fx p y h2 => p ∧ x = y ∧ h' = h2
  | .idxfx rows i f => ∃ row, 0 ≤ i ∧ rows[i.toNat]? = some row ∧ f row = some h' ∧ x = .any
  | .str p rows => ∃ l, p ∧ bytesOfRows rows = some l ∧ x = .v (.string ⟨l.toArray⟩) ∧ h' = h
  | .call f args => closedL (datL h args) = true ∧ (noOwnL args = true ∨ (flatA x = true ∧ lenOkL h args)) ∧ closedA x = true ∧ R f (datL h args) x ∧ h' = h

def isFx : Res → Bool
  | .fx _ _ _ | .idxfx _ _ _ | .bad => true
  | _ => false

/-- One step, as a relation. -/
def StepR (C : Ctx) (R : FuncId → List AV → AV → Prop) (all : List Oper) (o : Oper) (s : Nat) (t : Nat → AV) (h : AH) (x : AV) (h' : AH) : Prop :=
  match o.guard with
  | none => NodeR C R h (opA C (evA C t) h s o.op) x h'
  | some (i, pol) => ∃ d g y, (all[i]?).bind (·.dst) = some d ∧ guardA (t d) pol = some g ∧ x = .opt g y ∧ h' = h ∧
    ((condsO t o.op = none ∧ (g = true → isFx (opA C (evA C t) h s o.op) = false ∧ NodeR C R h (opA C (evA C t) h s o.op) y h)) ∨
     ∃ c, condsO t o.op = some c ∧ (g = true → c = true) ∧ (g = true → isFx (opA C (evS C t o.op) h s o.op) = false ∧ NodeR C R h (opA C (evS C t o.op) h s o.op) y h))

section
variable {C : Ctx} {R : FuncId → List AV → AV → Prop} {all : List Oper} {o : Oper} {s : Nat} {t : Nat → AV} {h h' : AH} {K : AV → AH → Prop}

theorem node_inv {r : Res} (hn : node C R h r K) : ∃ x h', NodeR C R h r x h' ∧ K x h' := by
  cases r <;> simp only [node] at hn
  case ok x => exact ⟨x, h, ⟨rfl, rfl⟩, hn⟩
  case need p x => obtain ⟨hp, hk⟩ := hn; exact ⟨x, h, ⟨hp rfl, rfl, rfl⟩, hk⟩
  case idx rows i f =>
    obtain ⟨row, hr, hk⟩ := hn
    split at hk
    · rename_i x hx; exact ⟨x, h, ⟨row, (hr rfl).1, (hr rfl).2, hx, rfl⟩, hk⟩
    · exact hk.elim
  case fx p x h2 => obtain ⟨hp, hk⟩ := hn; exact ⟨x, h2, ⟨hp rfl, rfl, rfl⟩, hk⟩
  case idxfx rows i f =>
    obtain ⟨row, hr, hk⟩ := hn
    split at hk
    · rename_i h2 hx; exact ⟨.any, h2, ⟨row, (hr rfl).1, (hr rfl).2, hx, rfl⟩, hk⟩
    · exact hk.elim
  case str p rows => obtain ⟨l, hl, hk⟩ := hn; exact ⟨_, h, ⟨l, (hl rfl).1, (hl rfl).2, rfl, rfl⟩, hk⟩
  case call f args => obtain ⟨x, h1, h2, h3, h4, hk⟩ := hn; exact ⟨x, h, ⟨h1, h2, h3, h4 rfl, rfl⟩, hk⟩

theorem nodeG_inv {g : Bool} {r : Res} (hn : nodeG C R h g r K) : ∃ y, isFx r = false ∧ (g = true → NodeR C R h r y h) ∧ K (.opt g y) h := by
  cases r <;> simp only [nodeG] at hn
  case ok x => exact ⟨x, rfl, fun _ => ⟨rfl, rfl⟩, hn⟩
  case need p x => obtain ⟨hp, hk⟩ := hn; exact ⟨x, rfl, fun hg => ⟨hp hg, rfl, rfl⟩, hk⟩
  case idx rows i f =>
    obtain ⟨row, hr, hk⟩ := hn
    split at hk
    · rename_i x hx; exact ⟨x, rfl, fun hg => ⟨row, (hr hg).1, (hr hg).2, hx, rfl⟩, hk⟩
    · exact hk.elim
  case str p rows => obtain ⟨l, hl, hk⟩ := hn; exact ⟨_, rfl, fun hg => ⟨l, (hl hg).1, (hl hg).2, rfl, rfl⟩, hk⟩
  case call f args => obtain ⟨x, h1, h2, h3, h4, hk⟩ := hn; exact ⟨x, rfl, fun hg => ⟨h1, h2, h3, h4 hg, rfl⟩, hk⟩

theorem step_inv (hs : stepA C R all o s t h K) : ∃ x h', StepR C R all o s t h x h' ∧ K x h' := by
  unfold stepA at hs
  unfold StepR
  cases hg : o.guard with
  | none => simp only [hg] at hs; exact node_inv hs
  | some q =>
    obtain ⟨i, pol⟩ := q
    simp only [hg] at hs
    split at hs
    · exact hs.elim
    · rename_i d hd
      split at hs
      · exact hs.elim
      · rename_i g hgv
        split at hs
        · rename_i hc
          obtain ⟨y, h1, h2, h3⟩ := nodeG_inv hs
          exact ⟨_, h, ⟨d, g, y, hd, hgv, rfl, rfl, .inl ⟨hc, fun hg => ⟨h1, h2 hg⟩⟩⟩, h3⟩
        · rename_i c hc
          obtain ⟨hs1, hs2⟩ := hs
          obtain ⟨y, h1, h2, h3⟩ := nodeG_inv hs2
          exact ⟨_, h, ⟨d, g, y, hd, hgv, rfl, rfl, .inr ⟨c, hc, hs1, fun hg => ⟨h1, h2 hg⟩⟩⟩, h3⟩
end

/-- A walk's state and the model's: at most the names of D are given. -/
structure SimD (C : Ctx) (w0 : World) (S0 : Nat → Prop) (N : Nat) (D : Nat → Prop) (t : Nat → AV) (h : AH) (a : Act) (w : World) (S : Nat → Prop) (β : Bt) : Prop where
  T : ∀ i, Rep S w β (t i) (a.tmps.getD i undef)
  H : SimH w0.heap.size S w β h
  B : Below w0.heap.size w0 w
  dom : ∀ x l, β x = some l → D x
  df : a.defers = []
  sz : a.tmps.size = N
  G : GOk C S w
  nw : ∀ b, S b → S0 b ∨ w0.heap.size ≤ b

section
variable {C : Ctx} {R : FuncId → List AV → AV → Prop} {all : List Oper} {o : Oper} {s N : Nat} {t : Nat → AV} {h h' : AH} {a : Act} {w w0 : World} {D : Nat → Prop} {S0 : Nat → Prop} {S : Nat → Prop} {β : Bt}

theorem ev_rep (M : SimD C w0 S0 N D t h a w S β) (x : Operand) : Rep S w β (evA C t x) (a.eval x) := by
  cases x with
  | tmp i => exact M.T i
  | const v => exact absV_rep v
  | global g =>
    show Rep S w β (match C.G g with | some cells => .dp cells.length 0 cells | none => .any) _
    split
    · rename_i cells hg
      exact (M.G g cells hg).mono (fun _ h => h) (Evo.refl _ _) (fun s l x => by cases x)
    · exact .any _
  | func f => exact .clo f [] [] #[] #[] rfl (fun i a u h => by simp at h) rfl (fun i a u h => by simp at h)

theorem conds_none : ∀ (l : List Operand), condsA t l = none → ∀ i, .tmp i ∈ l → stripC (t i) = none
  | [], _, i, hi => by cases hi
  | x :: l, hc, i, hi => by
    cases x with
    | tmp j =>
      simp only [condsA] at hc
      split at hc
      · rename_i r h1
        rcases List.mem_cons.1 hi with he | hi
        · injection he with he; subst he; exact h1
        · exact conds_none l hc i hi
      · cases hc
      · cases hc
    | _ =>
      simp only [condsA] at hc
      rcases List.mem_cons.1 hi with he | hi
      · cases he
      · exact conds_none l hc i hi
theorem conds_some : ∀ (l : List Operand) (c : Bool), condsA t l = some c → c = true → ∀ i g, .tmp i ∈ l → stripC (t i) = some g → g = true
  | [], _, hc, _, _, _, hi, _ => by cases hi
  | x :: l, c, hc, hct, i, g, hi, hg => by
    cases x with
    | tmp j =>
      simp only [condsA] at hc
      split at hc
      · rename_i r h1
        rcases List.mem_cons.1 hi with he | hi
        · injection he with he; subst he; rw [hg] at h1; cases h1
        · exact conds_some l c hc hct i g hi hg
      · rename_i g' h1 h2
        injection hc with hc; subst hc
        rcases List.mem_cons.1 hi with he | hi
        · injection he with he; subst he; rw [hg] at h1; injection h1 with h1; rw [h1]; exact hct
        · have := conds_none l h2 i hi; rw [hg] at this; cases this
      · rename_i g' r h1 h2
        injection hc with hc; subst hc
        simp only [Bool.and_eq_true] at hct
        rcases List.mem_cons.1 hi with he | hi
        · injection he with he; subst he; rw [hg] at h1; injection h1 with h1; rw [h1]; exact hct.1
        · exact conds_some l r h2 hct.2 i g hi hg
    | _ =>
      simp only [condsA] at hc
      rcases List.mem_cons.1 hi with he | hi
      · cases he
      · exact conds_some l c hc hct i g hi hg
theorem strip_rep (M : SimD C w0 S0 N D t h a w S β) (x : Operand) (hx : ∀ i g, x = .tmp i → stripC (t i) = some g → g = true) : Rep S w β (strip (evA C t x)) (a.eval x) := by
  have hr := ev_rep M x
  cases x with
  | tmp i =>
    show Rep S w β (strip (t i)) _
    have hr' : Rep S w β (t i) (a.eval (.tmp i)) := hr
    cases ht : t i with
    | opt g y =>
      rw [ht] at hr'
      exact rep_optT hr' (hx i g rfl (by rw [ht]; rfl))
    | _ => rw [ht] at hr'; exact hr'
  | const v =>
    have : strip (absV v) = absV v := by
      unfold absV
      split
      · rfl
      · split <;> rfl
      · rfl
    show Rep S w β (strip (absV v)) _
    rw [this]; exact hr
  | global g =>
    have hr' : Rep S w β (evA C t (.global g)) (a.eval (.global g)) := hr
    show Rep S w β (strip (evA C t (.global g))) _
    simp only [evA] at hr' ⊢
    split <;> rename_i hq <;> simp only [hq] at hr' <;> exact hr'
  | func f => exact hr
theorem evS_rep (M : SimD C w0 S0 N D t h a w S β) (op : Op) {c : Bool} (hc : condsO t op = some c) (hct : c = true) (x : Operand) (hx : x ∈ op.operands) : Rep S w β (evS C t op x) (a.eval x) := by
  have full : condsA t op.operands.toList = some c → Rep S w β (strip (evA C t x)) (a.eval x) := fun hc => strip_rep M x fun k g hk hgk => by
    subst hk; exact conds_some _ c hc hct k g (by simpa using hx) hgk
  cases op <;> first | exact full hc | skip
  case pick cc aa bb =>
    show Rep S w β (match sameO cc x with | true => strip (evA C t x) | false => evA C t x) _
    cases hs : sameO cc x with
    | false => exact ev_rep M x
    | true =>
      refine strip_rep M x fun k g hk hgk => ?_
      subst hk
      cases cc <;> simp only [sameO] at hs <;> try (cases hs; done)
      rename_i i
      rw [← Nat.eq_of_beq_eq_true hs] at hgk
      exact conds_some _ c hc hct i g (by simp) hgk

theorem wanted_iff (M : SimD C w0 S0 N D t h a w S β) {ops : Array Oper} (hall : ops.toList = all) {i d : Nat} {pol g : Bool} (hgd : o.guard = some (i, pol)) (hd : (all[i]?).bind (·.dst) = some d) (hg : guardA (t d) pol = some g) (hlt : d < N) :
    Region.wanted o (yielded ops a.tmps) = g := by
  have hd' : (ops[i]?).bind (·.dst) = some d := by rw [← hd, ← hall, Array.getElem?_toList]
  have hT := M.T d
  have hsz : d < a.tmps.size := by rw [M.sz]; exact hlt
  have hget : a.tmps[d]? = some (a.tmps.getD d undef) := by rw [Array.getElem?_eq_getElem hsz, Array.getD_eq_getD_getElem?, Array.getElem?_eq_getElem hsz]; rfl
  have hw : Region.wanted o (yielded ops a.tmps) = (yielded ops a.tmps i == some pol) := by simp only [Region.wanted, hgd]
  have hy : yielded ops a.tmps i = (match (some (a.tmps.getD d undef) : Option Value) with | some (.bool b) => some b | _ => none) := by
    simp only [yielded, hd', Option.bind_some, hget]
    cases a.tmps.getD d undef <;> rfl
  rw [hw, hy]
  unfold guardA at hg
  split at hg
  · rename_i b hb
    rw [hb] at hT
    rw [rep_v hT]
    injection hg with hg; subst hg
    cases pol <;> cases b <;> rfl
  · rename_i a' b hb
    rw [hb] at hT
    injection hg with hg; subst hg
    generalize a.tmps.getD d undef = v at hT
    cases hT with
    | optT _ _ _ ha hr => rw [rep_v hr, ha]; cases pol <;> cases b <;> rfl
    | optF _ _ ha => rw [ha]; rfl
  · cases hg

theorem datA_rep {β : Bt} {a : AV} {v : Value} {B : Nat} (H : SimH B S w β h) (hr : Rep S w β a v) : lenOkA h a → Rep (fun b => S b ∨ (B ≤ b ∧ b < w.heap.size)) w β (datA h a) v := by
  have hS : ∀ b, S b → S b ∨ (B ≤ b ∧ b < w.heap.size) := fun b hb => .inl hb
  have plain : ∀ {a : AV} {v : Value}, Rep S w β a v → Rep (fun b => S b ∨ (B ≤ b ∧ b < w.heap.size)) w β a v := fun h => h.mono hS (Evo.refl _ _) (BtLe.refl _)
  have datL_get : ∀ (cs : List AV) (i : Nat) (x : AV), (datL h cs)[i]? = some x → ∃ y, cs[i]? = some y ∧ x = datA h y := by
    intro cs
    induction cs with
    | nil => intro i x hx; simp [datL] at hx
    | cons c cs ih =>
      intro i x hx
      cases i with
      | zero => simp [datL] at hx; exact ⟨c, rfl, hx.symm⟩
      | succ i => simp [datL] at hx; exact ih i x hx
  have datL_len : ∀ (cs : List AV), (datL h cs).length = cs.length := by
    intro cs
    induction cs with
    | nil => rfl
    | cons c cs ih => simp [datL, ih]
  have len_get : ∀ (cs : List AV), lenOkL h cs → ∀ (i : Nat) y, cs[i]? = some y → lenOkA h y := by
    intro cs
    induction cs with
    | nil => intro _ i y hy; simp at hy
    | cons c cs ih =>
      intro hl i y hy
      simp only [lenOkL] at hl
      cases i with
      | zero => simp at hy; subst hy; exact hl.1
      | succ i => exact ih hl.2 i y (by simpa using hy)
  induction hr with
  | v x => intro _; exact .v x
  | agg cs vs hl h1 hr ih =>
    intro hlk
    simp only [lenOkA] at hlk
    show Rep _ w _ (.agg (datL h cs)) _
    refine .agg _ _ (by rw [datL_len]; exact hl) h1 fun i x u p q => ?_
    obtain ⟨y, hy, rfl⟩ := datL_get cs i x p
    exact ih i y u hy q H plain (len_get cs hlk i y hy)
  | osl s lo len clip l A c hl hc hm hcl hA cs e fr hb room =>
    rename_i β'
    intro hlk
    simp only [lenOkA] at hlk
    show Rep _ w _ (match h s with | some (.arr rows rs) => .sl rs ((rows.drop lo).take len) clip | _ => .any) _
    split
    · rename_i rows rs hs
      simp only [hs] at hlk
      obtain ⟨l', ds, e', fr', k1, k2, k3, k4, k5, k6, k7, k8⟩ := H.own s _ hs
      obtain rfl : l' = l := by rw [hl] at k1; exact (Option.some.inj k1).symm
      subst k6
      have hlen : ((rows.drop lo).take len).length = len := by rw [List.length_take, List.length_drop]; omega
      have sub : ∀ (i : Nat) row, ((rows.drop lo).take len)[i]? = some row → rows[lo + i]? = some row := by
        intro i row hi
        rw [List.getElem?_take] at hi
        split at hi
        · rwa [List.getElem?_drop] at hi
        · cases hi
      have hds : ∀ (i : Nat) row (j : Nat) a, ((rows.drop lo).take len)[i]? = some row → row[j]? = some a → i < len ∧ j < l'.rs ∧ (ds.getD (l'.base + (lo + i) * l'.rs + j) undef).oneCell' = true ∧ ds[l'.base + (lo + i) * l'.rs + j]? = some (ds.getD (l'.base + (lo + i) * l'.rs + j) undef) ∧ Rep S w noB a (ds.getD (l'.base + (lo + i) * l'.rs + j) undef) := by
        intro i row j a hi hj
        obtain ⟨u, q1, q2, q3⟩ := k8 _ _ _ _ (sub i row hi) hj
        have hg : ds.getD (l'.base + (lo + i) * l'.rs + j) undef = u := by rw [Array.getD_eq_getD_getElem?, q1]; rfl
        rw [hg]
        exact ⟨by rw [← hlen]; exact (List.getElem?_eq_some_iff.1 hi).1, by rw [← k7 row (List.mem_of_getElem? (sub i row hi))]; exact (List.getElem?_eq_some_iff.1 hj).1, q2, q1, q3⟩
      have hval : (Value.slice A len c) = .slice A ((rows.drop lo).take len).length c := by rw [hlen]
      rw [hval]
      refine .sl l'.rs _ clip A c l'.blk (l'.base + lo * l'.rs) (fun i j => if i < len ∧ j < l'.rs then ds.getD (l'.base + (lo + i) * l'.rs + j) undef else .bool false) (by rw [hlen]; exact hc) hm (by rw [hlen]; exact hcl) (fun row hrow => k7 row (List.mem_of_mem_drop (List.mem_of_mem_take hrow)))
        (fun h0 => ⟨hA (by rw [hlen] at h0; omega), .inr ⟨k4, lt_of_heap k2⟩⟩) (fun i row j a hi hj => ?_) (fun i j => ?_) fun i row j a hi hj => ?_
      · obtain ⟨t1, t2, t3, t4, t5⟩ := hds i row j a hi hj
        rw [if_pos ⟨t1, t2⟩, cell_of_cells k2, ← t4]
        congr 1
        rw [Nat.add_mul]; omega
      · show (if i < len ∧ j < l'.rs then ds.getD (l'.base + (lo + i) * l'.rs + j) undef else .bool false).oneCell' = true
        by_cases hij : i < len ∧ j < l'.rs
        · have hi : ((rows.drop lo).take len)[i]? = some (((rows.drop lo).take len)[i]'(by rw [hlen]; exact hij.1)) := List.getElem?_eq_getElem _
          have hjl : j < (((rows.drop lo).take len)[i]'(by rw [hlen]; exact hij.1)).length := by
            rw [k7 _ (List.mem_of_getElem? (sub i _ hi))]; exact hij.2
          obtain ⟨t1, t2, t3, t4, t5⟩ := hds i _ j _ hi (List.getElem?_eq_getElem hjl)
          rw [if_pos hij]; exact t3
        · rw [if_neg hij]; rfl
      · obtain ⟨t1, t2, t3, t4, t5⟩ := hds i row j a hi hj
        rw [if_pos ⟨t1, t2⟩]
        exact t5.mono hS (Evo.refl _ _) (BtLe.refl _)
    · exact .any _
  | tup cs vs hl h ih => intro _; exact plain (.tup cs vs hl h)
  | sl rs rows clip A c b o u hc hm hcl hrs hA hw h1 hr ih => intro _; exact plain (.sl rs rows clip A c b o u hc hm hcl hrs hA hw h1 hr)
  | dp rs col row b o u hrs hb hw h1 hr ih => intro _; exact plain (.dp rs col row b o u hrs hb hw h1 hr)
  | ptr s col l hl => intro _; exact plain (.ptr s col l hl)
  | ptr2 s row col l hl => intro _; exact plain (.ptr2 s row col l hl)
  | clo f first caps vs us hl h hl' h' ih ih' => intro _; exact plain (.clo f first caps vs us hl h hl' h')
  | optT g a x hg h ih => intro _; exact plain (.optT g a x hg h)
  | optF g a hg => intro _; exact .optF g a hg
  | any x => intro _; exact .any x

theorem flat_rep {β β' : Bt} {S S' : Nat → Prop} {w w' : World} {a : AV} {v : Value} (hr : Rep S w β a v) : flatA a = true → Rep S' w' β' a v := by
  have get : ∀ (cs : List AV), flatL cs = true → ∀ (i : Nat) x, cs[i]? = some x → flatA x = true := by
    intro cs
    induction cs with
    | nil => intro _ i x hx; simp at hx
    | cons c cs ih =>
      intro hf i x hx
      simp only [flatL] at hf
      split at hf
      · rename_i hc
        cases i with
        | zero => simp at hx; subst hx; exact hc
        | succ i => exact ih hf i x (by simpa using hx)
      · cases hf
  induction hr with
  | v x => intro _; exact .v x
  | agg cs vs hl h1 h ih => intro hf; exact .agg cs vs hl h1 fun i a u p q => ih i a u p q (get cs (by simpa [flatA] using hf) i a p)
  | tup cs vs hl h ih => intro hf; exact .tup cs vs hl fun i a u p q => ih i a u p q (get cs (by simpa [flatA] using hf) i a p)
  | _ => intro hf; simp [flatA] at hf

theorem noOwn_dat : ∀ (cs : List AV), noOwnL cs = true → datL h cs = cs := by
  have key : ∀ (n : Nat) (cs : List AV), SizeOf.sizeOf cs ≤ n → noOwnL cs = true → datL h cs = cs := by
    intro n
    induction n with
    | zero => intro cs hn; cases cs <;> simp at hn
    | succ n ih =>
      intro cs hn hc
      cases cs with
      | nil => rfl
      | cons x xs =>
        simp only [noOwnL] at hc
        split at hc
        · rename_i hx
          have h2 := ih xs (by simp at hn; omega) hc
          simp only [datL, h2]
          congr 1
          cases x with
          | agg ds =>
            have := ih ds (by simp at hn; omega) (by simpa [noOwn] using hx)
            simp only [datA, this]
          | osl => simp [noOwn] at hx
          | _ => rfl
        · cases hc
  exact fun cs hc => key _ cs (Nat.le_refl _) hc

/-- A call of known values, in the midst of a walk. -/
theorem call_sound {f : FuncId} {args : List AV} {x : AV} {vs : List Value} (M : SimD C w0 S0 N D t h a w S β) (hargs : RepL S w β args vs) (hcl : closedL (datL h args) = true) (hf : noOwnL args = true ∨ (flatA x = true ∧ lenOkL h args)) (hcx : closedA x = true) (hR : DCall C f (datL h args) x) :
    (callFunc f vs.toArray).run C.P w = .ok (.enter f vs.toArray) w ∧ Calls C.P f vs.toArray w fun e w' => ∃ v S', e = .returned v ∧ Rep S' w' β x v ∧ SimH w0.heap.size S' w' β h ∧ StepK w0.heap.size S w β s S' w' β := by
  obtain ⟨⟨fn, g1, g2, g3⟩, hcall⟩ := hR
  have lenL : ∀ (cs : List AV), (datL h cs).length = cs.length := by
    intro cs
    induction cs with
    | nil => rfl
    | cons c cs ih => simp [datL, ih]
  constructor
  · simp only [callFunc, Sem.run_bind, program, Sem.run, Result.andThen_ok, g1]
    have : fn.body.isNone = false := by cases hb : fn.body <;> simp_all
    simp [g3, this]
  · -- what is stable behind the call
    have after : ∀ (S1 : Nat → Prop), (∀ b, S1 b → b < w.heap.size) → (∀ w' v, Below w.heap.size w w' → Rep (fun b => S1 b ∨ (w.heap.size ≤ b ∧ b < w'.heap.size)) w' noB x v → ∃ S', Rep S' w' β x v ∧ (∀ b, S b → S' b) ∧ (∀ b, S' b → S b ∨ w.heap.size ≤ b) ∧ ∀ b, S' b → b < w'.heap.size) → RepL S1 w noB (datL h args) vs → GOk C S1 w →
        Calls C.P f vs.toArray w fun e w' => ∃ v S', e = .returned v ∧ Rep S' w' β x v ∧ SimH w0.heap.size S' w' β h ∧ StepK w0.heap.size S w β s S' w' β := by
      intro S1 hS1 hback hrep hG
      refine (hcall S1 w vs hS1 hG hrep).mono ?_
      rintro e w' ⟨v, he, hB, hr⟩
      obtain ⟨S', r1, r2, r3, r4⟩ := hback w' v hB hr
      have hE : Evo S w w' := Evo.of_kept (fun b hb => hB.block b hb) M.H.lt
      refine ⟨v, S', he, r1, ⟨fun s' blk hs' => ?_, M.H.inj, r4, Nat.le_trans M.H.big hB.size⟩, ⟨r2, hE, hB.mono M.H.big, BtLe.refl _, fun _ _ hx => .inl hx, fun b hb => (r3 b hb).imp id fun h => Nat.le_trans M.H.big h⟩⟩
      obtain ⟨l, cs, e', fr, k1, k2, k3, k4, k5, k6⟩ := M.H.own s' blk hs'
      have hlt := lt_of_heap k2
      refine ⟨l, cs, e', fr, k1, (hB.block _ hlt).trans k2, k3, k4, fun hb => ?_, k6.mono r2 hE (BtLe.refl _)⟩
      rcases r3 _ hb with hb | hb
      · exact k5 hb
      · omega
    rcases hf with hf | ⟨hf, hlk⟩
    · have e1 := noOwn_dat (h := h) args hf
      rw [e1] at hcl
      refine after S M.H.lt (fun w' v hB hr => ⟨fun b => S b ∨ (w.heap.size ≤ b ∧ b < w'.heap.size), ?_, fun b hb => .inl hb, fun b hb => hb.imp id (·.1), fun b hb => ?_⟩) (by rw [e1]; exact ⟨hargs.1, fun i y u p q => closed_rep (hargs.2 i y u p q) (closedL_get args hcl i y p) _⟩) M.G
      · exact hr.mono (fun _ h => h) (Evo.refl _ _) (fun s l x => by cases x)
      · rcases hb with hb | hb
        · exact Nat.lt_of_lt_of_le (M.H.lt b hb) hB.size
        · exact hb.2
    · have datL_get : ∀ (cs : List AV) (i : Nat) (x : AV), (datL h cs)[i]? = some x → ∃ y, cs[i]? = some y ∧ x = datA h y := by
        intro cs
        induction cs with
        | nil => intro i x hx; simp [datL] at hx
        | cons c cs ih =>
          intro i x hx
          cases i with
          | zero => simp [datL] at hx; exact ⟨c, rfl, hx.symm⟩
          | succ i => simp [datL] at hx; exact ih i x hx
      have len_get : ∀ (cs : List AV), lenOkL h cs → ∀ (i : Nat) y, cs[i]? = some y → lenOkA h y := by
        intro cs
        induction cs with
        | nil => intro _ i y hy; simp at hy
        | cons c cs ih =>
          intro hl i y hy
          simp only [lenOkL] at hl
          cases i with
          | zero => simp at hy; subst hy; exact hl.1
          | succ i => exact ih hl.2 i y (by simpa using hy)
      refine after (fun b => b < w.heap.size) (fun _ h => h) (fun w' v hB hr => ⟨S, flat_rep hr hf, fun _ h => h, fun b hb => .inl hb, fun b hb => Nat.lt_of_lt_of_le (M.H.lt b hb) hB.size⟩) ⟨by rw [lenL]; exact hargs.1, fun i y u p q => ?_⟩ fun g cells hg => (M.G g cells hg).mono M.H.lt (Evo.refl _ _) (BtLe.refl _)
      obtain ⟨z, hz, rfl⟩ := datL_get args i y p
      exact closed_rep ((datA_rep M.H (hargs.2 i z u hz q) (len_get args hlk i z hz)).mono (fun b hb => hb.elim (M.H.lt b) (·.2)) (Evo.refl _ _) (BtLe.refl _)) (closedL_get _ hcl i _ p) _
end
end Go.Proofs.Ytckjihpdjefpgaa
