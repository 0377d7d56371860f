/- The second machine and the model: the operations that turn no memory. -/
import Derived.Test.YtckjihpdjefpgaaAbsR
namespace Go.Proofs.Ytckjihpdjefpgaa
open Go.RowKit

/-! ### lists -/
theorem nthO_eq : ∀ (l : List AV) (n : Nat), nthO l n = l[n]?
  | [], n => by simp [nthO]
  | x :: l, 0 => by simp [nthO]
  | x :: l, n + 1 => by simp [nthO, nthO_eq l n]
theorem takeL_eq : ∀ (n : Nat) (l : List AV), takeL n l = l.take n
  | 0, l => by simp [takeL]
  | n + 1, [] => by simp [takeL]
  | n + 1, x :: l => by simp [takeL, takeL_eq n l]
theorem dropL_eq : ∀ (n : Nat) (l : List AV), dropL n l = l.drop n
  | 0, l => by simp [dropL]
  | n + 1, [] => by simp [dropL]
  | n + 1, x :: l => by simp [dropL, dropL_eq n l]
theorem nthF_eq : ∀ (l : List (Nat × TypeId)) (n : Nat), nthF l n = l[n]?
  | [], n => by simp [nthF]
  | x :: l, 0 => by simp [nthF]
  | x :: l, n + 1 => by simp [nthF, nthF_eq l n]
theorem putL_length : ∀ (n : Nat) (cs l : List AV), n + cs.length ≤ l.length → (putL n cs l).length = l.length
  | 0, [], l, _ => by simp [putL]
  | 0, c :: cs, x :: l, h => by simp [putL, putL_length 0 cs l (by simp at h; omega)]
  | 0, c :: cs, [], h => by simp at h
  | n + 1, cs, x :: l, h => by simp [putL, putL_length n cs l (by simp at h; omega)]
  | n + 1, cs, [], h => by simp at h
theorem putL_get : ∀ (n : Nat) (cs l : List AV) (j : Nat), n + cs.length ≤ l.length → (putL n cs l)[j]? = if n ≤ j ∧ j < n + cs.length then cs[j - n]? else l[j]?
  | 0, [], l, j, _ => by simp [putL]
  | 0, c :: cs, x :: l, 0, h => by simp [putL]
  | 0, c :: cs, x :: l, j + 1, h => by
    simp [putL, putL_get 0 cs l j (by simp at h; omega)]
  | 0, c :: cs, [], j, h => by simp at h
  | n + 1, cs, x :: l, 0, h => by simp [putL]
  | n + 1, cs, x :: l, j + 1, h => by
    simp only [putL, List.getElem?_cons_succ, putL_get n cs l j (by simp at h; omega)]
    have : j + 1 - (n + 1) = j - n := by omega
    rw [this]
    by_cases hc : n ≤ j ∧ j < n + cs.length
    · rw [if_pos hc, if_pos (by omega)]
    · rw [if_neg hc, if_neg (by omega)]
  | n + 1, cs, [], j, h => by simp at h

/-! ### what is told of a program's types is so -/
def eqV : CK → Value → Value → Option Bool
  | .i, .int k a, .int k' b => match sameKind k k' with | true => some (a == b) | false => none
  | .b, .bool a, .bool b => some (a == b)
  | .s, .string a, .string b => some (a == b)
  | _, _, _ => none
def eqVL : List CK → List Value → List Value → Option Bool
  | [], [], [] => some true
  | k :: ks, x :: xs, y :: ys => match eqV k x y, eqVL ks xs ys with | some a, some b => some (a && b) | _, _ => none
  | _, _, _ => none

def EqOk (P : Program) (t : TypeId) (ks : List CK) : Prop := ∀ (xs ys : Array Value) (b : Bool) (x y : Operand) (w : World), eqVL ks xs.toList ys.toList = some b →
  (do eqGuard .eql t x y (.agg xs) (.agg ys); binOp .eql t (.agg xs) (.agg ys) : Sem Value).run P w = .ok (.bool b) w ∧
  (do eqGuard .neq t x y (.agg xs) (.agg ys); binOp .neq t (.agg xs) (.agg ys) : Sem Value).run P w = .ok (.bool (!b)) w

structure TyOk (P : Program) (t : TypeId) (i : TI) : Prop where
  info : ∃ inf z, P.info? t = some inf ∧ inf.size = i.sz ∧ inf.bytes = i.bytes ∧ inf.zero = some z ∧ i.zero = absV z ∧ z.cells.size = i.sz ∧ 0 < i.sz ∧ i.bytes ≤ 1000
  one : ∀ inf z, P.info? t = some inf → inf.zero = some z → ∀ (k : Nat) u, z.cells[k]? = some u → u.oneCell' = true
  ag : ∃ d, P.underlying t = some d ∧ d.isRow = i.ag
  kd : match i.kd with
    | .bool => P.underlying t = some .bool
    | .int k => P.underlying t = some (.int k)
    | .string => P.underlying t = some .string
    | .slice e => P.underlying t = some (.slice e)
    | .array n e => P.underlying t = some (.array n e)
    | .struct fs => ∃ fields, P.underlying t = some (.struct fields) ∧ fields.toList.map (fun f => (f.offset, f.type)) = fs ∧ ∀ f ∈ fields.toList, ∃ inf, P.info? f.type = some inf ∧ inf.size ≠ 0
    | _ => True
  eq : i.eq ≠ [] → EqOk P t i.eq

structure CtxOk (C : Ctx) : Prop where
  ty : ∀ t i, C.ty t = some i → TyOk C.P t i
  mixed : C.P.follows .mixedOrders = true

/-- Of an operation that turns no memory: what it yields is as its answer says. -/
def Yld (P : Program) (S : Nat → Prop) (w : World) (β : Bt) (x : AV) (r : Sem Value) : Prop := ∃ v, r.run P w = .ok v w ∧ Rep S w β x v
def ResOk (P : Program) (S : Nat → Prop) (w : World) (β : Bt) (r : Sem Value) : Res → Prop
  | .bad => True
  | .ok x => Yld P S w β x r
  | .need p x => p → Yld P S w β x r
  | .idx rows i f => ∀ row x, 0 ≤ i → rows[i.toNat]? = some row → f row = some x → Yld P S w β x r
  | .str p rows => ∀ l, p → bytesOfRows rows = some l → Yld P S w β (.v (.string ⟨l.toArray⟩)) r
  | _ => False

section
variable {C : Ctx} {S : Nat → Prop} {w : World} {β : Bt}

theorem nil_rep : Rep S w β (.sl 0 [] true) (.slice none 0 0) :=
  .sl 0 [] true none 0 0 0 (fun _ _ => .bool false) (Nat.le_refl _) (Nat.zero_le _) (fun _ => rfl) (by simp) (by simp) (by simp) (fun _ _ => rfl) (by simp)
theorem absC_rep (x : Value) : Rep S w β (absC x) x := by
  unfold absC
  split
  · exact nil_rep
  · exact .v _
theorem oneC_spec : ∀ (l : List Value), oneC l = true → ∀ (i : Nat) u, l[i]? = some u → u.oneCell' = true
  | [], _, i, u, h => by simp at h
  | v :: l, h, i, u, hi => by
    simp only [oneC] at h
    split at h
    · rename_i hv
      cases i with
      | zero => simp at hi; subst hi; exact hv
      | succ i => exact oneC_spec l h i u (by simpa using hi)
    · cases h
theorem absV_rep (x : Value) : Rep S w β (absV x) x := by
  unfold absV
  split
  · exact nil_rep
  · split
    · rename_i cs h
      refine .agg _ _ (by simp) (fun i u hu => oneC_spec _ h i u (by simpa using hu)) fun i a u h1 h2 => ?_
      simp only [List.getElem?_map, Array.getElem?_toList, h2, Option.map_some, Option.some.injEq] at h1
      subst h1
      exact absC_rep _
    · exact .any _
  · exact .v _

/-- The cells of a value. -/
theorem cellsA_rep {a : AV} {v : Value} {cs : List AV} (h : Rep S w β a v) (hc : cellsA a = some cs) : CellL S w β cs v.cells.toList := by
  have one : ∀ (a : AV) (v : Value), Rep S w β a v → v.cells = #[v] → v.oneCell' = true → CellL S w β [a] v.cells.toList := fun a v h e h1 => by
    rw [e]; exact ⟨RepL.cons h (RepL.nil _ _ _), fun i u hu => by
      cases i with
      | zero => simp at hu; subst hu; exact h1
      | succ i => simp at hu⟩
  cases h with
  | v =>
    cases v <;> simp only [cellsA] at hc <;> first
      | (cases hc; done)
      | (injection hc with hc; subst hc; exact one _ _ (.v _) rfl rfl)
  | agg ds vs hl h1 h =>
    simp only [cellsA] at hc
    injection hc with hc; subst hc
    exact ⟨⟨by simpa [Value.cells] using hl, fun i a u h1 h2 => h i a u h1 (by simpa [Value.cells] using h2)⟩, fun i u hu => h1 i u (by simpa [Value.cells] using hu)⟩
  | tup ds vs hl h => simp [cellsA] at hc
  | sl rs rows clip A c b o u hc' hm hcl hrs hA hw h1 hr =>
    simp only [cellsA] at hc; injection hc with hc; subst hc
    exact one _ _ (.sl rs rows clip A c b o u hc' hm hcl hrs hA hw h1 hr) rfl rfl
  | dp rs col row b o u hrs hb hw h1 hr =>
    simp only [cellsA] at hc; injection hc with hc; subst hc
    exact one _ _ (.dp rs col row b o u hrs hb hw h1 hr) rfl rfl
  | ptr s col l hl => simp only [cellsA] at hc; injection hc with hc; subst hc; exact one _ _ (.ptr s col l hl) rfl rfl
  | ptr2 s row col l hl => simp only [cellsA] at hc; injection hc with hc; subst hc; exact one _ _ (.ptr2 s row col l hl) rfl rfl
  | osl s lo len clip l A c hl hc' hm hcl hA ds e fr hb room =>
    simp only [cellsA] at hc; injection hc with hc; subst hc
    exact one _ _ (.osl s lo len clip l A c hl hc' hm hcl hA ds e fr hb room) rfl rfl
  | clo f first caps vs us hl h hl' h' =>
    simp only [cellsA] at hc; injection hc with hc; subst hc
    exact one _ _ (.clo f first caps vs us hl h hl' h') rfl rfl
  | optT g a x hg h => simp [cellsA] at hc
  | optF g a hg => simp [cellsA] at hc
  | any x => simp [cellsA] at hc

/-! ### the operations -/
theorem yld {P : Program} {x : AV} {v : Value} (h : Rep S w β x v) : Yld P S w β x (pure v) := ⟨v, rfl, h⟩
theorem cond2_eq (c x y : Bool) : cond2 c x y = if c then x else y := by cases c <;> rfl

theorem rep_bool {b : Bool} {v : Value} (h : Rep S w β (.v (.bool b)) v) : v = .bool b := by cases h; rfl
theorem rep_v {x v : Value} (h : Rep S w β (.v x) v) : v = x := by cases h; rfl
theorem rep_optT {g : Bool} {a : AV} {v : Value} (h : Rep S w β (.opt g a) v) (hg : g = true) : Rep S w β a v := by
  cases h with
  | optT _ _ _ _ h => exact h
  | optF _ _ h => rw [hg] at h; cases h

/-- pick -/
theorem pick_ok {P : Program} {ac aa ab : AV} {vc va vb : Value} (hc : Rep S w β ac vc) (ha : Rep S w β aa va) (hb : Rep S w β ab vb) :
    ResOk P S w β (do pure (if ← asBool vc then va else vb))
      (pickA ac aa ab) := by
  unfold pickA
  split
  · rename_i c x y
    cases rep_bool hc; cases rep_bool ha; cases rep_bool hb
    refine ⟨_, rfl, ?_⟩
    cases c <;> exact .v _
  · rename_i c g x y
    cases rep_bool hc; cases rep_bool hb
    intro hg
    cases c with
    | true => cases rep_bool (rep_optT ha (hg rfl)); exact ⟨_, rfl, .v _⟩
    | false => exact ⟨_, rfl, .v _⟩
  · rename_i c x g y
    cases rep_bool hc; cases rep_bool ha
    intro hg
    cases c with
    | false => cases rep_bool (rep_optT hb (hg rfl)); exact ⟨_, rfl, .v _⟩
    | true => exact ⟨_, rfl, .v _⟩
  · trivial

theorem intOp_ok {P : Program} (op : BinOp) (t : TypeId) (k : IntKind) (a b : Int) (h : isShift op = false) : ResOk P S w β (binOp op t (.int k a) (.int k b)) (intOp op k a b) := by
  cases op <;> simp only [isShift, Bool.true_eq_false] at h <;> simp only [intOp, ResOk, binOp, ne_eq, not_true_eq_false, if_false, Op.intArith, Op.intBits, Op.intCmp] <;> first
    | exact ⟨_, rfl, .v _⟩
    | (intro hb; simp only [Op.intDiv, hb, if_false]; exact ⟨_, rfl, .v _⟩)
    | trivial
theorem shOp_ok {P : Program} (op : BinOp) (t : TypeId) (k k' : IntKind) (a b : Int) (h : isShift op = true) : ResOk P S w β (binOp op t (.int k a) (.int k' b)) (shOp op k a b) := by
  cases op <;> simp only [isShift, Bool.false_eq_true] at h <;> simp only [shOp, ResOk, binOp] <;> (intro hb; simp only [Op.shift, if_neg (Int.not_lt.2 hb)]; exact ⟨_, rfl, .v _⟩)
theorem sameKind_eq {a b : IntKind} (h : sameKind a b = true) : a = b := by cases a <;> cases b <;> first | rfl | (simp [sameKind] at h)
theorem boolOp_ok {P : Program} (op : BinOp) (t : TypeId) (a b : Bool) (ht : P.underlying t = some .bool) : ResOk P S w β (binOp op t (.bool a) (.bool b)) (boolOp op a b) := by
  have he : (Op.equal t (.bool a) (.bool b)).run P w = .ok (a == b) w := by
    unfold Op.equal
    rw [show Op.maxDepth = 9999 + 1 from rfl, Op.equalIn]
    simp only [Sem.run_bind, run_underlying ht, Result.andThen_ok, Sem.run_pure]
  cases op <;> simp only [boolOp, ResOk, binOp] <;> exact ⟨_, by simp only [Sem.run_bind, he, Result.andThen_ok, Sem.run_pure], .v _⟩
theorem strOp_ok {P : Program} (op : BinOp) (t : TypeId) (a b : ByteArray) : ResOk P S w β (binOp op t (.string a) (.string b)) (strOp op a b) := by
  cases op <;> simp only [strOp, ResOk, binOp, Op.stringOp] <;> first
    | exact ⟨_, rfl, .v _⟩
    | (intro hb; rw [if_neg (Int.not_lt.2 hb)]; exact ⟨_, rfl, .v _⟩)
theorem eqS_eqV {k : CK} {a b : AV} {u v : Value} {r : Bool} (ha : Rep S w β a u) (hb : Rep S w β b v) (h : eqS k a b = some r) : eqV k u v = some r := by
  unfold eqS at h
  split at h
  · cases rep_v ha; cases rep_v hb; exact h
  · cases rep_v ha; cases rep_v hb; exact h
  · cases rep_v ha; cases rep_v hb; exact h
  · cases h
theorem eqL_eqVL : ∀ (ks : List CK) (xs ys : List AV) (us vs : List Value) (r : Bool), RepL S w β xs us → RepL S w β ys vs → eqL ks xs ys = some r → eqVL ks us vs = some r
  | [], [], [], us, vs, r, hx, hy, h => by
    have h1 : us = [] := List.eq_nil_of_length_eq_zero (by simpa using hx.1.symm)
    have h2 : vs = [] := List.eq_nil_of_length_eq_zero (by simpa using hy.1.symm)
    subst h1; subst h2
    exact h
  | k :: ks, x :: xs, y :: ys, us, vs, r, hx, hy, h => by
    match us, vs, hx, hy with
    | [], _, hx, _ => simp [RepL] at hx
    | _ :: _, [], _, hy => simp [RepL] at hy
    | u :: us, v :: vs, hx, hy =>
      simp only [eqL] at h
      split at h
      · rename_i a b h1 h2
        have e1 := eqS_eqV (hx.2 0 x u rfl rfl) (hy.2 0 y v rfl rfl) h1
        have e2 := eqL_eqVL ks xs ys us vs b ⟨by simpa using hx.1, fun i a' u' p q => hx.2 (i + 1) a' u' (by simpa using p) (by simpa using q)⟩ ⟨by simpa using hy.1, fun i a' u' p q => hy.2 (i + 1) a' u' (by simpa using p) (by simpa using q)⟩ h2
        simp only [eqVL, e1, e2]; exact h
      · cases h
  | [], _ :: _, _, _, _, _, _, _, h => by simp [eqL] at h
  | [], [], _ :: _, _, _, _, _, _, h => by simp [eqL] at h
  | _ :: _, [], _, _, _, _, _, _, h => by simp [eqL] at h
  | _ :: _, _ :: _, [], _, _, _, _, _, h => by simp [eqL] at h

theorem bin_ok (hC : CtxOk C) (op : BinOp) (t : TypeId) (x y : Operand) {ax ay : AV} {vx vy : Value} (hx : Rep S w β ax vx) (hy : Rep S w β ay vy) :
    ResOk C.P S w β (do eqGuard op t x y vx vy; binOp op t vx vy) (binA C op t ax ay) := by
  have plain : ∀ (r : Res) (vx vy : Value), (eqGuard op t x y vx vy).run C.P w = .ok () w → ResOk C.P S w β (binOp op t vx vy) r → ResOk C.P S w β (do eqGuard op t x y vx vy; binOp op t vx vy) r := by
    intro r vx vy hg hr
    have key : ∀ z, Yld C.P S w β z (binOp op t vx vy) → Yld C.P S w β z (do eqGuard op t x y vx vy; binOp op t vx vy) := by
      rintro z ⟨v, h1, h2⟩
      exact ⟨v, by simp only [Sem.run_bind, hg, Result.andThen_ok, h1], h2⟩
    cases r <;> simp only [ResOk] at hr ⊢
    · exact key _ hr
    · exact fun hp => key _ (hr hp)
    · exact fun row z h0 h1 h2 => key _ (hr row z h0 h1 h2)
    · exact fun l hp h0 => key _ (hr l hp h0)
  unfold binA
  split
  · rename_i k a k' b
    cases rep_v hx; cases rep_v hy
    have hg : (eqGuard op t x y (.int k a) (.int k' b)).run C.P w = .ok () w := by unfold eqGuard; cases op <;> rfl
    split
    · rename_i hs
      exact plain _ _ _ hg (shOp_ok op t k k' a b hs)
    · rename_i hs
      split
      · rename_i hk
        obtain rfl := sameKind_eq hk
        exact plain _ _ _ hg (intOp_ok op t k a b hs)
      · trivial
  · rename_i a b
    cases rep_v hx; cases rep_v hy
    split
    · rename_i hty
      have hT := (hC.ty t _ hty).kd
      exact plain _ _ _ (by unfold eqGuard; cases op <;> rfl) (boolOp_ok op t a b hT)
    · trivial
  · rename_i a b
    cases rep_v hx; cases rep_v hy
    exact plain _ _ _ (by unfold eqGuard; cases op <;> rfl) (strOp_ok op t a b)
  · rename_i xs ys
    split
    · rename_i hty
      have hT := (hC.ty t _ hty).eq (by simp)
      cases hx with
      | agg _ us hl h1 h =>
      cases hy with
      | agg _ vs hl' h1' h' =>
      have rx : RepL S w β xs us.toList := ⟨by simpa using hl, fun i a u p q => h i a u p (by simpa using q)⟩
      have ry : RepL S w β ys vs.toList := ⟨by simpa using hl', fun i a u p q => h' i a u p (by simpa using q)⟩
      split
      · rename_i b hb
        exact ⟨_, (hT us vs b x y w (eqL_eqVL _ _ _ _ _ _ rx ry hb)).1, .v _⟩
      · rename_i b hb
        exact ⟨_, (hT us vs b x y w (eqL_eqVL _ _ _ _ _ _ rx ry hb)).2, .v _⟩
      · trivial
    · trivial
  · trivial

theorem un_ok {P : Program} (op : UnOp) {ax : AV} {vx : Value} (hx : Rep S w β ax vx) : ResOk P S w β (Op.unary op vx) (unA op ax) := by
  unfold unA
  split
  · cases rep_v hx; exact ⟨_, rfl, .v _⟩
  · cases rep_v hx; exact ⟨_, rfl, .v _⟩
  · cases rep_v hx; exact ⟨_, rfl, .v _⟩
  · trivial

theorem conv_ok (hC : CtxOk C) (src dst : TypeId) {ax : AV} {vx : Value} (hx : Rep S w β ax vx) : ResOk C.P S w β (convert src dst vx) (convA C src dst ax) := by
  unfold convA
  split
  · rename_i h1 h2
    cases rep_v hx
    have e1 := (hC.ty _ _ h1).kd; have e2 := (hC.ty _ _ h2).kd
    exact ⟨_, by simp only [convert, Sem.run_bind, run_underlying e1, run_underlying e2, Result.andThen_ok]; rfl, .v _⟩
  · rename_i h1 h2
    cases rep_v hx
    have e1 := (hC.ty _ _ h1).kd; have e2 := (hC.ty _ _ h2).kd
    exact ⟨_, by simp only [convert, Sem.run_bind, run_underlying e1, run_underlying e2, Result.andThen_ok]; rfl, .v _⟩
  · trivial
theorem min_ok {P : Program} (ts : Array TypeId) (ty : TypeId) {x y : AV} {vx vy : Value} (hx : Rep S w β x vx) (hy : Rep S w β y vy) : ResOk P S w β (Builtin.min_ ts ty #[vx, vy]) (minA x y) := by
  unfold minA
  split
  · cases rep_v hx; cases rep_v hy
    split
    · exact ⟨_, rfl, .v _⟩
    · trivial
  · trivial
theorem max_ok {P : Program} (ts : Array TypeId) (ty : TypeId) {x y : AV} {vx vy : Value} (hx : Rep S w β x vx) (hy : Rep S w β y vy) : ResOk P S w β (Builtin.max_ ts ty #[vx, vy]) (maxA x y) := by
  unfold maxA
  split
  · cases rep_v hx; cases rep_v hy
    split
    · exact ⟨_, rfl, .v _⟩
    · trivial
  · trivial
/-- What names no memory of the call's own needs no names. -/
theorem closedL_get : ∀ (cs : List AV), closedL cs = true → ∀ (i : Nat) a, cs[i]? = some a → closedA a = true
  | [], _, i, a, h => by simp at h
  | x :: xs, hc, i, a, hi => by
    simp only [closedL] at hc
    split at hc
    · rename_i hx
      cases i with
      | zero => simp at hi; subst hi; exact hx
      | succ i => exact closedL_get xs hc i a (by simpa using hi)
    · cases hc
theorem closed_rep {a : AV} {v : Value} (hr : Rep S w β a v) : closedA a = true → ∀ β', Rep S w β' a v := by
  induction hr with
  | v x => intro _ β'; exact .v x
  | agg cs vs hl h1 h ih => intro hc β'; exact .agg cs vs hl h1 fun i a u p q => ih i a u p q (closedL_get cs (by simpa [closedA] using hc) i a p) β'
  | tup cs vs hl h ih => intro hc β'; exact .tup cs vs hl fun i a u p q => ih i a u p q (closedL_get cs (by simpa [closedA] using hc) i a p) β'
  | sl rs rows clip A c b o u hc hm hcl hrs hA hw h1 hr ih => intro _ β'; exact .sl rs rows clip A c b o u hc hm hcl hrs hA hw h1 hr
  | dp rs col row b o u hrs hb hw h1 hr ih => intro _ β'; exact .dp rs col row b o u hrs hb hw h1 hr
  | clo f first caps vs us hl h hl' h' ih ih' =>
    intro hc β'
    simp only [closedA] at hc
    split at hc
    · rename_i hf
      exact .clo f first caps vs us hl (fun i a u p q => ih i a u p q (closedL_get _ hf i a p) β') hl' fun i a u p q => ih' i a u p q (closedL_get _ hc i a p) β'
    · cases hc
  | ptr => intro hc; simp [closedA] at hc
  | ptr2 => intro hc; simp [closedA] at hc
  | osl => intro hc; simp [closedA] at hc
  | optT => intro hc; simp [closedA] at hc
  | optF => intro hc; simp [closedA] at hc
  | any => intro hc; simp [closedA] at hc

end
end Go.Proofs.Ytckjihpdjefpgaa
