/- Joined texts. -/
import Derived.Great.BuildSlice
import Derived.Test.YtpefnjbmbfdmmaaDoorS2
namespace Go.Proofs.YtpefnjbmbfdmmaaDoor
open Go.RowKit
theorem nthO_eq : ∀ (l : List AV) (n : Nat), nthO l n = l[n]?
  | [], n => by simp [nthO]
  | x :: l, 0 => by simp [nthO]
  | x :: l, n + 1 => by simp [nthO, nthO_eq l n]
theorem takeL_eq : ∀ (n : Nat) (l : List AV), takeL n l = l.take n
  | 0, l => by simp [takeL]
  | n + 1, [] => by simp [takeL]
  | n + 1, x :: l => by simp [takeL, takeL_eq n l]
theorem dropL_eq : ∀ (n : Nat) (l : List AV), dropL n l = l.drop n
  | 0, l => by simp [dropL]
  | n + 1, [] => by simp [dropL]
  | n + 1, x :: l => by simp [dropL, dropL_eq n l]
theorem nthF_eq : ∀ (l : List (Nat × TypeId)) (n : Nat), nthF l n = l[n]?
  | [], n => by simp [nthF]
  | x :: l, 0 => by simp [nthF]
  | x :: l, n + 1 => by simp [nthF, nthF_eq l n]
theorem putL_length : ∀ (n : Nat) (cs l : List AV), n + cs.length ≤ l.length → (putL n cs l).length = l.length
  | 0, [], l, _ => by simp [putL]
  | 0, c :: cs, x :: l, h => by simp [putL, putL_length 0 cs l (by simp at h; omega)]
  | 0, c :: cs, [], h => by simp at h
  | n + 1, cs, x :: l, h => by simp [putL, putL_length n cs l (by simp at h; omega)]
  | n + 1, cs, [], h => by simp at h
theorem putL_get : ∀ (n : Nat) (cs l : List AV) (j : Nat), n + cs.length ≤ l.length → (putL n cs l)[j]? = if n ≤ j ∧ j < n + cs.length then cs[j - n]? else l[j]?
  | 0, [], l, j, _ => by simp [putL]
  | 0, c :: cs, x :: l, 0, h => by simp [putL]
  | 0, c :: cs, x :: l, j + 1, h => by
    simp [putL, putL_get 0 cs l j (by simp at h; omega)]
  | 0, c :: cs, [], j, h => by simp at h
  | n + 1, cs, x :: l, 0, h => by simp [putL]
  | n + 1, cs, x :: l, j + 1, h => by
    simp only [putL, List.getElem?_cons_succ, putL_get n cs l j (by simp at h; omega)]
    have : j + 1 - (n + 1) = j - n := by omega
    rw [this]
    by_cases hc : n ≤ j ∧ j < n + cs.length
    · rw [if_pos hc, if_pos (by omega)]
    · rw [if_neg hc, if_neg (by omega)]
  | n + 1, cs, [], j, h => by simp at h
def eqV : CK → Value → Value → Option Bool
  | .i, .int k a, .int k' b => match sameKind k k' with | true => some (a == b) | false => none
  | .b, .bool a, .bool b => some (a == b)
  | .s, .string a, .string b => some (a == b)
  | _, _, _ => none
def eqVL : List CK → List Value → List Value → Option Bool
  | [], [], [] => some true
  | k :: ks, x :: xs, y :: ys => match eqV k x y, eqVL ks xs ys with | some a, some b => some (a && b) | _, _ => none
  | _, _, _ => none
def EqOk (P : Program) (t : TypeId) (ks : List CK) : Prop := ∀ (xs ys : Array Value) (b : Bool) (x y : Operand) (w : World), eqVL ks xs.toList ys.toList = some b →
  (do eqGuard .eql t x y (.agg xs) (.agg ys); binOp .eql t (.agg xs) (.agg ys) : Sem Value).run P w = .ok (.bool b) w ∧
  (do eqGuard .neq t x y (.agg xs) (.agg ys); binOp .neq t (.agg xs) (.agg ys) : Sem Value).run P w = .ok (.bool (!b)) w
structure TyOk (P : Program) (t : TypeId) (i : TI) : Prop where
  info : ∃ inf z, P.info? t = some inf ∧ inf.size = i.sz ∧ inf.bytes = i.bytes ∧ inf.zero = some z ∧ i.zero = absV z ∧ z.cells.size = i.sz ∧ 0 < i.sz ∧ i.bytes ≤ 1000
  one : ∀ inf z, P.info? t = some inf → inf.zero = some z → ∀ (k : Nat) u, z.cells[k]? = some u → u.oneCell' = true
  ag : ∃ d, P.underlying t = some d ∧ d.isRow = i.ag
  kd : match i.kd with
    | .bool => P.underlying t = some .bool
    | .int k => P.underlying t = some (.int k)
    | .string => P.underlying t = some .string
    | .slice e => P.underlying t = some (.slice e)
    | .array n e => P.underlying t = some (.array n e)
    | .struct fs => ∃ fields, P.underlying t = some (.struct fields) ∧ fields.toList.map (fun f => (f.offset, f.type)) = fs ∧ ∀ f ∈ fields.toList, ∃ inf, P.info? f.type = some inf ∧ inf.size ≠ 0
    | .pointer => ∃ e, P.underlying t = some (.pointer e)
    | _ => True
  eq : i.eq ≠ [] → EqOk P t i.eq
structure CtxOk (C : Ctx) : Prop where
  ty : ∀ t i, C.ty t = some i → TyOk C.P t i
  mixed : C.P.follows .mixedOrders = true
  hH : ∀ f args h s Post, C.H f args h s Post → HSem C.P C.G f args h s Post
def Yld (P : Program) (S : Nat → Prop) (w : World) (β : Bt) (x : AV) (r : Sem Value) : Prop := ∃ v, r.run P w = .ok v w ∧ Rep S w β x v
def ResOk (P : Program) (S : Nat → Prop) (w : World) (β : Bt) (r : Sem Value) : Res → Prop
  | .bad => True
  | .ok x => Yld P S w β x r
  | .need p x => p → Yld P S w β x r
  | .idx rows i f => ∀ row x, 0 ≤ i → rows[i.toNat]? = some row → f row = some x → Yld P S w β x r
  | .str p rows => ∀ l, p → bytesOfRows rows = some l → Yld P S w β (.v (.string ⟨l.toArray⟩)) r
  | _ => False
section
variable {C : Ctx} {S : Nat → Prop} {w : World} {β : Bt}
theorem nil_rep : Rep S w β (.sl 0 [] true) (.slice none 0 0) :=
  .sl 0 [] true none 0 0 0 (fun _ _ => .bool false) (Nat.le_refl _) (Nat.zero_le _) (fun _ => rfl) (by simp) (by simp) (by simp) (fun _ _ => rfl) (by simp)
theorem absC_rep (x : Value) : Rep S w β (absC x) x := by
  unfold absC
  split
  · exact nil_rep
  · exact .v _
theorem oneC_spec : ∀ (l : List Value), oneC l = true → ∀ (i : Nat) u, l[i]? = some u → u.oneCell' = true
  | [], _, i, u, h => by simp at h
  | v :: l, h, i, u, hi => by
    simp only [oneC] at h
    split at h
    · rename_i hv
      cases i with
      | zero => simp at hi; subst hi; exact hv
      | succ i => exact oneC_spec l h i u (by simpa using hi)
    · cases h
theorem absV_rep (x : Value) : Rep S w β (absV x) x := by
  unfold absV
  split
  · exact nil_rep
  · split
    · rename_i cs h
      refine .agg _ _ (by simp) (fun i u hu => oneC_spec _ h i u (by simpa using hu)) fun i a u h1 h2 => ?_
      simp only [List.getElem?_map, Array.getElem?_toList, h2, Option.map_some, Option.some.injEq] at h1
      subst h1
      exact absC_rep _
    · exact .any _
  · exact .v _
theorem cellsA_rep {a : AV} {v : Value} {cs : List AV} (h : Rep S w β a v) (hc : cellsA a = some cs) : CellL S w β cs v.cells.toList := by
  have one : ∀ (a : AV) (v : Value), Rep S w β a v → v.cells = #[v] → v.oneCell' = true → CellL S w β [a] v.cells.toList := fun a v h e h1 => by
    rw [e]; exact ⟨RepL.cons h (RepL.nil _ _ _), fun i u hu => by
      cases i with
      | zero => simp at hu; subst hu; exact h1
      | succ i => simp at hu⟩
  cases h with
  | v =>
    cases v <;> simp only [cellsA] at hc <;> first
      | (cases hc; done)
      | (injection hc with hc; subst hc; exact one _ _ (.v _) rfl rfl)
  | agg ds vs hl h1 h =>
    simp only [cellsA] at hc
    injection hc with hc; subst hc
    exact ⟨⟨by simpa [Value.cells] using hl, fun i a u h1 h2 => h i a u h1 (by simpa [Value.cells] using h2)⟩, fun i u hu => h1 i u (by simpa [Value.cells] using hu)⟩
  | tup ds vs hl h => simp [cellsA] at hc
  | sl rs rows clip A c b o u hc' hm hcl hrs hA hw h1 hr =>
    simp only [cellsA] at hc; injection hc with hc; subst hc
    exact one _ _ (.sl rs rows clip A c b o u hc' hm hcl hrs hA hw h1 hr) rfl rfl
  | dp rs col row b o u hrs hb hw h1 hr =>
    simp only [cellsA] at hc; injection hc with hc; subst hc
    exact one _ _ (.dp rs col row b o u hrs hb hw h1 hr) rfl rfl
  | ptr s col l hl => simp only [cellsA] at hc; injection hc with hc; subst hc; exact one _ _ (.ptr s col l hl) rfl rfl
  | ptr2 s row col l hl => simp only [cellsA] at hc; injection hc with hc; subst hc; exact one _ _ (.ptr2 s row col l hl) rfl rfl
  | osl s lo len clip l A c hl hc' hm hcl hA ds e fr hb room =>
    simp only [cellsA] at hc; injection hc with hc; subst hc
    exact one _ _ (.osl s lo len clip l A c hl hc' hm hcl hA ds e fr hb room) rfl rfl
  | clo f first caps vs us hl h hl' h' =>
    simp only [cellsA] at hc; injection hc with hc; subst hc
    exact one _ _ (.clo f first caps vs us hl h hl' h') rfl rfl
  | optT g a x hg h => simp [cellsA] at hc
  | optF g a hg => simp [cellsA] at hc
  | any x => simp [cellsA] at hc
theorem rep_bool {b : Bool} {v : Value} (h : Rep S w β (.v (.bool b)) v) : v = .bool b := by cases h; rfl
theorem rep_v {x v : Value} (h : Rep S w β (.v x) v) : v = x := by cases h; rfl
theorem rep_optT {g : Bool} {a : AV} {v : Value} (h : Rep S w β (.opt g a) v) (hg : g = true) : Rep S w β a v := by
  cases h with
  | optT _ _ _ _ h => exact h
  | optF _ _ h => rw [hg] at h; cases h
theorem pick_ok {P : Program} {ac aa ab : AV} {vc va vb : Value} (hc : Rep S w β ac vc) (ha : Rep S w β aa va) (hb : Rep S w β ab vb) :
    ResOk P S w β (do pure (if ← asBool vc then va else vb))
      (pickA ac aa ab) := by
  unfold pickA
  split
  · rename_i c x y
    cases rep_bool hc; cases rep_bool ha; cases rep_bool hb
    refine ⟨_, rfl, ?_⟩
    cases c <;> exact .v _
  · rename_i c g x y
    cases rep_bool hc; cases rep_bool hb
    intro hg
    cases c with
    | true => cases rep_bool (rep_optT ha (hg rfl)); exact ⟨_, rfl, .v _⟩
    | false => exact ⟨_, rfl, .v _⟩
  · rename_i c x g y
    cases rep_bool hc; cases rep_bool ha
    intro hg
    cases c with
    | false => cases rep_bool (rep_optT hb (hg rfl)); exact ⟨_, rfl, .v _⟩
    | true => exact ⟨_, rfl, .v _⟩
  · trivial
theorem intOp_ok {P : Program} (op : BinOp) (t : TypeId) (k : IntKind) (a b : Int) (h : isShift op = false) : ResOk P S w β (binOp op t (.int k a) (.int k b)) (intOp op k a b) := by
  cases op <;> simp only [isShift, Bool.true_eq_false] at h <;> simp only [intOp, ResOk, binOp, ne_eq, not_true_eq_false, if_false, Op.intArith, Op.intBits, Op.intCmp] <;> first
    | exact ⟨_, rfl, .v _⟩
    | (intro hb; simp only [Op.intDiv, hb, if_false]; exact ⟨_, rfl, .v _⟩)
    | trivial
theorem shOp_ok {P : Program} (op : BinOp) (t : TypeId) (k k' : IntKind) (a b : Int) (h : isShift op = true) : ResOk P S w β (binOp op t (.int k a) (.int k' b)) (shOp op k a b) := by
  cases op <;> simp only [isShift, Bool.false_eq_true] at h <;> simp only [shOp, ResOk, binOp] <;> (intro hb; simp only [Op.shift, if_neg (Int.not_lt.2 hb)]; exact ⟨_, rfl, .v _⟩)
theorem sameKind_eq {a b : IntKind} (h : sameKind a b = true) : a = b := by cases a <;> cases b <;> first | rfl | (simp [sameKind] at h)
theorem boolOp_ok {P : Program} (op : BinOp) (t : TypeId) (a b : Bool) (ht : P.underlying t = some .bool) : ResOk P S w β (binOp op t (.bool a) (.bool b)) (boolOp op a b) := by
  have he : (Op.equal t (.bool a) (.bool b)).run P w = .ok (a == b) w := by
    unfold Op.equal
    rw [show Op.maxDepth = 9999 + 1 from rfl, Op.equalIn]
    simp only [Sem.run_bind, run_underlying ht, Result.andThen_ok, Sem.run_pure]
  cases op <;> simp only [boolOp, ResOk, binOp] <;> exact ⟨_, by simp only [Sem.run_bind, he, Result.andThen_ok, Sem.run_pure], .v _⟩
theorem strOp_ok {P : Program} (op : BinOp) (t : TypeId) (a b : ByteArray) : ResOk P S w β (binOp op t (.string a) (.string b)) (strOp op a b) := by
  cases op <;> simp only [strOp, ResOk, binOp, Op.stringOp] <;> first
    | exact ⟨_, rfl, .v _⟩
    | (intro hb; rw [if_neg (Int.not_lt.2 hb)]; exact ⟨_, rfl, .v _⟩)
theorem eqS_eqV {k : CK} {a b : AV} {u v : Value} {r : Bool} (ha : Rep S w β a u) (hb : Rep S w β b v) (h : eqS k a b = some r) : eqV k u v = some r := by
  unfold eqS at h
  split at h
  · cases rep_v ha; cases rep_v hb; exact h
  · cases rep_v ha; cases rep_v hb; exact h
  · cases rep_v ha; cases rep_v hb; exact h
  · cases h
theorem eqL_eqVL : ∀ (ks : List CK) (xs ys : List AV) (us vs : List Value) (r : Bool), RepL S w β xs us → RepL S w β ys vs → eqL ks xs ys = some r → eqVL ks us vs = some r
  | [], [], [], us, vs, r, hx, hy, h => by
    have h1 : us = [] := List.eq_nil_of_length_eq_zero (by simpa using hx.1.symm)
    have h2 : vs = [] := List.eq_nil_of_length_eq_zero (by simpa using hy.1.symm)
    subst h1; subst h2
    exact h
  | k :: ks, x :: xs, y :: ys, us, vs, r, hx, hy, h => by
    match us, vs, hx, hy with
    | [], _, hx, _ => simp [RepL] at hx
    | _ :: _, [], _, hy => simp [RepL] at hy
    | u :: us, v :: vs, hx, hy =>
      simp only [eqL] at h
      split at h
      · rename_i a b h1 h2
        have e1 := eqS_eqV (hx.2 0 x u rfl rfl) (hy.2 0 y v rfl rfl) h1
        have e2 := eqL_eqVL ks xs ys us vs b ⟨by simpa using hx.1, fun i a' u' p q => hx.2 (i + 1) a' u' (by simpa using p) (by simpa using q)⟩ ⟨by simpa using hy.1, fun i a' u' p q => hy.2 (i + 1) a' u' (by simpa using p) (by simpa using q)⟩ h2
        simp only [eqVL, e1, e2]; exact h
      · cases h
  | [], _ :: _, _, _, _, _, _, _, h => by simp [eqL] at h
  | [], [], _ :: _, _, _, _, _, _, h => by simp [eqL] at h
  | _ :: _, [], _, _, _, _, _, _, h => by simp [eqL] at h
  | _ :: _, _ :: _, [], _, _, _, _, _, h => by simp [eqL] at h
theorem bin_ok (hC : CtxOk C) (op : BinOp) (t : TypeId) (x y : Operand) {ax ay : AV} {vx vy : Value} (hx : Rep S w β ax vx) (hy : Rep S w β ay vy) :
    ResOk C.P S w β (do eqGuard op t x y vx vy; binOp op t vx vy) (binA C op t ax ay) := by
  have plain : ∀ (r : Res) (vx vy : Value), (eqGuard op t x y vx vy).run C.P w = .ok () w → ResOk C.P S w β (binOp op t vx vy) r → ResOk C.P S w β (do eqGuard op t x y vx vy; binOp op t vx vy) r := by
    intro r vx vy hg hr
    have key : ∀ z, Yld C.P S w β z (binOp op t vx vy) → Yld C.P S w β z (do eqGuard op t x y vx vy; binOp op t vx vy) := by
      rintro z ⟨v, h1, h2⟩
      exact ⟨v, by simp only [Sem.run_bind, hg, Result.andThen_ok, h1], h2⟩
    cases r <;> simp only [ResOk] at hr ⊢
    · exact key _ hr
    · exact fun hp => key _ (hr hp)
    · exact fun row z h0 h1 h2 => key _ (hr row z h0 h1 h2)
    · exact fun l hp h0 => key _ (hr l hp h0)
  unfold binA
  split
  · rename_i k a k' b
    cases rep_v hx; cases rep_v hy
    have hg : (eqGuard op t x y (.int k a) (.int k' b)).run C.P w = .ok () w := by unfold eqGuard; cases op <;> rfl
    split
    · rename_i hs
      exact plain _ _ _ hg (shOp_ok op t k k' a b hs)
    · rename_i hs
      split
      · rename_i hk
        obtain rfl := sameKind_eq hk
        exact plain _ _ _ hg (intOp_ok op t k a b hs)
      · trivial
  · rename_i a b
    cases rep_v hx; cases rep_v hy
    split
    · rename_i hty
      have hT := (hC.ty t _ hty).kd
      exact plain _ _ _ (by unfold eqGuard; cases op <;> rfl) (boolOp_ok op t a b hT)
    · trivial
  · rename_i a b
    cases rep_v hx; cases rep_v hy
    exact plain _ _ _ (by unfold eqGuard; cases op <;> rfl) (strOp_ok op t a b)
  · rename_i xs ys
    split
    · rename_i hty
      have hT := (hC.ty t _ hty).eq (by simp)
      cases hx with
      | agg _ us hl h1 h =>
      cases hy with
      | agg _ vs hl' h1' h' =>
      have rx : RepL S w β xs us.toList := ⟨by simpa using hl, fun i a u p q => h i a u p (by simpa using q)⟩
      have ry : RepL S w β ys vs.toList := ⟨by simpa using hl', fun i a u p q => h' i a u p (by simpa using q)⟩
      split
      · rename_i b hb
        exact ⟨_, (hT us vs b x y w (eqL_eqVL _ _ _ _ _ _ rx ry hb)).1, .v _⟩
      · rename_i b hb
        exact ⟨_, (hT us vs b x y w (eqL_eqVL _ _ _ _ _ _ rx ry hb)).2, .v _⟩
      · trivial
    · trivial
  · trivial
theorem equalIn_nil (P : Program) (w : World) (n : Nat) (t : TypeId) (e : TypeId) (ht : P.underlying t = some (.slice e)) (a : Option Addr) (l c : Nat) : (Op.equalIn (n + 1) t (.slice a l c) (.slice none 0 0)).run P w = .ok (a.isNone) w := by
  have hu : (underlying t).run P w = .ok (.slice e) w := by
    unfold underlying
    rw [Sem.run_bind]
    show (match P.underlying t with | some d => (pure d : Sem TypeDesc) | none => stuck "no such type").run P w = _
    rw [ht]; rfl
  cases a <;> simp only [Op.equalIn, Sem.run_bind, hu, Result.andThen_ok] <;> rfl
theorem equalIn_nilP (P : Program) (w : World) (n : Nat) (t : TypeId) (e : TypeId) (ht : P.underlying t = some (.pointer e)) (a : Option Addr) : (Op.equalIn (n + 1) t (.pointer a) (.pointer none)).run P w = .ok (a.isNone) w := by
  have hu : (underlying t).run P w = .ok (.pointer e) w := by
    unfold underlying
    rw [Sem.run_bind]
    show (match P.underlying t with | some d => (pure d : Sem TypeDesc) | none => stuck "no such type").run P w = _
    rw [ht]; rfl
  cases a <;> simp only [Op.equalIn, Sem.run_bind, hu, Result.andThen_ok] <;> rfl
theorem nil_ok (hC : CtxOk C) (op : BinOp) (t : TypeId) (x y : Operand) {neq : Bool} {ax : AV} {vx vy : Value} (hn : nilOp op y = some neq) (hvy : ∀ v, y = .const v → vy = v) (hx : Rep S w β ax vx) :
    ResOk C.P S w β (do eqGuard op t x y vx vy; binOp op t vx vy) (nilEqA C neq t (nilPtr y) ax) := by
  have key : nilPtr y = false → ∀ (e : TypeId) (A : Option Addr) (l c : Nat), C.P.underlying t = some (.slice e) → vx = .slice A l c → (do eqGuard op t x y vx vy; binOp op t vx vy : Sem Value).run C.P w = .ok (.bool (A.isNone != neq)) w := by
    intro hp e A l c hT hv
    subst hv
    have e1 : (Op.equal t (.slice A l c) (.slice none 0 0)).run C.P w = .ok A.isNone w := equalIn_nil C.P w 9999 t e hT A l c
    unfold nilOp at hn
    split at hn
    · injection hn with hn; subst hn
      obtain rfl := hvy _ rfl
      have hg : (eqGuard .eql t x (.const (.slice none 0 0)) (.slice A l c) (.slice none 0 0)).run C.P w = .ok () w := by unfold eqGuard; rfl
      simp only [Sem.run_bind, hg, Result.andThen_ok, binOp, e1, Sem.run_pure]; cases A <;> rfl
    · injection hn with hn; subst hn
      obtain rfl := hvy _ rfl
      have hg : (eqGuard .neq t x (.const (.slice none 0 0)) (.slice A l c) (.slice none 0 0)).run C.P w = .ok () w := by unfold eqGuard; rfl
      simp only [Sem.run_bind, hg, Result.andThen_ok, binOp, e1, Sem.run_pure]; cases A <;> rfl
    · cases hp
    · cases hp
    · cases hn
  have keyP : nilPtr y = true → ∀ (e : TypeId) (A : Option Addr), C.P.underlying t = some (.pointer e) → vx = .pointer A → (do eqGuard op t x y vx vy; binOp op t vx vy : Sem Value).run C.P w = .ok (.bool (A.isNone != neq)) w := by
    intro hp e A hT hv
    subst hv
    have e1 : (Op.equal t (.pointer A) (.pointer none)).run C.P w = .ok A.isNone w := equalIn_nilP C.P w 9999 t e hT A
    unfold nilOp at hn
    split at hn
    · cases hp
    · cases hp
    · injection hn with hn; subst hn
      obtain rfl := hvy _ rfl
      have hg : (eqGuard .eql t x (.const (.pointer none)) (.pointer A) (.pointer none)).run C.P w = .ok () w := by unfold eqGuard; rfl
      simp only [Sem.run_bind, hg, Result.andThen_ok, binOp, e1, Sem.run_pure]; cases A <;> rfl
    · injection hn with hn; subst hn
      obtain rfl := hvy _ rfl
      have hg : (eqGuard .neq t x (.const (.pointer none)) (.pointer A) (.pointer none)).run C.P w = .ok () w := by unfold eqGuard; rfl
      simp only [Sem.run_bind, hg, Result.andThen_ok, binOp, e1, Sem.run_pure]; cases A <;> rfl
    · cases hn
  unfold nilEqA
  split
  · rename_i hty hpn
    have hT := (hC.ty t _ hty).kd
    split
    · cases rep_v hx; exact ⟨_, key hpn _ _ _ _ hT rfl, by cases neq <;> exact .v _⟩
    · cases rep_v hx; exact ⟨_, key hpn _ _ _ _ hT rfl, by cases neq <;> exact .v _⟩
    · cases hx with
      | sl rs rows clip A c b o u hc hm hcl hrs hA hw h1 hr =>
        obtain ⟨rfl, -⟩ := hA (by simp)
        exact ⟨_, key hpn _ _ _ _ hT rfl, by cases neq <;> exact .v _⟩
    · trivial
  · rename_i hty hpn
    obtain ⟨e, hT⟩ := (hC.ty t _ hty).kd
    split
    · cases rep_v hx; exact ⟨_, keyP hpn _ _ hT rfl, by cases neq <;> exact .v _⟩
    · cases hx with
      | ptr s col l hl => exact ⟨_, keyP hpn _ _ hT rfl, by cases neq <;> exact .v _⟩
    · trivial
  · trivial
theorem un_ok {P : Program} (op : UnOp) {ax : AV} {vx : Value} (hx : Rep S w β ax vx) : ResOk P S w β (Op.unary op vx) (unA op ax) := by
  unfold unA
  split
  · cases rep_v hx; exact ⟨_, rfl, .v _⟩
  · cases rep_v hx; exact ⟨_, rfl, .v _⟩
  · cases rep_v hx; exact ⟨_, rfl, .v _⟩
  · trivial
theorem conv_ok (hC : CtxOk C) (src dst : TypeId) {ax : AV} {vx : Value} (hx : Rep S w β ax vx) : ResOk C.P S w β (convert src dst vx) (convA C src dst ax) := by
  unfold convA
  split
  · rename_i h1 h2
    cases rep_v hx
    have e1 := (hC.ty _ _ h1).kd; have e2 := (hC.ty _ _ h2).kd
    exact ⟨_, by simp only [convert, Sem.run_bind, run_underlying e1, run_underlying e2, Result.andThen_ok]; rfl, .v _⟩
  · rename_i h1 h2
    cases rep_v hx
    have e1 := (hC.ty _ _ h1).kd; have e2 := (hC.ty _ _ h2).kd
    exact ⟨_, by simp only [convert, Sem.run_bind, run_underlying e1, run_underlying e2, Result.andThen_ok]; rfl, .v _⟩
  · trivial
theorem min_ok {P : Program} (ts : Array TypeId) (ty : TypeId) {x y : AV} {vx vy : Value} (hx : Rep S w β x vx) (hy : Rep S w β y vy) : ResOk P S w β (Builtin.min_ ts ty #[vx, vy]) (minA x y) := by
  unfold minA
  split
  · cases rep_v hx; cases rep_v hy
    split
    · exact ⟨_, rfl, .v _⟩
    · trivial
  · trivial
theorem max_ok {P : Program} (ts : Array TypeId) (ty : TypeId) {x y : AV} {vx vy : Value} (hx : Rep S w β x vx) (hy : Rep S w β y vy) : ResOk P S w β (Builtin.max_ ts ty #[vx, vy]) (maxA x y) := by
  unfold maxA
  split
  · cases rep_v hx; cases rep_v hy
    split
    · exact ⟨_, rfl, .v _⟩
    · trivial
  · trivial
theorem closedL_get : ∀ (cs : List AV), closedL cs = true → ∀ (i : Nat) a, cs[i]? = some a → closedA a = true
  | [], _, i, a, h => by simp at h
  | x :: xs, hc, i, a, hi => by
    simp only [closedL] at hc
    split at hc
    · rename_i hx
      cases i with
      | zero => simp at hi; subst hi; exact hx
      | succ i => exact closedL_get xs hc i a (by simpa using hi)
    · cases hc
theorem closed_rep {a : AV} {v : Value} (hr : Rep S w β a v) : closedA a = true → ∀ β', Rep S w β' a v := by
  induction hr with
  | v x => intro _ β'; exact .v x
  | agg cs vs hl h1 h ih => intro hc β'; exact .agg cs vs hl h1 fun i a u p q => ih i a u p q (closedL_get cs (by simpa [closedA] using hc) i a p) β'
  | tup cs vs hl h ih => intro hc β'; exact .tup cs vs hl fun i a u p q => ih i a u p q (closedL_get cs (by simpa [closedA] using hc) i a p) β'
  | sl rs rows clip A c b o u hc hm hcl hrs hA hw h1 hr ih => intro _ β'; exact .sl rs rows clip A c b o u hc hm hcl hrs hA hw h1 hr
  | dp rs col row b o u hrs hb hw h1 hr ih => intro _ β'; exact .dp rs col row b o u hrs hb hw h1 hr
  | clo f first caps vs us hl h hl' h' ih ih' =>
    intro hc β'
    simp only [closedA] at hc
    split at hc
    · rename_i hf
      exact .clo f first caps vs us hl (fun i a u p q => ih i a u p q (closedL_get _ hf i a p) β') hl' fun i a u p q => ih' i a u p q (closedL_get _ hc i a p) β'
    · cases hc
  | ptr => intro hc; simp [closedA] at hc
  | ptr2 => intro hc; simp [closedA] at hc
  | osl => intro hc; simp [closedA] at hc
  | optT => intro hc; simp [closedA] at hc
  | optF => intro hc; simp [closedA] at hc
  | any => intro hc; simp [closedA] at hc
end
end Go.Proofs.YtpefnjbmbfdmmaaDoor
namespace Go.Proofs.YtpefnjbmbfdmmaaDoor
open Go.RowKit
section
variable {C : Ctx} {S : Nat → Prop} {w : World} {β : Bt} {B : Nat} {h : AH}
theorem choose_cells {b : Nat} : ∀ (seg : List AV) (o : Nat), (∀ (j : Nat) a, seg[j]? = some a → ∃ u, w.cell? ⟨b, o + j, none⟩ = some u ∧ u.oneCell' = true ∧ Rep S w β a u) →
    ∃ vs : List Value, vs.length = seg.length ∧ w.rangeAt b o vs ∧ CellL S w β seg vs
  | [], o, _ => ⟨[], rfl, fun j v hv => by simp at hv, ⟨RepL.nil _ _ _, fun i u hu => by simp at hu⟩⟩
  | a :: seg, o, H => by
    obtain ⟨u, h1, h2, h3⟩ := H 0 a rfl
    obtain ⟨vs, e1, e2, e3⟩ := choose_cells seg (o + 1) fun j a' hj => by
      obtain ⟨u', k1, k2⟩ := H (j + 1) a' (by simpa using hj)
      exact ⟨u', by rw [← k1]; congr 2; omega, k2⟩
    refine ⟨u :: vs, by simp [e1], fun j v hv => ?_, ⟨RepL.cons h3 e3.rep, fun i u' hu => ?_⟩⟩
    · cases j with
      | zero => simp at hv; subst hv; exact h1
      | succ j => rw [show o + (j + 1) = (o + 1) + j by omega]; exact e2 j v (by simpa using hv)
    · cases i with
      | zero => simp at hu; subst hu; exact h2
      | succ i => exact e3.one i u' (by simpa using hu)
theorem CellL.agg {cs : List AV} {vs : List Value} (h : CellL S w β cs vs) : Rep S w β (.agg cs) (.agg vs.toArray) :=
  .agg cs _ (by simpa using h.rep.1) (fun i u hu => h.one i u (by simpa using hu)) fun i a u h1 h2 => h.rep.2 i a u h1 (by simpa using h2)
def RowAt (S : Nat → Prop) (w : World) (β : Bt) (b o : Nat) (row : List AV) : Prop := ∀ (j : Nat) a, row[j]? = some a → ∃ u, w.cell? ⟨b, o + j, none⟩ = some u ∧ u.oneCell' = true ∧ Rep S w β a u
theorem load_row (hC : CtxOk C) {t : TypeId} {rs c b o : Nat} {row : List AV} {x : AV} (hrow : RowAt S w β b o row) (hrs : row.length = rs) (hx : loadA C t rs c row = some x) :
    Yld C.P S w β x (loadVar t ⟨b, o + c, none⟩) := by
  have agg : ∀ (sz : Nat) (seg : List AV) (kd : Kd) (z : AV) (by_ : Nat) (eq : List CK), C.ty t = some ⟨kd, sz, true, z, by_, eq⟩ → seg.length = sz → (∀ (j : Nat) a, seg[j]? = some a → ∃ u, w.cell? ⟨b, o + c + j, none⟩ = some u ∧ u.oneCell' = true ∧ Rep S w β a u) →
      Yld C.P S w β (.agg seg) (loadVar t ⟨b, o + c, none⟩) := by
    intro sz seg kd z by_ eq ht hl H
    have T := hC.ty t _ ht
    obtain ⟨vs, e1, e2, e3⟩ := choose_cells seg (o + c) H
    obtain ⟨d, hd, hr⟩ := T.ag
    obtain ⟨inf, z, hi, hsz, _⟩ := T.info
    exact ⟨_, run_loadVar_mid w b (o + c) t vs d e2 hd hr (by rw [hi, e1, hl]; simpa using hsz), e3.agg⟩
  unfold loadA at hx
  split at hx
  · rename_i kd sz z by_ eq ht
    split at hx
    · rename_i hs
      have hs' := Nat.eq_of_beq_eq_true hs
      injection hx with hx; subst hx
      exact agg sz row _ _ _ _ ht (by rw [hrs, hs']) (fun j a hj => by have := hrow j a hj; simpa using this)
    · split at hx
      · rename_i hl
        injection hx with hx; subst hx
        refine agg sz _ _ _ _ _ ht (Nat.eq_of_beq_eq_true hl) fun j a hj => ?_
        rw [takeL_eq, dropL_eq, List.getElem?_take] at hj
        split at hj
        · rw [List.getElem?_drop] at hj
          obtain ⟨u, k1, k2⟩ := hrow _ _ hj
          exact ⟨u, by rw [← k1]; congr 2; omega, k2⟩
        · cases hj
      · cases hx
  · rename_i kd sz z by_ eq ht
    have T := hC.ty t _ ht
    rw [nthO_eq] at hx
    obtain ⟨u, k1, k2, k3⟩ := hrow _ _ hx
    obtain ⟨d, hd, hr⟩ := T.ag
    have hagg : (isAgg t).run C.P w = .ok false w := by
      unfold isAgg
      rw [Sem.run_bind, run_underlying hd w]
      cases d <;> first | rfl | (simp [TypeDesc.isRow] at hr)
    refine ⟨u, ?_, k3⟩
    simp only [loadVar, Sem.run_bind, hagg, Result.andThen_ok, Bool.false_eq_true, if_false, run_load, k1]
  · cases hx
theorem own_box (H : SimH B S w β h) {s : Nat} {cells : List AV} (hs : h s = some (.box cells)) : ∃ l cs e fr, β s = some l ∧ w.heap[l.blk]? = some (.cells cs e fr) ∧ RowAt S w β l.blk l.base cells := by
  obtain ⟨l, cs, e, fr, h1, h2, _, _, _, h3⟩ := H.own s _ hs
  exact ⟨l, cs, e, fr, h1, h2, fun j a hj => let ⟨u, k1, k2⟩ := h3 j a hj; ⟨u, by rw [cell_of_cells h2]; exact k1, k2⟩⟩
theorem own_row (H : SimH B S w β h) {s : Nat} {cells : List AV} (hs : h s = some (.row cells)) : ∃ l cs e fr, β s = some l ∧ w.heap[l.blk]? = some (.cells cs e fr) ∧ l.rs = 1 ∧ RowAt S w β l.blk l.base cells := by
  obtain ⟨l, cs, e, fr, h1, h2, _, _, _, h3⟩ := H.own s _ hs
  exact ⟨l, cs, e, fr, h1, h2, h3.1, fun j a hj => let ⟨u, k1, k2⟩ := h3.2 j a hj; ⟨u, by rw [cell_of_cells h2]; exact k1, k2⟩⟩
theorem own_arr (H : SimH B S w β h) {s : Nat} {rows : List (List AV)} {rs : Nat} (hs : h s = some (.arr rows rs)) : ∃ l cs e fr, β s = some l ∧ w.heap[l.blk]? = some (.cells cs e fr) ∧ l.rs = rs ∧ (∀ row ∈ rows, row.length = rs) ∧ ∀ (i : Nat) row, rows[i]? = some row → RowAt S w noB l.blk (l.base + i * rs) row := by
  obtain ⟨l, cs, e, fr, h1, h2, _, _, _, h3⟩ := H.own s _ hs
  exact ⟨l, cs, e, fr, h1, h2, h3.1, h3.2.1, fun i row hi j a hj => let ⟨u, k1, k2⟩ := h3.2.2 i row j a hi hj; ⟨u, by rw [cell_of_cells h2]; exact k1, k2⟩⟩
theorem okO_ok {P : Program} {x : Option AV} {r : Sem Value} (h : ∀ y, x = some y → Yld P S w β y r) : ResOk P S w β r (okO x) := by
  cases x with
  | none => trivial
  | some y => exact h y rfl
theorem loadAt_yld {P : Program} {t : TypeId} {a : Addr} {x : AV} (h : Yld P S w β x (loadVar t a)) : Yld P S w β x (Instr.loadAt t (.pointer (some a))) := h
theorem load_ok (hC : CtxOk C) (H : SimH B S w β h) (t : TypeId) {a : AV} {v : Value} (ha : Rep S w β a v) :
    ResOk C.P S w β (Instr.loadAt t v)
      (loadAtA C h t a) := by
  unfold loadAtA
  split
  · rename_i b c
    split
    · rename_i cells hb
      obtain ⟨l, cs, e, fr, h1, h2, h3⟩ := own_box H hb
      cases ha with
      | ptr _ _ l' hl =>
      obtain rfl : l' = l := by rw [hl] at h1; exact Option.some.inj h1
      exact okO_ok fun y hy => loadAt_yld (load_row hC h3 rfl hy)
    · trivial
  · rename_i b r c
    split
    · rename_i rows rs hb
      obtain ⟨l, cs, e, fr, h1, h2, h3, h4, h5⟩ := own_arr H hb
      cases ha with
      | ptr2 _ _ _ l' hl =>
      obtain rfl : l' = l := by rw [hl] at h1; exact Option.some.inj h1
      subst h3
      intro row x h0 hrow hx
      exact loadAt_yld (load_row hC (fun j a hj => let ⟨u, q1, q2, q3⟩ := h5 r row (by simpa using hrow) j a hj; ⟨u, q1, q2, q3.mono (fun _ h => h) (Evo.refl _ _) (fun s l x => by cases x)⟩) (h4 row (List.mem_of_getElem? hrow)) hx)
    · rename_i cells hb
      obtain ⟨l, cs, e, fr, h1, h2, h3, h4⟩ := own_row H hb
      cases ha with
      | ptr2 _ _ _ l' hl =>
      obtain rfl : l' = l := by rw [hl] at h1; exact Option.some.inj h1
      intro row x h0 hrow hx
      have hrow : (cells.map fun x => [x])[r]? = some row := by simpa using hrow
      rw [List.getElem?_map] at hrow
      obtain ⟨y, hy, rfl⟩ := Option.map_eq_some_iff.1 hrow
      refine loadAt_yld (load_row hC (b := l'.blk) (o := l'.base + r * l'.rs) (row := [y]) (fun j a hj => ?_) rfl hx)
      cases j with
      | zero =>
        simp only [List.getElem?_cons_zero, Option.some.injEq] at hj
        subst hj
        rw [h3, Nat.mul_one]
        exact h4 r y hy
      | succ j => simp at hj
    · trivial
  · rename_i rs c row
    cases ha with
    | dp _ _ _ b o u hrs hb hw h1 hr =>
    refine okO_ok fun y hy => loadAt_yld (load_row hC (fun j a hj => ⟨u j, hw j a hj, h1 j, (hr j a hj).mono (fun _ x => x) (Evo.refl _ _) (fun s l x => by cases x)⟩) hrs hy)
  · trivial
theorem part_ok (hC : CtxOk C) {t : TypeId} {cs : List AV} {vs : Array Value} {off : Nat} {x : AV} (hl : cs.length = vs.size) (h1 : ∀ (i : Nat) u, vs[i]? = some u → u.oneCell' = true) (hr : ∀ (i : Nat) a u, cs[i]? = some a → vs[i]? = some u → Rep S w β a u)
    (hx : partA C t cs off = some x) : Yld C.P S w β x (part t vs off) := by
  unfold partA at hx
  split at hx
  · rename_i kd sz z by_ eq ht
    have T := hC.ty t _ ht
    obtain ⟨d, hd, hrow⟩ := T.ag
    obtain ⟨inf, z, hi, hsz, _⟩ := T.info
    have hagg : (isAgg t).run C.P w = .ok true w := by
      unfold isAgg
      rw [Sem.run_bind, run_underlying hd w]
      cases d <;> first | rfl | (simp [TypeDesc.isRow] at hrow)
    injection hx with hx; subst hx
    refine ⟨.agg (vs.extract off (off + sz)), by simp only [part, Sem.run_bind, hagg, Result.andThen_ok, if_true, sizeOf, typeInfo, program, Sem.run, hi, Sem.run_pure, hsz], ?_⟩
    rw [takeL_eq, dropL_eq]
    refine .agg _ _ (by simp [hl]; omega) (fun i u hu => ?_) fun i a u p q => ?_
    · rw [Array.getElem?_extract] at hu
      split at hu
      · exact h1 _ _ hu
      · cases hu
    · rw [Array.getElem?_extract] at q
      rw [List.getElem?_take] at p
      split at p
      · rw [List.getElem?_drop] at p
        split at q
        · exact hr _ _ _ p q
        · cases q
      · cases p
  · rename_i kd sz z by_ eq ht
    have T := hC.ty t _ ht
    obtain ⟨d, hd, hrow⟩ := T.ag
    have hagg : (isAgg t).run C.P w = .ok false w := by
      unfold isAgg
      rw [Sem.run_bind, run_underlying hd w]
      cases d <;> first | rfl | (simp [TypeDesc.isRow] at hrow)
    rw [nthO_eq] at hx
    have hlt : off < vs.size := by rw [← hl]; exact (List.getElem?_eq_some_iff.1 hx).1
    refine ⟨vs[off], by simp only [part, Sem.run_bind, hagg, Result.andThen_ok, Bool.false_eq_true, if_false, Array.getElem?_eq_getElem hlt, Sem.run_pure], hr off x _ hx (Array.getElem?_eq_getElem hlt)⟩
  · cases hx
theorem field_ok (hC : CtxOk C) (t : TypeId) (f : Nat) {a : AV} {v : Value} (ha : Rep S w β a v) :
    ResOk C.P S w β (Instr.field t v f)
      (fieldA C t f a) := by
  unfold fieldA
  split
  · rename_i fs sz ag z by_ eq ht
    obtain ⟨fields, hu, hfs, _⟩ := (hC.ty t _ ht).kd
    split
    · rename_i off ft cs hf
      cases ha with
      | agg _ vs hl h1 hr =>
      rw [nthF_eq, ← hfs, List.getElem?_map] at hf
      obtain ⟨fd, hfd, hfe⟩ := Option.map_eq_some_iff.1 hf
      injection hfe with e1 e2
      subst e1; subst e2
      refine okO_ok fun y hy => ?_
      obtain ⟨v, p1, p2⟩ := part_ok hC hl h1 hr hy
      refine ⟨v, ?_, p2⟩
      simp only [Instr.field, Sem.run_bind, run_underlying hu, Result.andThen_ok]
      rw [show fields[f]? = some fd by simpa using hfd]
      simpa [asAgg] using p1
    · trivial
  · trivial
theorem run_fieldPlace {P : Program} {f : Field} {inf : TypeInfo} (hi : P.info? f.type = some inf) (hs : inf.size ≠ 0) (a : Addr) : (fieldPlace a f).run P w = .ok (a.add f.offset) w := by
  simp only [fieldPlace, Sem.run_bind, sizeOf, typeInfo, program, Sem.run, hi, Sem.run_pure, Result.andThen_ok, if_neg hs]
theorem fieldAddr_ok (hC : CtxOk C) (t : TypeId) (f : Nat) {a : AV} {v : Value} (ha : Rep S w β a v) :
    ResOk C.P S w β (Instr.fieldAt t v f)
      (fieldAddrA C t f a) := by
  unfold fieldAddrA
  split
  · rename_i fs sz ag z by_ eq ht
    obtain ⟨fields, hu, hfs, hnz⟩ := (hC.ty t _ ht).kd
    have key : ∀ (off : Nat) (ft : TypeId) (a : Addr), nthF fs f = some (off, ft) → (Instr.fieldAt t (.pointer (some a)) f).run C.P w = .ok (.pointer (some (a.add off))) w := by
      intro off ft a hf
      rw [nthF_eq, ← hfs, List.getElem?_map] at hf
      obtain ⟨fd, hfd, hfe⟩ := Option.map_eq_some_iff.1 hf
      injection hfe with e1 e2
      subst e1; subst e2
      obtain ⟨inf, hi, hs⟩ := hnz fd (List.mem_of_getElem? hfd)
      simp only [Instr.fieldAt, Sem.run_bind, run_underlying hu, Result.andThen_ok]
      rw [show fields[f]? = some fd by simpa using hfd]
      simp only [Instr.sureAddr, Sem.run_pure, Sem.run_bind, Result.andThen_ok, run_fieldPlace hi hs]
    split
    · rename_i off ft b c hf
      cases ha with
      | ptr _ _ l hl => exact ⟨_, key off ft _ hf, by rw [Addr.add_mid, Nat.add_assoc]; exact .ptr b (c + off) l hl⟩
    · rename_i off ft b r c hf
      cases ha with
      | ptr2 _ _ _ l hl => exact ⟨_, key off ft _ hf, by rw [Addr.add_mid, Nat.add_assoc]; exact .ptr2 b r (c + off) l hl⟩
    · rename_i off ft rs c row hf
      cases ha with
      | dp _ _ _ b o u hrs hb hw h1 hr => exact ⟨_, key off ft _ hf, by rw [Addr.add_mid, Nat.add_assoc]; exact .dp rs (c + off) row b o u hrs hb hw h1 hr⟩
    · trivial
  · trivial
end
end Go.Proofs.YtpefnjbmbfdmmaaDoor
namespace Go.Proofs.YtpefnjbmbfdmmaaDoor
open Go.RowKit
section
variable {C : Ctx} {S : Nat → Prop} {w : World} {β : Bt} {B : Nat} {h : AH}
theorem len_ok (hC : CtxOk C) (t ty : TypeId) {a : AV} {v : Value} (ha : Rep S w β a v) : ResOk C.P S w β (Builtin.len_ #[t] ty #[v]) (lenB C t a) := by
  unfold lenB
  split
  · rename_i ht
    cases rep_v ha
    have hu := (hC.ty t _ ht).kd
    exact ⟨_, by simp [Builtin.len_, run_underlying hu, goInt], .v _⟩
  · rename_i ht
    have hu := (hC.ty t _ ht).kd
    cases ha with
    | sl => exact ⟨_, by simp [Builtin.len_, run_underlying hu, goInt], .v _⟩
  · rename_i ht
    have hu := (hC.ty t _ ht).kd
    cases ha with
    | osl => exact ⟨_, by simp [Builtin.len_, run_underlying hu, goInt], .v _⟩
  · rename_i ht
    have hu := (hC.ty t _ ht).kd
    exact ⟨_, by simp [Builtin.len_, run_underlying hu, goInt], .v _⟩
  · trivial
theorem run_size (hC : CtxOk C) {e : TypeId} {ei : TI} (he : C.ty e = some ei) (w : World) : (sizeOf e).run C.P w = .ok ei.sz w := by
  obtain ⟨inf, z, hi, hsz, _⟩ := (hC.ty e _ he).info
  simp only [sizeOf, typeInfo, program, Sem.run_bind, Sem.run, hi, Sem.run_pure, Result.andThen_ok, hsz]
theorem indexAddr_ok (hC : CtxOk C) (H : SimH B S w β h) (t : TypeId) {a i : AV} {v u : Value} (ha : Rep S w β a v) (hi : Rep S w β i u) :
    ResOk C.P S w β (Instr.indexAt t v u)
      (indexAddrA C h t a i) := by
  unfold indexAddrA indexAddrV
  split
  · rename_i e sz ag z by_ eq k n ht
    cases rep_v hi
    have hu := (hC.ty t _ ht).kd
    have key : ∀ (ei : TI) (A : Addr) (len c : Nat), C.ty e = some ei → 0 ≤ n → n < (len : Int) → (Instr.indexAt t (.slice (some A) len c) (.int k n)).run C.P w = .ok (.pointer (some (A.add (n.toNat * ei.sz)))) w := by
      intro ei A len c he h0 h1
      simp [Instr.indexAt, asIntOf, run_underlying hu, h0, h1, run_size hC he]
    split
    · rename_i ei rs rows clip he
      split
      · rename_i hrs'
        have hrs' := Nat.eq_of_beq_eq_true hrs'
        intro row x h0 hrow hx
        injection hx with hx; subst hx
        cases ha with
        | sl _ _ _ A c b o u hc hm hcl hrs hA hw h1 hr =>
        have hlt : n.toNat < rows.length := (List.getElem?_eq_some_iff.1 hrow).1
        obtain ⟨hA1, hA2⟩ := hA (by omega)
        subst hA1
        refine ⟨_, key ei _ _ _ he h0 (by omega), ?_⟩
        rw [Addr.add_mid, ← hrs']
        exact .dp rs 0 row b (o + n.toNat * rs) (fun j => u n.toNat j) (hrs row (List.mem_of_getElem? hrow)) hA2 (fun j a hj => hw _ _ _ _ hrow hj) (fun j => h1 _ _) fun j a hj => hr _ _ _ _ hrow hj
      · trivial
    · rename_i ei b lo len clip he
      split
      · rename_i rows rs hb
        split
        · rename_i hrs'
          have hrs' := Nat.eq_of_beq_eq_true hrs'
          rintro ⟨h0, h1⟩
          obtain ⟨l, cs, e', fr, k1, k2, k3, k4, k5⟩ := own_arr H (s := b) hb
          cases ha with
          | osl _ _ _ _ l' A c hl hc hm hcl hA ds e'' fr' hb' room =>
          obtain rfl : l' = l := by rw [hl] at k1; exact Option.some.inj k1
          have hA1 := hA (by omega)
          subst hA1
          refine ⟨_, key ei _ _ _ he h0 h1, ?_⟩
          rw [Addr.add_mid, ← hrs', ← k3, Nat.add_assoc, ← Nat.add_mul]
          exact .ptr2 b (lo + n.toNat) 0 l' hl
        · trivial
      · rename_i cells hb
        split
        · rename_i hrs'
          have hrs' := Nat.eq_of_beq_eq_true hrs'
          rintro ⟨h0, h1⟩
          obtain ⟨l, cs, e', fr, k1, k2, k3, k4⟩ := own_row H (s := b) hb
          cases ha with
          | osl _ _ _ _ l' A c hl hc hm hcl hA ds e'' fr' hb' room =>
          obtain rfl : l' = l := by rw [hl] at k1; exact Option.some.inj k1
          have hA1 := hA (by omega)
          subst hA1
          refine ⟨_, key ei _ _ _ he h0 h1, ?_⟩
          rw [Addr.add_mid, ← hrs', ← k3, Nat.add_assoc, ← Nat.add_mul]
          exact .ptr2 b (lo + n.toNat) 0 l' hl
        · trivial
      · trivial
    · trivial
  · rename_i len e sz ag z by_ eq k n ht
    cases rep_v hi
    have hu := (hC.ty t _ ht).kd
    have key : ∀ (ei : TI) (A : Addr), C.ty e = some ei → 0 ≤ n → n < (len : Int) → (Instr.indexAt t (.pointer (some A)) (.int k n)).run C.P w = .ok (.pointer (some (A.add (n.toNat * ei.sz)))) w := by
      intro ei A he h0 h1
      simp [Instr.indexAt, asIntOf, run_underlying hu, h0, h1, run_size hC he, Instr.sureAddr]
    split
    · rename_i ei b c he
      rintro ⟨h0, h1⟩
      cases ha with
      | ptr _ _ l hl => exact ⟨_, key ei _ he h0 h1, by rw [Addr.add_mid, Nat.add_assoc]; exact .ptr b _ l hl⟩
    · rename_i ei b r c he
      rintro ⟨h0, h1⟩
      cases ha with
      | ptr2 _ _ _ l hl => exact ⟨_, key ei _ he h0 h1, by rw [Addr.add_mid, Nat.add_assoc]; exact .ptr2 b r _ l hl⟩
    · rename_i ei rs c row he
      rintro ⟨h0, h1⟩
      cases ha with
      | dp _ _ _ b o u hrs hb hw h1' hr => exact ⟨_, key ei _ he h0 h1, by rw [Addr.add_mid, Nat.add_assoc]; exact .dp rs _ row b o u hrs hb hw h1' hr⟩
    · trivial
  · trivial
theorem index_ok (hC : CtxOk C) (t : TypeId) {a i : AV} {v u : Value} (ha : Rep S w β a v) (hi : Rep S w β i u) :
    ResOk C.P S w β (Instr.index t v u)
      (indexA C t a i) := by
  unfold indexA
  split
  · rename_i sz ag z by_ eq s k n ht
    cases rep_v ha; cases rep_v hi
    have hu := (hC.ty t _ ht).kd
    rintro ⟨h0, h1⟩
    have hlt : n.toNat < s.size := by omega
    refine ⟨_, ?_, .v _⟩
    have e1 : s[n.toNat]? = some (s.data.toList.getD n.toNat 0) := by
      have hl : n.toNat < s.data.toList.length := by simpa using hlt
      rw [getElem?_pos s n.toNat hlt]
      congr 1
      rw [List.getD_eq_getElem?_getD, List.getElem?_eq_getElem hl, Option.getD_some]
      rfl
    simp only [Instr.index, asIntOf, Sem.run_bind, Sem.run_pure, Result.andThen_ok, run_underlying hu, if_pos h0, e1]
  · rename_i len e sz ag z by_ eq cs k n ht
    cases rep_v hi
    have hu := (hC.ty t _ ht).kd
    split
    · rename_i ei he
      split
      · rename_i x hx
        rintro ⟨h0, h1⟩
        cases ha with
        | agg _ vs hl h1' hr =>
        obtain ⟨r, p1, p2⟩ := part_ok hC hl h1' hr hx
        exact ⟨r, by simp only [Instr.index, asIntOf, Sem.run_bind, Sem.run_pure, Result.andThen_ok, run_underlying hu, if_pos (And.intro h0 h1), run_size hC he, p1], p2⟩
      · trivial
    · trivial
  · trivial
theorem extract_ok {P : Program} (i : Nat) {a : AV} {v : Value} (ha : Rep S w β a v) :
    ResOk P S w β (Instr.extract v i) (extractA i a) := by
  unfold extractA
  split
  · rename_i vs
    cases ha with
    | tup _ us hl hr =>
    refine okO_ok fun y hy => ?_
    rw [nthO_eq] at hy
    have hlt : i < us.size := by rw [← hl]; exact (List.getElem?_eq_some_iff.1 hy).1
    exact ⟨us[i], by simp only [Instr.extract, Array.getElem?_eq_getElem hlt, Sem.run_pure], hr i y _ hy (Array.getElem?_eq_getElem hlt)⟩
  · trivial
theorem intO_rep {x : Option AV} {v : Option Value} {r : Option Int} (hx : ∀ a, x = some a → ∃ u, v = some u ∧ Rep S w β a u) (hn : x = none → v = none) (hr : intO x = some r) :
    (r = none ∧ v = none) ∨ ∃ k n, r = some n ∧ v = some (.int k n) := by
  unfold intO at hr
  split at hr
  · injection hr with hr; exact .inl ⟨hr.symm, hn rfl⟩
  · obtain ⟨u, h1, h2⟩ := hx _ rfl
    injection hr with hr
    cases rep_v h2
    exact .inr ⟨_, _, hr.symm, h1⟩
  · cases hr
theorem run_bounds {P : Program} (isS : Bool) (len cap : Nat) (lo hi mx : Option Value) (l h : Int) (m : Nat) (hl : (lo = none ∧ l = 0) ∨ ∃ k, lo = some (.int k l))
    (hh : (hi = none ∧ mx = none ∧ h = len) ∨ ∃ k, hi = some (.int k h)) (hm : (mx = none ∧ m = cap) ∨ ∃ k, mx = some (.int k (m : Int))) (h0 : 0 ≤ l) (h1 : l ≤ h) (h2 : h ≤ m) (h3 : m ≤ cap) :
    (Instr.sliceBounds isS len cap lo hi mx).run P w = .ok (l.toNat, h.toNat, m) w := by
  have bd : ∀ (k : IntKind) (i : Int) (y : Nat) (code : BoundsCode), 0 ≤ i → i ≤ y → (Instr.sliceBound (.int k i) y code).run P w = .ok i.toNat w := fun k i y code p q => by
    simp only [Instr.sliceBound, asIntOf, Sem.run_bind, Sem.run_pure, Result.andThen_ok, if_pos (And.intro p q)]
  have eh : ((h.toNat : Nat) : Int) = h := Int.toNat_of_nonneg (by omega)
  rcases hm with ⟨rfl, rfl⟩ | ⟨km, rfl⟩
  · rcases hh with ⟨rfl, _, rfl⟩ | ⟨kh, rfl⟩
    · rcases hl with ⟨rfl, rfl⟩ | ⟨kl, rfl⟩
      · simp [Instr.sliceBounds]
      · simp [Instr.sliceBounds, bd kl l _ _ h0 h1]
    · rcases hl with ⟨rfl, rfl⟩ | ⟨kl, rfl⟩
      · simp [Instr.sliceBounds, bd kh h _ _ (by omega) h2]
      · simp [Instr.sliceBounds, bd kh h _ _ (by omega) h2, bd kl l _ _ h0 (by omega : l ≤ (h.toNat : Int))]
  · rcases hh with ⟨_, h', _⟩ | ⟨kh, rfl⟩
    · cases h'
    · rcases hl with ⟨rfl, rfl⟩ | ⟨kl, rfl⟩
      · simp [Instr.sliceBounds, bd km (m : Int) cap _ (by omega) (by omega), bd kh h m _ (by omega) h2]
      · simp [Instr.sliceBounds, bd km (m : Int) cap _ (by omega) (by omega), bd kh h m _ (by omega) h2, bd kl l _ _ h0 (by omega : l ≤ (h.toNat : Int))]
theorem slice_ok (hC : CtxOk C) (H : SimH B S w β h) (t : TypeId) {a : AV} {v : Value} {lo hi mx : Option AV} {vlo vhi vmx : Option Value} (ha : Rep S w β a v)
    (hlo : ∀ a, lo = some a → ∃ u, vlo = some u ∧ Rep S w β a u) (hlo' : lo = none → vlo = none) (hhi : ∀ a, hi = some a → ∃ u, vhi = some u ∧ Rep S w β a u) (hhi' : hi = none → vhi = none)
    (hmx : ∀ a, mx = some a → ∃ u, vmx = some u ∧ Rep S w β a u) (hmx' : mx = none → vmx = none) :
    ResOk C.P S w β (Instr.sliceAt t v vlo vhi vmx) (sliceA C h t a lo hi mx) := by
  unfold sliceA sliceV
  split
  · rename_i len l0 h0 m0 hlen hl0 hh0 hm0
    have L := intO_rep hlo hlo' hl0
    have U := intO_rep hhi hhi' hh0
    have M := intO_rep hmx hmx' hm0
    clear hlo hlo' hhi hhi' hmx hmx' hl0 hh0 hm0
    have hL : (vlo = none ∧ l0.getD 0 = 0) ∨ ∃ k, vlo = some (.int k (l0.getD 0)) := by
      rcases L with ⟨rfl, rfl⟩ | ⟨k, n, rfl, rfl⟩
      · exact .inl ⟨rfl, rfl⟩
      · exact .inr ⟨k, rfl⟩
    have hU : ∀ vm, vm = none → (vhi = none ∧ vm = (none : Option Value) ∧ h0.getD (len : Int) = len) ∨ ∃ k, vhi = some (.int k (h0.getD len)) := by
      intro vm hvm
      rcases U with ⟨rfl, rfl⟩ | ⟨k, n, rfl, rfl⟩
      · exact .inl ⟨rfl, hvm, rfl⟩
      · exact .inr ⟨k, rfl⟩
    split
    · rename_i ht
      have hu := (hC.ty t _ ht).kd
      split
      · rename_i s
        cases rep_v ha
        have hl : s.size = len := by simpa [lenA] using hlen
        have hM : vmx = none := by rcases M with ⟨_, h⟩ | ⟨_, _, h, _⟩ <;> first | exact h | cases h
        subst hM
        rintro ⟨p0, p1, p2⟩
        have hb := run_bounds (P := C.P) (w := w) false len len vlo vhi none _ _ len hL (hU none rfl) (.inl ⟨rfl, rfl⟩) p0 p1 p2 (Nat.le_refl _)
        refine ⟨_, ?_, .v _⟩
        simp only [Instr.sliceAt, Sem.run_bind, run_underlying hu, Result.andThen_ok, Instr.slice, hl, Option.isSome_none, Bool.false_eq_true, if_false, Sem.run_pure, hb]
      · trivial
    · rename_i e sz ag z by_ eq ht
      have hu := (hC.ty t _ ht).kd
      split
      · rename_i ei he
        have run : ∀ (A : Option Addr) (n c m : Nat) (vhi vmx : Option Value) (l h : Int), (Instr.sliceBounds true n c vlo vhi vmx).run C.P w = .ok (l.toNat, h.toNat, m) w →
            (Instr.sliceAt t (.slice A n c) vlo vhi vmx).run C.P w = .ok (.slice (if m = l.toNat then A else A.map (·.add (l.toNat * ei.sz))) (h.toNat - l.toNat) (m - l.toNat)) w := by
          intro A n c m vhi vmx l h hb
          simp only [Instr.sliceAt, Sem.run_bind, run_underlying hu, Result.andThen_ok, Instr.slice, hb, run_size hC he, Sem.run_pure]
        have known : ∀ (rs : Nat) (rows : List (List AV)) (clip clip' : Bool) (v : Value) (l hh : Int) (m' : Option Nat) (vhi vmx : Option Value), Rep S w β (.sl rs rows clip) v → rs = ei.sz → 0 ≤ l → l ≤ hh → hh ≤ (rows.length : Int) →
            ((vlo = none ∧ l = 0) ∨ ∃ k, vlo = some (.int k l)) → ((vhi = none ∧ vmx = none ∧ hh = (rows.length : Int)) ∨ ∃ k, vhi = some (.int k hh)) →
            ((m' = none ∧ vmx = none) ∨ (∃ k, m' = some hh.toNat ∧ vmx = some (.int k hh))) → (clip' = true → (m' = none → clip = true ∧ hh = (rows.length : Int))) →
            Yld C.P S w β (.sl rs ((rows.take hh.toNat).drop l.toNat) clip') (Instr.sliceAt t v vlo vhi vmx) := by
          intro rs rows clip clip' v l hh m' vhi vmx hr hrs p0 p1 p2 hl hhi hm hcl'
          cases hr with
          | sl _ _ _ A c b o u hc hmx hcl hrs' hA hw h1 hr' =>
          have hlen : ((rows.take hh.toNat).drop l.toNat).length = hh.toNat - l.toNat := by
            rw [List.length_drop, List.length_take]; omega
          have fin : ∀ m : Nat, hh ≤ (m : Int) → m ≤ c → (clip' = true → (m : Int) = hh) → (Instr.sliceBounds true rows.length c vlo vhi vmx).run C.P w = .ok (l.toNat, hh.toNat, m) w →
              Yld C.P S w β (.sl rs ((rows.take hh.toNat).drop l.toNat) clip') (Instr.sliceAt t (.slice A rows.length c) vlo vhi vmx) := by
            intro m q1 q2 q3 hb
            refine ⟨_, run A _ c m vhi vmx l hh hb, ?_⟩
            rw [← hlen]
            refine .sl rs _ clip' _ (m - l.toNat) b (o + l.toNat * rs) (fun i j => u (i + l.toNat) j) (by rw [hlen]; omega) (by omega) (fun q => by have := q3 q; rw [hlen]; omega) (fun row hrow => hrs' row (List.mem_of_mem_take (List.mem_of_mem_drop hrow)))
              (fun hpos => ?_) (fun i row j a hi hj => ?_) (fun i j => h1 _ _) fun i row j a hi hj => ?_
            · rw [hlen] at hpos
              obtain ⟨hA1, hA2⟩ := hA (by omega)
              refine ⟨?_, hA2⟩
              rw [if_neg (by omega), hA1, Option.map_some, Addr.add_mid, hrs]
            · rw [List.getElem?_drop, List.getElem?_take] at hi
              split at hi
              · have := hw _ _ _ _ hi hj
                rw [← Nat.add_comm i] at this
                rw [← this]; congr 2; rw [Nat.add_mul]; omega
              · cases hi
            · rw [List.getElem?_drop, List.getElem?_take] at hi
              split at hi
              · have := hr' _ _ _ _ hi hj
                rwa [← Nat.add_comm i] at this
              · cases hi
          rcases hm with ⟨rfl, rfl⟩ | ⟨k, rfl, rfl⟩
          · refine fin c (by omega) (Nat.le_refl _) (fun q => ?_) (run_bounds true _ c vlo vhi none l hh c hl hhi (.inl ⟨rfl, rfl⟩) p0 p1 (by omega) (Nat.le_refl _))
            obtain ⟨q1, q2⟩ := hcl' q rfl
            rw [hcl q1]; omega
          · have eh : ((hh.toNat : Nat) : Int) = hh := Int.toNat_of_nonneg (by omega)
            refine fin hh.toNat (by omega) (by omega) (fun _ => eh) (run_bounds true _ c vlo vhi _ l hh hh.toNat hl hhi (.inr ⟨k, by rw [eh]⟩) p0 p1 (by omega) (by omega))
        have own : ∀ (s lo len rs : Nat) (rows : List (List AV)) (clip clip' : Bool) (v : Value) (l hh : Int) (m' : Option Nat) (vhi vmx : Option Value), Rep S w β (.osl s lo len clip) v → h s = some (.arr rows rs) → rs = ei.sz → 0 ≤ l → l ≤ hh → hh ≤ (len : Int) →
            ((vlo = none ∧ l = 0) ∨ ∃ k, vlo = some (.int k l)) → ((vhi = none ∧ vmx = none ∧ hh = (len : Int)) ∨ ∃ k, vhi = some (.int k hh)) →
            ((m' = none ∧ vmx = none) ∨ (∃ k, m' = some hh.toNat ∧ vmx = some (.int k hh))) → (clip' = true → (m' = none → clip = true ∧ hh = (len : Int))) →
            Yld C.P S w β (.osl s (lo + l.toNat) (hh - l).toNat clip') (Instr.sliceAt t v vlo vhi vmx) := by
          intro s lo len rs rows clip clip' v l hh m' vhi vmx hr hs hrs p0 p1 p2 hl hhi hm hcl'
          obtain ⟨l', cs', e', fr', k1, k2, k3, k4, k5⟩ := own_arr H hs
          cases hr with
          | osl _ _ _ _ l1 A c hl1 hc hmx hcl hA cs e1 fr hb room =>
          obtain rfl : l1 = l' := by rw [hl1] at k1; exact Option.some.inj k1
          have fin : ∀ m : Nat, hh ≤ (m : Int) → m ≤ c → (clip' = true → (m : Int) = hh) → (Instr.sliceBounds true len c vlo vhi vmx).run C.P w = .ok (l.toNat, hh.toNat, m) w →
              Yld C.P S w β (.osl s (lo + l.toNat) (hh - l).toNat clip') (Instr.sliceAt t (.slice A len c) vlo vhi vmx) := by
            intro m q1 q2 q3 hb
            refine ⟨_, run A _ c m vhi vmx l hh hb, ?_⟩
            rw [show hh.toNat - l.toNat = (hh - l).toNat by omega]
            refine .osl s _ _ clip' l1 _ (m - l.toNat) hl1 (by omega) (by omega) (fun q => by have := q3 q; omega) (fun hpos => ?_) cs e1 fr (by assumption) ?_
            · rw [if_neg (by omega), hA (by omega), Option.map_some, Addr.add_mid, ← hrs, k3, Nat.add_assoc, ← Nat.add_mul]
            · refine Nat.le_trans (Nat.add_le_add_left (Nat.mul_le_mul_right _ ?_) _) room
              omega
          rcases hm with ⟨rfl, rfl⟩ | ⟨k, rfl, rfl⟩
          · refine fin c (by omega) (Nat.le_refl _) (fun q => ?_) (run_bounds true _ c vlo vhi none l hh c hl hhi (.inl ⟨rfl, rfl⟩) p0 p1 (by omega) (Nat.le_refl _))
            obtain ⟨q1, q2⟩ := hcl' q rfl
            rw [hcl q1]; omega
          · have eh : ((hh.toNat : Nat) : Int) = hh := Int.toNat_of_nonneg (by omega)
            refine fin hh.toNat (by omega) (by omega) (fun _ => eh) (run_bounds true _ c vlo vhi _ l hh hh.toNat hl hhi (.inr ⟨k, by rw [eh]⟩) p0 p1 (by omega) (by omega))
        split
        · rename_i rs rows clip
          split
          · rename_i hrs
            rintro ⟨p0, p1, p2⟩
            have hlen' : rows.length = len := by simpa [lenA] using hlen
            have hM : vmx = none := by rcases M with ⟨_, h⟩ | ⟨_, _, h, _⟩ <;> first | exact h | cases h
            subst hM
            refine known rs rows clip _ v _ _ none vhi none ha (Nat.eq_of_beq_eq_true hrs) p0 p1 (by rw [hlen']; exact p2) hL (by rw [hlen']; exact hU none rfl) (.inl ⟨rfl, rfl⟩) (fun q _ => ?_)
            simp only [Bool.and_eq_true, Option.isNone_iff_eq_none] at q
            rw [q.2, hlen']; exact ⟨q.1, rfl⟩
          · trivial
        · rename_i rs rows clip m hi
          split
          · rename_i hrs
            rintro ⟨p0, p1, p2, p3⟩
            subst p2
            have hlen' : rows.length = len := by simpa [lenA] using hlen
            rcases M with ⟨h, _⟩ | ⟨km, n, hm, hv⟩
            · cases h
            injection hm with hm; subst hm
            rcases U with ⟨h, _⟩ | ⟨kh, n', hn, hv'⟩
            · cases h
            injection hn with hn; subst hn
            exact known rs rows clip true v _ _ (some hi.toNat) vhi vmx ha (Nat.eq_of_beq_eq_true hrs) p0 p1 (by rw [hlen']; exact p3) hL (.inr ⟨kh, hv'⟩) (.inr ⟨km, rfl, hv⟩) (fun _ q => by cases q)
          · trivial
        · rename_i s o n clip
          split
          · rename_i rows rs hs
            split
            · rename_i hrs
              rintro ⟨p0, p1, p2⟩
              have hlen' : n = len := by simpa [lenA] using hlen
              have hM : vmx = none := by rcases M with ⟨_, h⟩ | ⟨_, _, h, _⟩ <;> first | exact h | cases h
              subst hM; subst hlen'
              refine own s o n rs rows clip _ v _ _ none vhi none ha hs (Nat.eq_of_beq_eq_true hrs) p0 p1 p2 hL (hU none rfl) (.inl ⟨rfl, rfl⟩) (fun q _ => ?_)
              simp only [Bool.and_eq_true, Option.isNone_iff_eq_none] at q
              rw [q.2]; exact ⟨q.1, rfl⟩
            · trivial
          · trivial
        · rename_i s o n clip m hi
          split
          · rename_i rows rs hs
            split
            · rename_i hrs
              rintro ⟨p0, p1, p2, p3⟩
              subst p2
              have hlen' : n = len := by simpa [lenA] using hlen
              subst hlen'
              rcases M with ⟨h, _⟩ | ⟨km, n', hm, hv⟩
              · cases h
              injection hm with hm; subst hm
              rcases U with ⟨h, _⟩ | ⟨kh, n'', hn, hv'⟩
              · cases h
              injection hn with hn; subst hn
              exact own s o n rs rows clip true v _ _ (some hi.toNat) vhi vmx ha hs (Nat.eq_of_beq_eq_true hrs) p0 p1 p3 hL (.inr ⟨kh, hv'⟩) (.inr ⟨km, rfl, hv⟩) (fun _ q => by cases q)
            · trivial
          · trivial
        · trivial
      · trivial
    · trivial
  · trivial
end
end Go.Proofs.YtpefnjbmbfdmmaaDoor
namespace Go.Proofs.YtpefnjbmbfdmmaaDoor
open Go.RowKit
section
variable {C : Ctx} {S : Nat → Prop} {w : World} {β : Bt} {B : Nat} {h : AH}
theorem fold_sets (off : Nat) : ∀ (l : List Value) (s : Nat) (cells : Array Value), off + s + l.length ≤ cells.size →
    ((l.zipIdx s).foldl (fun (cs : Array Value) (p : Value × Nat) => cs.setIfInBounds (off + p.2) p.1) cells).size = cells.size ∧
    ∀ k, ((l.zipIdx s).foldl (fun (cs : Array Value) (p : Value × Nat) => cs.setIfInBounds (off + p.2) p.1) cells)[k]? = if off + s ≤ k ∧ k < off + s + l.length then l[k - (off + s)]? else cells[k]?
  | [], s, cells, _ => by
    refine ⟨rfl, fun k => ?_⟩
    simp only [List.zipIdx_nil, List.foldl_nil, List.length_nil, Nat.add_zero]
    rw [if_neg (by omega)]
  | x :: l, s, cells, hl => by
    simp only [List.length_cons] at hl
    obtain ⟨h1, h2⟩ := fold_sets off l (s + 1) (cells.setIfInBounds (off + s) x) (by simp; omega)
    simp only [List.zipIdx_cons, List.foldl_cons]
    refine ⟨by rw [h1]; simp, fun k => ?_⟩
    rw [h2 k]
    simp only [List.length_cons]
    by_cases hk : k = off + s
    · subst hk
      rw [if_neg (by omega), if_pos (by omega), Nat.sub_self, List.getElem?_cons_zero, Array.getElem?_setIfInBounds_self_of_lt (by omega)]
    · by_cases hk2 : off + (s + 1) ≤ k ∧ k < off + (s + 1) + l.length
      · rw [if_pos hk2, if_pos (by omega), show k - (off + s) = (k - (off + (s + 1))) + 1 by omega, List.getElem?_cons_succ]
      · rw [if_neg hk2, if_neg (by omega), Array.getElem?_setIfInBounds_ne (by omega)]
def PartsL (S : Nat → Prop) (w : World) (β : Bt) : List (Nat × AV) → List (Nat × Value) → Prop
  | [], [] => True
  | (i, a) :: ps, (j, v) :: qs => i = j ∧ Rep S w β a v ∧ PartsL S w β ps qs
  | _, _ => False
theorem fill_ok {pa pv : Nat → Option (Nat × Nat)} (hp : ∀ i x, pa i = some x → pv i = some x) : ∀ (ps : List (Nat × AV)) (qs : List (Nat × Value)) (cells r : List AV) (vs : Array Value), PartsL S w β ps qs → CellL S w β cells vs.toList →
    fillA C pa cells ps = some r → ∃ vr, Instr.fill pv vs qs = some vr ∧ CellL S w β r vr.toList
  | [], [], cells, r, vs, _, hc, hr => by simp only [fillA] at hr; injection hr with hr; subst hr; exact ⟨vs, rfl, hc⟩
  | [], _ :: _, _, _, _, hq, _, _ => hq.elim
  | (i, a) :: ps, [], _, _, _, hq, _, _ => hq.elim
  | (i, a) :: ps, (j, v) :: qs, cells, r, vs, hq, hc, hr => by
    obtain ⟨rfl, ha, hrest⟩ := hq
    simp only [fillA] at hr
    split at hr
    · rename_i off sz cs hpl hca
      have hcs := cellsA_rep ha hca
      split at hr
      · rename_i e1 e2
        have e1 := Nat.eq_of_beq_eq_true e1
        have e2 := Nat.le_of_ble_eq_true e2
        have n1 : v.cells.size = sz := by rw [← e1, hcs.rep.1]; simp
        have n2 : vs.size = cells.length := by rw [hc.rep.1]; simp
        obtain ⟨f1, f2⟩ := fold_sets off v.cells.toList 0 vs (by simp only [Array.length_toList, Nat.add_zero, n1, n2]; omega)
        have hnew : CellL S w β (putL off cs cells) ((v.cells.toList.zipIdx 0).foldl (fun (cs : Array Value) (p : Value × Nat) => cs.setIfInBounds (off + p.2) p.1) vs).toList := by
          refine ⟨⟨(putL_length _ _ _ e2).trans (n2.symm.trans (f1.symm.trans (Array.length_toList).symm)), fun k a' u hk hu => ?_⟩, fun k u hu => ?_⟩
          · rw [Array.getElem?_toList, f2 k] at hu
            rw [putL_get _ _ _ _ e2] at hk
            simp only [Nat.add_zero, Array.length_toList, n1] at hu
            rw [e1] at hk
            split at hk
            · rename_i hcond
              rw [if_pos hcond] at hu
              exact hcs.rep.2 _ _ _ hk hu
            · rename_i hcond
              rw [if_neg hcond] at hu
              exact hc.rep.2 _ _ _ hk (by simpa using hu)
          · rw [Array.getElem?_toList, f2 k] at hu
            split at hu
            · exact hcs.one _ _ hu
            · exact hc.one _ _ (by simpa using hu)
        obtain ⟨vr, g1, g2⟩ := fill_ok hp ps qs _ r _ hrest hnew hr
        refine ⟨vr, ?_, g2⟩
        simp only [Instr.fill, hp _ _ hpl]
        rw [if_neg (by simp [n1, n2]; omega)]
        have : v.cells.zipIdx.foldl (fun (cs : Array Value) (x : Value × Nat) => match x with | (c, j) => cs.setIfInBounds (off + j) c) vs = (v.cells.toList.zipIdx 0).foldl (fun (cs : Array Value) (p : Value × Nat) => cs.setIfInBounds (off + p.2) p.1) vs := by
          rw [← Array.foldl_toList, Array.toList_zipIdx]
        rw [← this] at g1
        exact g1
      · cases hr
    · cases hr
theorem mapM_some {P : Program} : ∀ (fs : List Field), (∀ f ∈ fs, ∃ inf, P.info? f.type = some inf ∧ inf.size ≠ 0) → ∃ ps, fs.mapM (fun (f : Field) => (P.info? f.type).map fun i => (f.offset, i.size)) = some ps ∧
    ∀ i : Nat, ps[i]? = (fs[i]?).bind fun (f : Field) => (P.info? f.type).map fun i => (f.offset, i.size)
  | [], _ => ⟨[], rfl, fun i => by simp⟩
  | f :: fs, hf => by
    obtain ⟨ps, h1, h2⟩ := mapM_some fs fun g hg => hf g (List.mem_cons_of_mem _ hg)
    obtain ⟨inf, hi, _⟩ := hf f (List.mem_cons_self)
    refine ⟨(f.offset, inf.size) :: ps, by simp [List.mapM_cons, hi, h1], fun i => ?_⟩
    cases i with
    | zero => simp [hi]
    | succ i => simpa using h2 i
theorem zero_cells (hC : CtxOk C) {t : TypeId} {i : TI} (ht : C.ty t = some i) {zs : List AV} (hz : cellsA i.zero = some zs) : ∃ inf z, C.P.info? t = some inf ∧ inf.size = i.sz ∧ inf.zero = some z ∧ CellL S w β zs z.cells.toList ∧ z.cells.size = i.sz ∧ inf.bytes = i.bytes ∧ 0 < i.sz ∧ i.bytes ≤ 1000 := by
  obtain ⟨inf, z, h1, h2, h3, h4, h5, h6, h7, h8⟩ := (hC.ty t _ ht).info
  rw [h5] at hz
  exact ⟨inf, z, h1, h2, h4, cellsA_rep (absV_rep z) hz, h6, h3, h7, h8⟩
theorem build_ok (hC : CtxOk C) (t : TypeId) (ps : List (Nat × AV)) (qs : Array (Nat × Value)) (hq : PartsL S w β ps qs.toList) :
    ResOk C.P S w β (Instr.build t qs)
      (buildA C t ps) := by
  unfold buildA
  split
  · rename_i fs sz ag z by_ eq ht
    obtain ⟨fields, hu, hfs, hnz⟩ := (hC.ty t _ ht).kd
    split
    · rename_i zs hzs
      obtain ⟨inf, zv, i1, i2, i3, i4, _⟩ := zero_cells (S := S) (w := w) (β := β) hC ht hzs
      refine okO_ok fun y hy => ?_
      obtain ⟨r, hr, hry⟩ := Option.map_eq_some_iff.1 hy
      subst hry
      obtain ⟨places, hpl, hpi⟩ := mapM_some fields.toList hnz
      have hpp : ∀ i x, (match nthF fs i with | some (off, ft) => (match C.ty ft with | some fi => some (off, fi.sz) | none => none) | none => none) = some x → places.toArray[i]? = some x := by
        intro i x hx
        split at hx
        · rename_i off ft hn
          split at hx
          · rename_i fi hfi
            injection hx with hx; subst hx
            rw [nthF_eq, ← hfs, List.getElem?_map] at hn
            obtain ⟨fd, hfd, hfe⟩ := Option.map_eq_some_iff.1 hn
            injection hfe with e1 e2
            subst e1; subst e2
            obtain ⟨inf', z', j1, j2, _⟩ := (hC.ty _ _ hfi).info
            simp only [List.getElem?_toArray, hpi, hfd, Option.bind_some, j1, Option.map_some, j2]
          · cases hx
        · cases hx
      obtain ⟨vr, g1, g2⟩ := fill_ok (pv := (places.toArray[·]?)) hpp _ _ _ _ _ hq i4 hr
      exact ⟨_, run_build w t qs vr (by simp only [Program.built, i1, hu, i3, hpl]; exact g1), by simpa using g2.agg⟩
    · trivial
  · rename_i n e sz ag z by_ eq ht
    have hu : C.P.underlying t = some (.array n e) := (hC.ty t _ ht).kd
    split
    · rename_i zs ei hzs he
      obtain ⟨inf, zv, i1, i2, i3, i4, _⟩ := zero_cells (S := S) (w := w) (β := β) hC ht hzs
      obtain ⟨inf', z', j1, j2, _⟩ := (hC.ty _ _ he).info
      refine okO_ok fun y hy => ?_
      obtain ⟨r, hr, hry⟩ := Option.map_eq_some_iff.1 hy
      subst hry
      obtain ⟨vr, g1, g2⟩ := fill_ok (pv := fun i => some (i * inf'.size, inf'.size)) (fun i x hx => by rw [j2]; exact hx) _ _ _ _ _ hq i4 hr
      exact ⟨_, run_build w t qs vr (by simp only [Program.built, i1, hu, i3, j1]; exact g1), by simpa using g2.agg⟩
    · trivial
  · trivial
end
end Go.Proofs.YtpefnjbmbfdmmaaDoor
