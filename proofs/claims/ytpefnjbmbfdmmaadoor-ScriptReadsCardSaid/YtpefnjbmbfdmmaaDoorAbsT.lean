/- Short steps of walks: what the second machine can reckon by itself is not printed. -/
import Derived.Test.YtpefnjbmbfdmmaaDoorAbsH
namespace Go.Proofs.YtpefnjbmbfdmmaaDoor
open Go.RowKit

/-- A value, as far as its first layer. -/
def fA : AV → Option AV
  | .v x => some (.v x)
  | .agg cs => some (.agg cs)
  | .tup cs => some (.tup cs)
  | .sl a b c => some (.sl a b c)
  | .dp a b c => some (.dp a b c)
  | .ptr a b => some (.ptr a b)
  | .ptr2 a b c => some (.ptr2 a b c)
  | .osl a b c d => some (.osl a b c d)
  | .clo f a b => some (.clo f a b)
  | .opt g x => some (.opt g x)
  | .any => some .any
theorem fA_eq {x y : AV} (h : fA x = some y) : x = y := by cases x <;> cases h <;> rfl
def fNth : List AV → Nat → Option AV
  | [], _ => none
  | x :: _, 0 => fA x
  | _ :: xs, n + 1 => fNth xs n
theorem fNth_eq {l : List AV} {i : Nat} {y : AV} (h : fNth l i = some y) : nthO l i = some y := by
  induction l generalizing i with
  | nil => cases h
  | cons x l ih => cases i with
    | zero => exact congrArg some (fA_eq h)
    | succ i => exact ih h
def fTake : Nat → List AV → (List AV → Option AV) → Option AV
  | 0, _, k => k []
  | _ + 1, [], k => k []
  | n + 1, x :: xs, k => fTake n xs (fun l => k (x :: l))
theorem fTake_eq (n : Nat) (l : List AV) (k : List AV → Option AV) : fTake n l k = k (takeL n l) := by
  induction n generalizing l k with
  | zero => rfl
  | succ n ih => cases l with
    | nil => rfl
    | cons x l => exact ih l _
def sLoad (C : Ctx) (t : TypeId) (rs col : Nat) (row : List AV) : Option AV :=
  match C.ty t with
  | some ⟨_, sz, true, _, _, _⟩ =>
    match col, Nat.beq sz rs with
    | 0, true => some (.agg row)
    | _, _ => fTake sz (dropL col row) fun l => match Nat.beq l.length sz with | true => some (.agg l) | false => none
  | some ⟨_, _, false, _, _, _⟩ => fNth row col
  | none => none
theorem sLoad_eq {C : Ctx} {t : TypeId} {rs col : Nat} {row : List AV} {y : AV} (h : sLoad C t rs col row = some y) : loadA C t rs col row = some y := by
  unfold sLoad at h; unfold loadA
  cases ht : C.ty t with
  | none => rw [ht] at h; cases h
  | some ti =>
    obtain ⟨kd, sz, ag, z, b, eq⟩ := ti
    rw [ht] at h
    cases ag with
    | false => exact fNth_eq h
    | true =>
      cases col with
      | zero => cases hb : Nat.beq sz rs <;> (simp only [hb, fTake_eq] at h ⊢; exact h)
      | succ c => simp only [fTake_eq] at h ⊢; exact h
def sPart (C : Ctx) (t : TypeId) (cs : List AV) (off : Nat) : Option AV :=
  match C.ty t with
  | some ⟨_, sz, true, _, _, _⟩ => fTake sz (dropL off cs) fun l => some (.agg l)
  | some ⟨_, _, false, _, _, _⟩ => fNth cs off
  | none => none
theorem sPart_eq {C : Ctx} {t : TypeId} {cs : List AV} {off : Nat} {y : AV} (h : sPart C t cs off = some y) : partA C t cs off = some y := by
  unfold sPart at h; unfold partA
  cases ht : C.ty t with
  | none => rw [ht] at h; cases h
  | some ti =>
    obtain ⟨kd, sz, ag, z, b, eq⟩ := ti
    rw [ht] at h
    cases ag with
    | false => exact fNth_eq h
    | true => simp only [fTake_eq] at h ⊢; exact h
def sLoadAt (C : Ctx) (h : AH) (t : TypeId) (a : AV) : Option AV :=
  match a with
  | .ptr b c => match h b with | some (.box cells) => sLoad C t cells.length c cells | _ => none
  | .dp rs c row => sLoad C t rs c row
  | _ => none
def sField (C : Ctx) (t : TypeId) (f : Nat) (a : AV) : Option AV :=
  match C.ty t with
  | some ⟨.struct fs, _, _, _, _, _⟩ => match nthF fs f, a with | some (off, ft), .agg cs => sPart C ft cs off | _, _ => none
  | _ => none
def okF (r : Res) : Option AV := match r with | .ok x => fA x | _ => none
/-- What an operation gives that only takes along, loads, names. -/
def sA (C : Ctx) (ev : Operand → AV) (h : AH) (op : Op) : Option AV :=
  match op with
  | .move x | .assign x => fA (ev x)
  | .load t a => sLoadAt C h t (ev a)
  | .nilCheck x => okF (nilA (ev x))
  | .fieldAddr t x f => okF (fieldAddrA C t f (ev x))
  | .field t x f => sField C t f (ev x)
  | .extract x i => match ev x with | .tup vs => fNth vs i | _ => none
  | .unOp .not _ x => match ev x with | .v (.bool b) => some (.v (.bool (!b))) | _ => none
  | _ => none
theorem okF_eq {r : Res} {x : AV} (h : okF r = some x) : r = .ok x := by
  unfold okF at h
  split at h
  · exact congrArg Res.ok (fA_eq h)
  · cases h
theorem sA_ok {C : Ctx} {ev : Operand → AV} {h : AH} {s : Nat} {op : Op} {x : AV} (e : sA C ev h op = some x) : opA C ev h s op = .ok x := by
  unfold sA at e
  split at e
  · exact congrArg Res.ok (fA_eq e)
  · exact congrArg Res.ok (fA_eq e)
  · rename_i t a
    show loadAtA C h t (ev a) = .ok x
    unfold sLoadAt at e; unfold loadAtA
    generalize ev a = z at e ⊢
    cases z with
    | ptr b c =>
      simp only at e ⊢
      split at e
      · rename_i h1; simp only [h1]; rw [sLoad_eq e]; rfl
      · cases e
    | dp rs c row => simp only at e ⊢; rw [sLoad_eq e]; rfl
    | _ => cases e
  · exact okF_eq e
  · exact okF_eq e
  · rename_i t y f
    show fieldA C t f (ev y) = .ok x
    unfold sField at e; unfold fieldA
    split at e
    · rename_i h1
      simp only [h1]
      split at e
      · rename_i h2 h3; simp only [h2, h3]; rw [sPart_eq e]; rfl
      · cases e
    · cases e
  · rename_i y i
    show extractA i (ev y) = .ok x
    unfold extractA
    split at e
    · rename_i h1; simp only [h1]; rw [fNth_eq e]; rfl
    · cases e
  · rename_i t y
    show unA .not (ev y) = .ok x
    split at e
    · rename_i h1; cases e; simp only [unA, h1]
    · cases e
  · cases e
/-- An operation that only takes along: its slot, and what comes into it. -/
def sO (C : Ctx) (t : Nat → AV) (h : AH) (o : Oper) : Option (Nat × AV) :=
  match o.guard, o.dst with
  | none, some d => (match sA C (evA C t) h o.op with | some x => some (d, x) | none => none)
  | _, _ => none
theorem sO_eq {C : Ctx} {t : Nat → AV} {h : AH} {o : Oper} {d : Nat} {x : AV} (e : sO C t h o = some (d, x)) : o.guard = none ∧ o.dst = some d ∧ sA C (evA C t) h o.op = some x := by
  unfold sO at e
  split at e
  · rename_i h1 h2
    split at e
    · rename_i h3; cases e; exact ⟨h1, h2, h3⟩
    · cases e
  · cases e
/-- So many such operations. -/
def sRun (C : Ctx) (h : AH) : Nat → List Oper → (Nat → AV) → Option (List Oper × (Nat → AV))
  | 0, ops, t => some (ops, t)
  | _ + 1, [], _ => none
  | m + 1, o :: ops, t => match sO C t h o with | some (d, x) => sRun C h m ops (upd t d x) | none => none
def guardF : AV → Bool → Option Bool
  | .v (.bool b), true => some b
  | .v (.bool b), false => some (!b)
  | .opt a (.v (.bool b)), true => some (a && b)
  | .opt a (.v (.bool b)), false => some (a && !b)
  | _, _ => none
theorem guardF_eq {x : AV} {pol g : Bool} (e : guardF x pol = some g) : guardA x pol = some g := by
  unfold guardF at e
  split at e <;> first | (cases e; rfl) | cases e
/-- A guarded operation that only takes along: its slot, what guards it, what its operands ask, and what comes into it. -/
def sG (C : Ctx) (t : Nat → AV) (h : AH) (all : List Oper) (o : Oper) : Option (Nat × Bool × Option Bool × AV) :=
  match o.guard, o.dst with
  | some (i, pol), some d =>
    (match (all[i]?).bind (·.dst) with
    | some e => (match guardF (t e) pol, condsO t o.op with
      | some g, none => (match sA C (evA C t) h o.op with | some x => some (d, g, none, x) | none => none)
      | some g, some c => (match sA C (evS C t o.op) h o.op with | some x => some (d, g, some c, x) | none => none)
      | none, _ => none)
    | none => none)
  | _, _ => none
/-- The slot, the guard and what the operands ask of a guarded operation. -/
def sGd (t : Nat → AV) (all : List Oper) (o : Oper) : Option (Nat × Bool × Option Bool) :=
  match o.guard, o.dst with
  | some (i, pol), some d =>
    (match (all[i]?).bind (·.dst) with
    | some e => (match guardF (t e) pol, condsO t o.op with
      | some g, none => some (d, g, none)
      | some g, some c => some (d, g, some c)
      | none, _ => none)
    | none => none)
  | _, _ => none
def fPut : Nat → List AV → List AV → (List AV → Option AH) → Option AH
  | 0, [], xs, k => k xs
  | 0, c :: cs, _ :: xs, k => fPut 0 cs xs fun l => k (c :: l)
  | 0, _ :: _, [], k => k []
  | n + 1, cs, x :: xs, k => fPut n cs xs fun l => k (x :: l)
  | _ + 1, _, [], k => k []
theorem fPut_eq : ∀ (n : Nat) (cs xs : List AV) (k : List AV → Option AH), fPut n cs xs k = k (putL n cs xs)
  | 0, [], [], k => rfl
  | 0, [], _ :: _, k => rfl
  | 0, c :: cs, _ :: xs, k => fPut_eq 0 cs xs _
  | 0, _ :: _, [], k => rfl
  | n + 1, cs, x :: xs, k => fPut_eq n cs xs _
  | _ + 1, _, [], k => rfl
theorem putL_all : ∀ (cs xs : List AV), Nat.beq cs.length xs.length = true → putL 0 cs xs = cs
  | [], [], _ => rfl
  | [], _ :: _, h => by cases h
  | c :: cs, [], h => by cases h
  | c :: cs, x :: xs, h => congrArg (c :: ·) (putL_all cs xs h)
/-- A variable's store: the memory behind it. -/
def sStA (C : Ctx) (h : AH) (ty : TypeId) (a x : AV) : Option AH :=
  match C.ty ty, cellsA x, a with
  | some ti, some cs, .ptr b c =>
    (match Nat.beq cs.length ti.sz, h b with
    | true, some (.box cells) => (match Nat.ble (c + cs.length) cells.length with
      | true => (match c, Nat.beq cs.length cells.length with
        | 0, true => some (upd h b (some (.box cs)))
        | c, _ => fPut c cs cells fun l => some (upd h b (some (.box l))))
      | false => none)
    | _, _ => none)
  | _, _, _ => none
def sSt (C : Ctx) (t : Nat → AV) (h : AH) (o : Oper) : Option AH :=
  match o.guard, o.dst, o.op with
  | none, none, .store ty a x => sStA C h ty (evA C t a) (evA C t x)
  | _, _, _ => none
/-- A new variable: its slot, its cells. -/
def sAl (C : Ctx) (t : Nat → AV) (o : Oper) : Option (Nat × List AV) :=
  match o.guard, o.dst, o.op with
  | none, some d, .alloc ty => (match zeroCellsA C ty with | some cs => some (d, cs) | none => none)
  | none, some d, .box _ x => (match cellsA (evA C t x) with | some cs => some (d, cs) | none => none)
  | _, _, _ => none
def fL : List AV → (List AV → Option (Nat × FuncId × List AV)) → Option (Nat × FuncId × List AV)
  | [], k => k []
  | x :: xs, k => (match fA x with | some y => fL xs fun l => k (y :: l) | none => none)
theorem fL_eq : ∀ {l : List AV} {k : List AV → Option (Nat × FuncId × List AV)} {r : Nat × FuncId × List AV}, fL l k = some r → k l = some r
  | [], k, r, h => h
  | x :: xs, k, r, h => by
    simp only [fL] at h
    split at h
    · rename_i y hy
      rw [fA_eq hy]; exact fL_eq (k := fun l => k (y :: l)) h
    · cases h
/-- A call: its slot, what is called, with what. -/
def sC (C : Ctx) (t : Nat → AV) (o : Oper) : Option (Nat × FuncId × List AV) :=
  match o.guard, o.dst, o.op with
  | none, some d, .call c => (match c.callee with
    | .value f => (match evA C t f with
      | .clo f first caps => fL (first ++ c.args.toList.map (evA C t) ++ caps) fun l => some (d, f, l)
      | _ => none)
    | _ => none)
  | _, _, _ => none
theorem sC_eq {C : Ctx} {t : Nat → AV} {h : AH} {s : Nat} {o : Oper} {d : Nat} {f : FuncId} {args : List AV} (e : sC C t o = some (d, f, args)) : o.guard = none ∧ o.dst = some d ∧ opA C (evA C t) h s o.op = .call f args := by
  unfold sC at e
  split at e
  · rename_i d' c h1 h2 h3
    split at e
    · rename_i g hc
      split at e
      · rename_i f' first caps hf
        have := fL_eq e
        cases this
        refine ⟨h1, h2, ?_⟩
        rw [h3]; show (match c.callee with | .builtin b => _ | .value f => _ | _ => _) = _
        rw [hc]; simp only [hf]
      · cases e
    · cases e
  · cases e
/-- An operation that gives a value: its slot, the value. -/
def sV (C : Ctx) (t : Nat → AV) (h : AH) (s : Nat) (o : Oper) : Option (Nat × AV) := match o.guard, o.dst, opA C (evA C t) h s o.op with | none, some d, .ok x => some (d, x) | _, _, _ => none
def sD (o : Oper) : Option Nat := match o.guard with | none => o.dst | _ => none
theorem sD_eq {o : Oper} {d : Nat} (h : sD o = some d) : o.guard = none ∧ o.dst = some d := by
  unfold sD at h
  split at h
  · rename_i e; exact ⟨e, h⟩
  · cases h
theorem ixT {a b : Nat} (h : a < b := by first | omega | rfl | (simp only [List.length_map, List.length_cons, List.length_nil, List.length_append, List.length_set, List.length_take, List.length_drop, List.length_replicate, List.length_range, capMax]; done) | (simp only [List.length_map, List.length_cons, List.length_nil, List.length_append, List.length_set, List.length_take, List.length_drop, List.length_replicate, List.length_range, capMax]; omega) | (simp [capMax]; done) | (simp [capMax]; omega)) : 0 ≤ (a : Int) ∧ (a : Int) < (b : Int) := ⟨Int.natCast_nonneg _, Int.ofNat_lt.2 h⟩
theorem omT {p : Prop} (h : p := by first | omega | rfl | (simp only [List.length_map, List.length_cons, List.length_nil, List.length_append, List.length_set, List.length_take, List.length_drop, List.length_replicate, List.length_range, capMax]; done) | (simp only [List.length_map, List.length_cons, List.length_nil, List.length_append, List.length_set, List.length_take, List.length_drop, List.length_replicate, List.length_range, capMax]; omega) | (simp [capMax]; done) | (simp [capMax]; omega)) : p := h
theorem r4 {q : Prop} (h : q) : True ∧ True ∧ True ∧ True ∧ q := ⟨trivial, trivial, trivial, trivial, h⟩
theorem tvT {p : Prop} (h : p := by repeat (first | exact trivial | refine ⟨trivial, ?_⟩)) : p := h
theorem rbT {p : Prop} (h : p := by repeat (first | exact trivial | refine ⟨⟨rfl, _, rfl, .refl _⟩, ?_⟩)) : p := h
theorem rcT {p : Prop} (h : p := by repeat' (first | exact trivial | constructor)) : p := h
theorem hsT {p q : Prop} (h : p → q := by intro h; first | (simp_all; done) | exact (Bool.and_eq_true_iff.1 h).1 | exact Bool.and_eq_true_iff.2 ⟨h, h⟩) : p → q := h
theorem slT {p : Prop} (h : p := by refine ⟨?_, ?_, ?_⟩; all_goals (first | exact Int.natCast_nonneg _ | decide | (apply Int.ofNat_le.2; exact omT) | (show ((_ : Nat) : Int) = ((_ : Nat) : Int); congr 1; omega) | rfl)) : p := h
/-- Slots and blocks that are weakened to what they are. -/
theorem wT {p : Prop} (h : p := by repeat (first | exact trivial | refine ⟨⟨rfl, rfl⟩, ?_⟩)) : p := h
theorem wH {p : Prop} (h : p := by repeat (first | exact trivial | refine ⟨⟨rfl, rfl, rfl⟩, ?_⟩)) : p := h
section
variable {C : Ctx} {R : FuncId → List AV → AV → Prop} {all rest ops : List Oper} {o : Oper} {j n : Nat} {t t' : Nat → AV} {h h' : AH} {K : ASt → Prop} {Q : AEx → ASt → Prop} {fn : Func} {st : ASt} {x : AV} {d : Nat}
theorem oR (m : Nat) (hx : sRun C h m ops t = some (rest, t')) (k : regA C R all rest (j + m) ⟨t', h, n⟩ K) : regA C R all ops j ⟨t, h, n⟩ K := by
  induction m generalizing ops t j with
  | zero => cases hx; exact k
  | succ m ih =>
    cases ops with
    | nil => cases hx
    | cons o ops =>
      simp only [sRun] at hx
      split at hx
      · rename_i d x e
        obtain ⟨h1, h2, h3⟩ := sO_eq e
        exact rOk h1 h2 (sA_ok h3) (ih hx (by rw [Nat.add_assoc, Nat.add_comm 1]; exact k))
      · cases hx
theorem gN {g : Bool} (hx : sG C t h all o = some (d, g, none, x)) (k : regA C R all rest (j + 1) ⟨upd t d (.opt g x), h, n⟩ K) : regA C R all (o :: rest) j ⟨t, h, n⟩ K := by
  unfold sG at hx
  split at hx
  · rename_i i pol d' h1 h2
    split at hx
    · rename_i e h3
      split at hx
      · rename_i g' h4 h5
        split at hx
        · rename_i x' h6; cases hx; exact gOk h1 h3 (guardF_eq h4) h5 h2 (sA_ok h6) k
        · cases hx
      · split at hx <;> cases hx
      · cases hx
    · cases hx
  · cases hx
theorem gS {g c : Bool} (hx : sG C t h all o = some (d, g, some c, x)) (hs : g = true → c = true) (k : regA C R all rest (j + 1) ⟨upd t d (.opt g x), h, n⟩ K) : regA C R all (o :: rest) j ⟨t, h, n⟩ K := by
  unfold sG at hx
  split at hx
  · rename_i i pol d' h1 h2
    split at hx
    · rename_i e h3
      split at hx
      · split at hx <;> cases hx
      · rename_i g' c' h4 h5
        split at hx
        · rename_i x' h6; cases hx; exact gOkS h1 h3 (guardF_eq h4) h5 hs h2 (sA_ok h6) k
        · cases hx
      · cases hx
    · cases hx
  · cases hx
theorem sGd_eq {g : Bool} {c : Option Bool} (hx : sGd t all o = some (d, g, c)) : ∃ i pol e, o.guard = some (i, pol) ∧ (all[i]?).bind (·.dst) = some e ∧ guardA (t e) pol = some g ∧ condsO t o.op = c ∧ o.dst = some d := by
  unfold sGd at hx
  split at hx
  · rename_i i pol d' h1 h2
    split at hx
    · rename_i e h3
      split at hx
      · rename_i g' h4 h5; cases hx; exact ⟨i, pol, e, h1, h3, guardF_eq h4, h5, h2⟩
      · rename_i g' c' h4 h5; cases hx; exact ⟨i, pol, e, h1, h3, guardF_eq h4, h5, h2⟩
      · cases hx
    · cases hx
  · cases hx
theorem gB {g : Bool} (hg : sGd t all o = some (d, g, none)) (hx : opA C (evA C t) h (n + j) o.op = .ok x) (k : regA C R all rest (j + 1) ⟨upd t d (.opt g x), h, n⟩ K) : regA C R all (o :: rest) j ⟨t, h, n⟩ K := by
  obtain ⟨i, pol, e, h1, h2, h3, h4, h5⟩ := sGd_eq hg; exact gOk h1 h2 h3 h4 h5 hx k
theorem gBS {g c : Bool} (hg : sGd t all o = some (d, g, some c)) (hs : g = true → c = true) (hx : opA C (evS C t o.op) h (n + j) o.op = .ok x) (k : regA C R all rest (j + 1) ⟨upd t d (.opt g x), h, n⟩ K) : regA C R all (o :: rest) j ⟨t, h, n⟩ K := by
  obtain ⟨i, pol, e, h1, h2, h3, h4, h5⟩ := sGd_eq hg; exact gOkS h1 h2 h3 h4 hs h5 hx k
theorem rAl (s : Nat) {cs : List AV} (hs : n + j = s) (hx : sAl C t o = some (d, cs)) (k : regA C R all rest (j + 1) ⟨upd t d (.ptr s 0), upd h s (some (.box cs)), n⟩ K) : regA C R all (o :: rest) j ⟨t, h, n⟩ K := by
  subst hs
  unfold sAl at hx
  split at hx
  · rename_i d' ty h1 h2 h3
    split at hx
    · rename_i cs' h4; cases hx
      exact rFx (p := True) h1 h2 (by rw [h3]; simp only [opA, h4]) trivial k
    · cases hx
  · rename_i d' ty y h1 h2 h3
    split at hx
    · rename_i cs' h4; cases hx
      exact rFx (p := True) h1 h2 (by rw [h3]; simp only [opA, h4]) trivial k
    · cases hx
  · cases hx
theorem sStA_eq {ty : TypeId} {a y : AV} {h' : AH} (e : sStA C h ty a y = some h') : (match C.ty ty, cellsA y with
    | some ti, some cs => (match Nat.beq cs.length ti.sz with
      | true => (match a with
        | .ptr b c => (match h b with | some (.box cells) => (match Nat.ble (c + cs.length) cells.length with | true => Res.fx True .any (upd h b (some (.box (putL c cs cells)))) | false => .bad) | _ => .bad)
        | _ => .bad)
      | false => .bad)
    | _, _ => .bad) = .fx True .any h' := by
  unfold sStA at e
  split at e
  · rename_i ti cs b c h1 h2
    split at e
    · rename_i cells h3 h4
      split at e
      · rename_i h5
        simp only [h1, h2, h3, h4, h5]
        split at e
        · rename_i h6; cases e; rw [putL_all _ _ h6]
        · rw [fPut_eq] at e; cases e; rfl
      · cases e
    · cases e
  · cases e
theorem rSt (hx : sSt C t h o = some h') (k : regA C R all rest (j + 1) ⟨t, h', n⟩ K) : regA C R all (o :: rest) j ⟨t, h, n⟩ K := by
  unfold sSt at hx
  split at hx
  · rename_i ty a y h1 h2 h3
    have e := sStA_eq hx
    refine rFx0 (p := True) (x := .any) h1 h2 ?_ trivial k
    rw [h3]
    simp only [opA]
    split at e
    · rename_i ti cs q1 q2
      simp only [q1, q2]
      split at e
      · rename_i q3
        simp only [q3]
        split at e
        · rename_i b c q4; simp only [q4]; exact e
        · cases e
      · cases e
    · cases e
  · cases hx
theorem rSx (s : Nat) (cs : List AV) (hg : o.guard = none) (hd : o.dst = none) (hx : opA C (evA C t) h (n + j) o.op = .fx True .any (upd h s (some (.box cs)))) (k : regA C R all rest (j + 1) ⟨t, upd h s (some (.box cs)), n⟩ K) : regA C R all (o :: rest) j ⟨t, h, n⟩ K := rFx0 hg hd hx trivial k
theorem rCl {f : FuncId} {args : List AV} (hx : sC C t o = some (d, f, args)) (hf : noOwnL args = true ∨ (flatA x = true ∧ lenOkL h args)) (hc : R f (datL h args) x) (k : regA C R all rest (j + 1) ⟨upd t d x, h, n⟩ K) (hcl : closedL (datL h args) = true := by exact rfl) (hr : closedA x = true := by exact rfl) : regA C R all (o :: rest) j ⟨t, h, n⟩ K := by
  obtain ⟨h1, h2, h3⟩ := sC_eq (h := h) (s := n + j) hx
  exact rCall h1 h2 h3 hcl hf hr hc k
theorem rV (x : AV) (hx : sV C t h (n + j) o = some (d, x)) (k : regA C R all rest (j + 1) ⟨upd t d x, h, n⟩ K) : regA C R all (o :: rest) j ⟨t, h, n⟩ K := by
  unfold sV at hx
  split at hx
  · rename_i h1 h2 h3; cases hx; exact rOk h1 h2 h3 k
  · cases hx
theorem rW (x : AV) (hd : sD o = some d) (hx : opA C (evA C t) h (n + j) o.op = .ok x) (k : regA C R all rest (j + 1) ⟨upd t d x, h, n⟩ K) : regA C R all (o :: rest) j ⟨t, h, n⟩ K := rOk (sD_eq hd).1 (sD_eq hd).2 hx k
theorem nW {p : Prop} (x : AV) (hd : sD o = some d) (hx : opA C (evA C t) h (n + j) o.op = .need p x) (hp : p) (k : regA C R all rest (j + 1) ⟨upd t d x, h, n⟩ K) : regA C R all (o :: rest) j ⟨t, h, n⟩ K := rNeed (sD_eq hd).1 (sD_eq hd).2 hx hp k
theorem rCi {f : FuncId} {args : List AV} (hx : sC C t o = some (d, f, args)) (hc : R f (datL h args) x) (k : regA C R all rest (j + 1) ⟨upd t d x, h, n⟩ K) (hcl : closedL (datL h args) = true := by exact rfl) (hr : closedA x = true := by exact rfl) (hf : noOwnL args = true := by exact rfl) : regA C R all (o :: rest) j ⟨t, h, n⟩ K := rCl hx (.inl hf) hc k hcl hr
theorem rIx {rows : List (List AV)} {i : Int} {f : List AV → Option AV} (row : List AV) (x : AV) (hd : sD o = some d) (hx : opA C (evA C t) h (n + j) o.op = .idx rows i f) (hi : rows[i.toNat]? = some row) (hf : f row = some x) (k : regA C R all rest (j + 1) ⟨upd t d x, h, n⟩ K) (h0 : 0 ≤ i := by exact Int.natCast_nonneg _) : regA C R all (o :: rest) j ⟨t, h, n⟩ K := rIdx row (sD_eq hd).1 (sD_eq hd).2 hx ⟨h0, hi⟩ hf k
end
theorem cSR {C : Ctx} {R : FuncId → List AV → AV → Prop} {Q : AEx → ASt → Prop} {st : ASt} {id : Nat} {ops : Array Oper} {dr : Bool} {b : Code} (k : regA (C.noHif dr) R ops.toList ops.toList 0 st (fun st' => codeA C R b st' Q)) (hd : (dr && lateR ops.toList) = false := by kernel_rfl) : codeA C R (.seq (.region id ops dr) b) st Q := cSeq (cReg rfl k hd)
theorem cRg {C : Ctx} {R : FuncId → List AV → AV → Prop} {Q : AEx → ASt → Prop} {st : ASt} {id : Nat} {ops : Array Oper} {dr : Bool} (k : regA (C.noHif dr) R ops.toList ops.toList 0 st (Q .normal)) (hd : (dr && lateR ops.toList) = false := by kernel_rfl) : codeA C R (.region id ops dr) st Q := cReg rfl k hd
end Go.Proofs.YtpefnjbmbfdmmaaDoor
