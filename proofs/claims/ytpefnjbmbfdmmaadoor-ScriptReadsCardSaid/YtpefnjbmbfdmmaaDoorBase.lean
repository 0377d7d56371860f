/- Small words for memory and for the last step of a law: a slice that reads as a row of cells, what is kept where only new blocks come, and the step from a call's contract to a row's post. -/
import Derived.WalkKit
import Derived.WalkSpells
import Derived.WalkLawsBesides
import Derived.BigQuiet
import Derived.Deep.QuietTactic
import Derived.Deep.Slices
import Derived.Deep.Fields
import Derived.Deep.AppendLies
import Derived.ProofKit
import Derived.Lib.Hide
import Derived.OpenShut
namespace Go.Proofs.YtpefnjbmbfdmmaaDoor
open Go.RowKit Go.ChangeShapes Go.WideShapes Go.ChangeAt

/-- What type of cells a block holds. -/
def elemOf (w : World) (b : Nat) : Option TypeId := match w.heap[b]? with | some (.cells _ e _) => some e | _ => none

theorem lt_of_cell {w : World} {a : Addr} {v : Value} (h : w.cell? a = some v) : a.block < w.heap.size := World.block_lt_of_cell? w a h

/-- The slice value v has n elements of size cells each, which read xs; its block lies below B0 or holds cells of type e. -/
def Sl (B0 : Nat) (e : TypeId) (size : Nat) (w : World) (v : Value) (n : Nat) (xs : List Value) : Prop :=
  ∃ A c, v = .slice A n c ∧ n ≤ c ∧ c ≤ maxLen ∧ xs.length = n * size ∧
    (0 < n → ∃ b off, A = some ⟨b, off, none⟩ ∧ (b < B0 ∨ elemOf w b = some e) ∧ ∀ j u, xs[j]? = some u → w.cell? ⟨b, off + j, none⟩ = some u)

section
variable {B0 : Nat} {e : TypeId} {size : Nat} {w w' : World} {v : Value} {n : Nat} {xs : List Value}

theorem elemOf_below {b : Nat} (hb : Below w.heap.size w w') (h : elemOf w b = some e) : elemOf w' b = some e := by
  have hlt : b < w.heap.size := by
    rcases Nat.lt_or_ge b w.heap.size with hlt | hge
    · exact hlt
    · unfold elemOf at h; rw [Array.getElem?_eq_none hge] at h; simp at h
  unfold elemOf at h ⊢
  rw [hb.block b hlt]
  exact h

theorem Sl.below (h : Sl B0 e size w v n xs) (hs : 0 < size) (hb : Below w.heap.size w w') : Sl B0 e size w' v n xs := by
  obtain ⟨A, c, rfl, h1, h2, h3, h4⟩ := h
  refine ⟨A, c, rfl, h1, h2, h3, fun hn => ?_⟩
  obtain ⟨b, off, rfl, hbe, hc⟩ := h4 hn
  refine ⟨b, off, rfl, hbe.imp id (elemOf_below hb), fun j u hu => ?_⟩
  have := hc j u hu
  rw [← this]
  exact hb.cell (lt_of_cell this)

theorem Sl.nil (B0 : Nat) (e : TypeId) (size : Nat) (w : World) : Sl B0 e size w (.slice none 0 0) 0 [] := ⟨none, 0, rfl, Nat.le_refl _, Nat.zero_le _, by simp, fun h => absurd h (by omega)⟩

theorem Sl.of_own {base : Nat} (h : w.ownsRow base e size v n xs) (hs : 0 < size) : Sl B0 e size w v n xs := by
  obtain ⟨hl, ⟨rfl, rfl⟩ | ⟨g, cap, cur, rfl, hg, hh, hn, hm, hsz, hx⟩⟩ := h
  · have : xs = [] := List.eq_nil_of_length_eq_zero (by simpa using hl)
    subst this
    exact Sl.nil _ _ _ _
  · refine ⟨_, cap, rfl, hn, hm, hl, fun hpos => ⟨g, 0, rfl, .inr (by simp [elemOf, hh]), fun j u hu => ?_⟩⟩
    subst hx
    rw [List.getElem?_take] at hu
    split at hu
    · simp only [World.cell?, hh, Nat.zero_add]
      simpa using hu
    · cases hu

theorem Sl.drew (h : Sl B0 e size w v n xs) : Sl B0 e size w.drew v n xs := h
theorem Sl.drewN (h : Sl B0 e size w v n xs) (k : Nat) : Sl B0 e size (w.drewN k) v n xs := h
end

theorem _root_.Go.World.ownsRow.below' {w w' : World} {base : Nat} {e : TypeId} {size : Nat} {v : Value} {n : Nat} {xs : List Value} (h : w.ownsRow base e size v n xs) (hb : Below w.heap.size w w') : w'.ownsRow base e size v n xs := by
  obtain ⟨h1, h2⟩ := h
  refine ⟨h1, h2.imp id ?_⟩
  rintro ⟨g, cap, cur, hv, hg, hh, r⟩
  have hlt : g < w.heap.size := by
    rcases Nat.lt_or_ge g w.heap.size with hlt | hge
    · exact hlt
    · rw [Array.getElem?_eq_none hge] at hh; cases hh
  exact ⟨g, cap, cur, hv, hg, (hb.block g hlt).trans hh, r⟩

theorem _root_.Go.RowKit.Below.and {a b c : World} (h : Below a.heap.size a b) (k : Below b.heap.size b c) : Below a.heap.size a c := h.trans (k.mono h.size)
theorem below_drewN' {B : Nat} {a w : World} (h : Below B a w) (n : Nat) : Below B a (w.drewN n) := ⟨h.os, h.tape, h.output, h.size, h.block⟩
theorem below_self (w : World) : Below w.heap.size w w := Below.refl _ _
theorem below_draws (w : World) (n : Nat) : Below w.heap.size w (w.drewN n) := below_drewN' (Below.refl _ _) n

theorem below_all {w : World} (o : Obj) : Below w.heap.size w (w.alloc o) := (Below.refl _ _).alloc (Nat.le_refl _) _

/-! ### make and append, short -/
/-- What a walk wants of a slice type t and its element type e. -/
structure EInfo (P : Program) (t e : TypeId) (z : Value) (size bytes : Nat) : Prop where
  ht : P.underlying t = some (.slice e)
  hi : (P.info? e).map (fun i => (i.zero, i.size, i.bytes)) = some (some z, size, bytes)
  hzs : z.cells.size = size
  hsz : 0 < size
  hby : bytes ≤ 1000

section
variable {P : Program} {w : World} {ops : Array Oper} {rest : List Oper} {o : Oper} {a : Act} {Q : Exit → Act → World → Prop} {t e : TypeId} {z : Value} {size bytes : Nat}

theorem below_of_grown {base : Nat} {v : Value} {n : Nat} {xs : List Value} {w' : World} (hown : w.ownsRow base e size v n xs) (hg : w.grownBy w' v.ownBlock) (hbase : base ≤ w.heap.size) : Below base w w' :=
  (Below.refl _ _).grown hg hbase (fun q hq => (hown.lt q hq).1)

/-- make([]T, 0, n) -/
theorem wpList_mk0 (E : EInfo P t e z size bytes) (hgd : o.guard = none) (l c : Operand) (hop : o.op = Op.makeSlice t l c) (n : Nat) (hn : n ≤ 1000000) (kl kc : IntKind) (hl : a.eval l = .int kl 0) (C : Int) (hc : a.eval c = .int kc C) (hC : C = n)
    (h : ∀ w', w'.ownsRow w.heap.size e size (.slice (some ⟨w.heap.size, 0, none⟩) 0 n) 0 [] → Below w.heap.size w w' → wpList P ops Q rest (a.put o.dst (.slice (some ⟨w.heap.size, 0, none⟩) 0 n)) w') : wpList P ops Q (o :: rest) a w := by
  obtain ⟨i, h1, h2, h3, h4⟩ := info_parts E.hi
  have hb : i.bytes * n ≤ 281474976710656 := by rw [h4]; exact Nat.le_trans (Nat.mul_le_mul E.hby hn) (by omega)
  exact wpList_make_own w hgd l c t hop w.heap.size e i z size E.ht h1 h2 h3 kl kc C n hl hc hC hb (by unfold maxLen; omega) (Nat.le_refl _) fun w' r1 r2 =>
    h w' r1 ((Below.refl _ _).grown r2 (Nat.le_refl _) (fun _ e => by cases e))

/-- make([]T, n) -/
theorem wpList_mkn (E : EInfo P t e z size bytes) (hgd : o.guard = none) (l c : Operand) (hop : o.op = Op.makeSlice t l c) (n : Nat) (hn : n ≤ 1000000) (kl kc : IntKind) (L : Int) (hl : a.eval l = .int kl L) (hL : L = n) (C : Int) (hc : a.eval c = .int kc C) (hC : C = n)
    (h : ∀ w', w'.ownsRow w.heap.size e size (.slice (some ⟨w.heap.size, 0, none⟩) n n) n (madeCells z.cells (n * size)).toList → Below w.heap.size w w' → wpList P ops Q rest (a.put o.dst (.slice (some ⟨w.heap.size, 0, none⟩) n n)) w') : wpList P ops Q (o :: rest) a w := by
  obtain ⟨i, h1, h2, h3, h4⟩ := info_parts E.hi
  have hb : i.bytes * n ≤ 281474976710656 := by rw [h4]; exact Nat.le_trans (Nat.mul_le_mul E.hby hn) (by omega)
  exact wpList_make_full w hgd l c t hop w.heap.size e i z size E.ht h1 h2 h3 kl kc L C n hl hc hL hC hb (by unfold maxLen; omega) (Nat.le_refl _) fun w' r1 r2 =>
    h w' r1 ((Below.refl _ _).grown r2 (Nat.le_refl _) (fun _ e => by cases e))

/-- append(s, x), x laid in a block of its own, the last one of the world. -/
theorem wpList_app1g {cs : Array Value} (E : EInfo P t e z size bytes) (hgd : o.guard = none) (s x : Operand) (ho : o.op = .call { callee := .builtin .append, args := #[s, x], argTypes := #[t, t] })
    (base : Nat) (v : Value) (n : Nat) (xs : List Value) (hs : a.eval s = v) (hown : w.ownsRow base e size v n xs) (hn : n ≤ 1000000) (hbase : base ≤ w.heap.size)
    (G : Nat) (hG : G = w.heap.size) (hx : a.eval x = .slice (some ⟨G, 0, none⟩) 1 1) (hcs : cs.toList.length = size) (h1 : cs.toList.all (·.oneCell') = true)
    (h : ∀ g cap w', w'.ownsRow base e size (.slice (some ⟨g, 0, none⟩) (n + 1) cap) (n + 1) (xs ++ cs.toList) → Below base (w.alloc (.cells cs e)) w' → (w.alloc (.cells cs e)).grownBy w' v.ownBlock → wpList P ops Q rest (a.put o.dst (.slice (some ⟨g, 0, none⟩) (n + 1) cap)) w') : wpList P ops Q (o :: rest) a (w.alloc (.cells cs e)) := by
  subst hG
  obtain ⟨i, hi1, h2, h3, h4⟩ := info_parts E.hi
  have hb : (n + 1) * bytes ≤ 140737488355328 := Nat.le_trans (Nat.mul_le_mul (show n + 1 ≤ 1000001 by omega) E.hby) (by omega)
  exact wpList_append_lies (w.alloc (.cells cs e)) hgd s x t ho base e i z size bytes E.ht hi1 h2 h3 h4 E.hzs E.hsz v n xs hs (hown.alloc _) ⟨w.heap.size, 0, none⟩ 1 1 cs.toList hx (by rw [hcs]; simp) (World.news_of_block (heap_alloc_new w _)) (fun u hu => List.all_eq_true.1 h1 u hu) (by omega) (by unfold maxLen; omega) hb (by simp; omega) _ rfl
    fun g cap w' a1 a2 a3 a4 => h g cap w' a1 (below_of_grown (hown.alloc _) a2 (by simp; omega)) a2
theorem wpList_app1 {cs : Array Value} (E : EInfo P t e z size bytes) (hgd : o.guard = none) (s x : Operand) (ho : o.op = .call { callee := .builtin .append, args := #[s, x], argTypes := #[t, t] })
    (base : Nat) (v : Value) (n : Nat) (xs : List Value) (hs : a.eval s = v) (hown : w.ownsRow base e size v n xs) (hn : n ≤ 1000000) (hbase : base ≤ w.heap.size)
    (G : Nat) (hG : G = w.heap.size) (hx : a.eval x = .slice (some ⟨G, 0, none⟩) 1 1) (hcs : cs.toList.length = size) (h1 : cs.toList.all (·.oneCell') = true)
    (h : ∀ g cap w', w'.ownsRow base e size (.slice (some ⟨g, 0, none⟩) (n + 1) cap) (n + 1) (xs ++ cs.toList) → Below base (w.alloc (.cells cs e)) w' → wpList P ops Q rest (a.put o.dst (.slice (some ⟨g, 0, none⟩) (n + 1) cap)) w') : wpList P ops Q (o :: rest) a (w.alloc (.cells cs e)) :=
  wpList_app1g E hgd s x ho base v n xs hs hown hn hbase G hG hx hcs h1 fun g cap w' a1 a2 _ => h g cap w' a1 a2
end

/-- min of a length and a number, under a name of its own. -/
theorem run_min_to (P : Program) (n k m : Nat) (K : Int) (hK : K = k) (hm : m = min n k) : ∀ (ts : Array TypeId) (t : TypeId) (w : World), (Builtin.min_ ts t #[.int .i64 (n : Int), .int .i64 K]).run P w = .ok (.int .i64 (m : Int)) w := by
  intro ts t w
  subst hK
  rw [run_min_int2]
  have : (if (k : Int) < (n : Int) then (k : Int) else (n : Int)) = (m : Int) := by
    subst hm
    split <;> omega
  rw [this]

/-! ### The last step of a law -/
section
variable {H : Type} {enc : TypeId × Value → H} {P : Program}
theorem trodAll_below (hl : laidOutB P = true) {W W' : World} (hb : Below W.heap.size W W') : ∀ (ts : List TypeId) (vs : List Value) (ds : List (DataW H)) (ps : List MemPlace),
    (∀ t ∈ ts, P.readableRec t = true ∧ t < P.types.size) → (∀ x ∈ ps, x.block < W.heap.size) → DataW.TrodAll enc P W 0 (fun _ => true) true ts vs ds ps →
    DataW.TrodAll enc P W' 0 (fun b => decide (b < W.heap.size)) true ts vs ds ps
  | [], vs, ds, ps, _, _, h => by
    cases vs <;> cases ds <;> simp_all [DataW.TrodAll]
  | t :: ts, vs, ds, ps, ht, hp, h => by
    obtain ⟨v0, vs0, d0, ds0, p0, q0, rfl, rfl, rfl, h0, r0⟩ := trodAll_cons h
    refine trodAll_cons_mk (Below.trod hl (ht t (by simp)).1 (ht t (by simp)).2 h0 hb fun x hx => hp x (by simp [hx])) ?_
    exact trodAll_below hl hb ts vs0 ds0 q0 (fun t' h' => ht t' (by simp [h'])) (fun x hx => hp x (by simp [hx])) r0

/-- A law's post: true comes back, and of what was there nothing has turned. -/
theorem law_post {f : Func} {s : ChangeSpec} {apart fresh handsOn : Bool} {W W' : World} {args : Array Value} {ds gs : List (DataW H)} {before pa pv : List MemPlace} {tb : TypeId}
    (hl : laidOutB P = true) (htb0 : (f.params.toList.all fun t => P.readableRec t && decide (t < P.types.size)) = true)
    (hW : DataW.Whole enc P f.params.toList s.vars apart W args.toList ds gs before)
    (hA : DataW.TrodAll enc P W 0 (fun _ => true) true f.params.toList args.toList ds pa)
    (hvars : s.vars = []) (hgs : gs = [])  (hps : before = pa ++ pv) (hpv : pv = [])
    (hr : f.resultTypes = #[tb]) (htb : P.underlying tb = some .bool)
    (e1 : (s.fn H (ds ++ gs)).results = [.lit (.bool true)]) (e2 : (s.fn H (ds ++ gs)).args = ds) (e3 : (s.fn H (ds ++ gs)).vars = [])
    (hb : Below W.heap.size W W') : s.post enc P f apart fresh handsOn false W args (.bool true) W' := by
  subst hpv
  have hts : ∀ t ∈ f.params.toList, P.readableRec t = true ∧ t < P.types.size := fun t ht => by
    have := List.all_eq_true.1 htb0 t ht
    simpa using this
  have hlt : ∀ p ∈ pa, p.block < W.heap.size := fun p hp => hW.lt p (by rw [hps]; simpa using hp)
  have hold : ∀ p ∈ before, (fun b => decide (b < W.heap.size)) p.block = true := fun p hp => by
    have := hW.lt p hp
    simpa using this
  refine ⟨ds, gs, before, [], pa, [], hW, ?_, ?_, ?_, ?_, fun h => by cases h⟩
  · rw [e1, hr]; exact trodAll_mk1 (shut_bool htb true)
  · rw [e2]; exact trodAll_below hl hb _ _ _ _ hts hlt hA
  · rw [e3, hvars]; exact (by rfl)
  · exact World.keptBut_mono (fun p hp => ⟨hp, by rw [hps] at hp; simpa using hp⟩) (hb.frame (· ∈ before))
end
end Go.Proofs.YtpefnjbmbfdmmaaDoor
