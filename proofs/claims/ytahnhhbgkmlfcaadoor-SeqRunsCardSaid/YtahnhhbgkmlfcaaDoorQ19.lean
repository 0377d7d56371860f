/- The second machine: what is handed to a law is what its type says. -/
import Derived.Test.YtahnhhbgkmlfcaaDoorQ9
import Derived.DataReads
import Derived.Deep.Strs
import Derived.WideShapes
import Derived.Test.YtahnhhbgkmlfcaaDoorQ18
namespace Go.Proofs.YtahnhhbgkmlfcaaDoor
open Go.RowKit Go.ChangeShapes Go.WideShapes Go.ChangeAt Go.Deep

/-- Cells as a variable's type says. -/
inductive TyV (P : Program) : TypeId → List AV → Prop
  | bool {t : TypeId} (h : P.underlying t = some .bool) (b : Bool) : TyV P t [.v (.bool b)]
  | int {t : TypeId} {k : IntKind} (h : P.underlying t = some (.int k)) (n : Int) (hn : (Lit.int k n).wf = true) : TyV P t [.v (.int k n)]
  | string {t : TypeId} (h : P.underlying t = some .string) (s : ByteArray) (hs : s.size ≤ maxLen) : TyV P t [.v (.string s)]
  | slice {t e : TypeId} (h : P.underlying t = some (.slice e)) (rows : List (List AV)) (hl : rows.length ≤ maxLen) (hr : ∀ row ∈ rows, TyV P e row) (hrs : ∀ row ∈ rows, row.length = P.cellsOf e) : TyV P t [.sl (P.cellsOf e) rows false]
  | struct {t : TypeId} {fs : Array Field} (h : P.underlying t = some (.struct fs)) (parts : Nat → List AV) (hp : ∀ (j : Nat) f, fs[j]? = some f → TyV P f.type (parts j)) : TyV P t ((List.range fs.size).flatMap parts)
  | array {t e : TypeId} {n : Nat} (h : P.underlying t = some (.array n e)) (parts : Nat → List AV) (hp : ∀ j, j < n → TyV P e (parts j)) : TyV P t ((List.range n).flatMap parts)

/-- Offsets that run on. -/
def runsF (P : Program) : Nat → List Field → Option Nat
  | o, [] => some o
  | o, f :: fs => match Nat.beq f.offset o with | true => runsF P (o + P.cellsOf f.type) fs | false => none
/-- Types of numbers, strings, slices, structs, arrays; their layout. -/
def plainT (P : Program) : Nat → TypeId → Bool
  | 0, _ => false
  | d + 1, t => match P.underlying t with
    | some .bool | some (.int _) | some .string => true
    | some (.slice e) => Nat.blt 0 (P.cellsOf e) && plainT P d e
    | some (.struct fs) => (match runsF P 0 fs.toList with | some n => Nat.beq n (P.cellsOf t) | none => false) && fs.toList.all (fun f => plainT P d f.type)
    | some (.array n e) => Nat.beq (n * P.cellsOf e) (P.cellsOf t) && plainT P d e
    | _ => false

section
variable {H : Type} {enc : TypeId × Value → H} {P : Program} {w : World} {base : Nat} {spare : Nat → Bool} {held : Bool}

/-- What is said of cells. -/
structure Opened (P : Program) (w : World) (t : TypeId) (cs : List AV) (vals : List Value) : Prop where
  rep : RepL (· < w.heap.size) w noB cs vals
  one : ∀ u ∈ vals, u.oneCell' = true
  ty : TyV P t cs

theorem repL_flat {S : Nat → Prop} {β : Bt} : ∀ (n : Nat) (A : Nat → List AV) (V : Nat → List Value), (∀ i, i < n → RepL S w β (A i) (V i)) → RepL S w β ((List.range n).flatMap A) ((List.range n).flatMap V)
  | 0, _, _, _ => by simpa using RepL.nil S w β
  | n + 1, A, V, h => by
    rw [List.range_succ, List.flatMap_append, List.flatMap_append]
    have ih := repL_flat n A V fun i hi => h i (by omega)
    have h1 := h n (by omega)
    simp only [List.flatMap_cons, List.flatMap_nil, List.append_nil]
    refine ⟨by simp [ih.1, h1.1], fun i a u ha hu => ?_⟩
    rcases Nat.lt_or_ge i ((List.range n).flatMap A).length with k | k
    · rw [List.getElem?_append_left k] at ha
      rw [List.getElem?_append_left (by rw [← ih.1]; exact k)] at hu
      exact ih.2 i a u ha hu
    · rw [List.getElem?_append_right k] at ha
      rw [List.getElem?_append_right (by rw [← ih.1]; exact k), ← ih.1] at hu
      exact h1.2 _ a u ha hu

theorem runs_flat : ∀ (fs : List Field) (o n : Nat) (vals : List Value), runsF P o fs = some n → o ≤ vals.length → n ≤ vals.length → o ≤ n ∧
    (List.range fs.length).flatMap (fun j => match (fs[j]? : Option Field) with | some f => (vals.drop (Field.offset f)).take (P.cellsOf (Field.type f)) | none => []) = (vals.drop o).take (n - o)
  | [], o, n, vals, h, _, _ => by
    simp only [runsF, Option.some.injEq] at h; subst h; simp
  | f :: fs, o, n, vals, h, ho, hn => by
    simp only [runsF] at h
    split at h
    · rename_i hb
      have hb := Nat.eq_of_beq_eq_true hb
      have hle : o + P.cellsOf f.type ≤ n := by
        have : ∀ (fs : List Field) (o n : Nat), runsF P o fs = some n → o ≤ n := by
          intro fs
          induction fs with
          | nil => intro o n h; simp only [runsF, Option.some.injEq] at h; omega
          | cons f fs ih =>
            intro o n h
            simp only [runsF] at h
            split at h
            · have := ih _ _ h; omega
            · cases h
        exact this fs _ _ h
      obtain ⟨h1, h2⟩ := runs_flat fs (o + P.cellsOf f.type) n vals h (by omega) hn
      refine ⟨by omega, ?_⟩
      rw [List.length_cons, List.range_succ_eq_map, List.flatMap_cons, List.flatMap_map]
      simp only [List.getElem?_cons_zero, Function.comp_def, List.getElem?_cons_succ]
      rw [h2, hb]
      have : n - o = P.cellsOf f.type + (n - (o + P.cellsOf f.type)) := by omega
      rw [this, List.take_add, List.drop_drop]
    · cases h

theorem segs_flat (vals : List Value) (sz : Nat) : ∀ n, n * sz ≤ vals.length → (List.range n).flatMap (fun i => (vals.drop (i * sz)).take sz) = vals.take (n * sz)
  | 0, _ => by simp
  | n + 1, h => by
    rw [Nat.add_mul, Nat.one_mul] at h
    rw [List.range_succ, List.flatMap_append, segs_flat vals sz n (by omega), Nat.add_mul, Nat.one_mul, List.take_add]
    simp

theorem trod_opened : ∀ (D fuel : Nat) (t : TypeId) (vals : List Value) (x : DataW H × List MemPlace), DataW.trod enc P w base spare held fuel t vals = some x → plainT P D t = true → ∃ cs, Opened P w t cs vals
  | 0, _, _, _, _, _, h => by simp [plainT] at h
  | D + 1, fuel, t, vals, x, h, hp => by
    have single : ∀ (a : AV) (u : Value), Rep (· < w.heap.size) w noB a u → u.oneCell' = true → TyV P t [a] → Opened P w t [a] [u] := fun a u h1 h2 h3 => ⟨.cons h1 (.nil _ _ _), fun v hv => by simp at hv; subst hv; exact h2, h3⟩
    unfold plainT at hp
    cases hu : P.underlying t with
    | none => rw [hu] at hp; cases hp
    | some d =>
      rw [hu] at hp
      cases d <;> simp only [Bool.false_eq_true] at hp <;> try (cases hp; done)
      case bool =>
        obtain ⟨b, rfl, _⟩ := DataW.trod_bool hu h
        exact ⟨_, single _ _ (.v _) rfl (.bool hu b)⟩
      case int k =>
        obtain ⟨n, rfl, _, hw⟩ := DataW.trod_int hu h
        exact ⟨_, single _ _ (.v _) rfl (.int hu n hw)⟩
      case string =>
        obtain ⟨s, rfl, _, hs⟩ := DataW.trod_string hu h
        exact ⟨_, single _ _ (.v _) rfl (.string hu s hs)⟩
      case slice e =>
        simp only [Bool.and_eq_true] at hp
        obtain ⟨hc0, hp⟩ := hp
        have hc0 : 0 < P.cellsOf e := Nat.le_of_ble_eq_true hc0
        rcases DataW.trod_slice hu h with ⟨rfl, _⟩ | ⟨a, len, cap, elems, rest, n, rfl, rfl, _, hb, hl, hm, he, hel, _⟩
        · exact ⟨_, single (.sl (P.cellsOf e) [] false) _ (.sl _ [] false none 0 0 0 (fun _ _ => .bool false) (by simp) (by simp) (fun h => by cases h) (fun _ h => by simp at h) (fun h => by simp at h) (fun i row j a h => by simp at h) (fun _ _ => rfl) (fun i row j a h => by simp at h)) rfl (.slice hu [] (by simp) (fun _ h => by simp at h) (fun _ h => by simp at h))⟩
        · have row : ∀ i, ∃ cs us, i < len → Opened P w e cs us ∧ us.length = P.cellsOf e ∧ ∀ (j : Nat), j < P.cellsOf e → w.cell? ((a.add (i * P.cellsOf e)).add j) = us[j]? := by
            intro i
            by_cases hi : i < len
            · have h1 := hel i hi
              have h2 : elems[i]? = some (elems[i]'(by omega)) := List.getElem?_eq_getElem (by omega)
              rw [h2, Option.bind_eq_some_iff] at h1
              obtain ⟨us, g1, g2⟩ := h1
              obtain ⟨cs, hcs⟩ := trod_opened D n e us _ g2 hp
              unfold World.cells? at g1
              split at g1
              · have l1 : us.length = P.cellsOf e := by simpa using mapM_some_length g1
                exact ⟨cs, us, fun _ => ⟨hcs, l1, fun j hj => mapM_some_get g1 j j (by simp [hj])⟩⟩
              · cases g1
            · exact ⟨[], [], fun h => absurd h hi⟩
          obtain ⟨A, hA⟩ := Classical.axiomOfChoice row
          obtain ⟨V, hV⟩ := Classical.axiomOfChoice hA
          have lenA : ∀ i, i < len → (A i).length = P.cellsOf e := fun i hi => (hV i hi).1.rep.1.trans (hV i hi).2.1
          have spot : ∀ i, i < len → 0 < P.cellsOf e → a.spot = none ∨ i * P.cellsOf e ≠ 0 := by
            intro i hi h0
            by_cases hz : i * P.cellsOf e = 0
            · left
              have h1 := (hV i hi).2.2 0 h0
              have h2 : (V i)[0]? = some ((V i)[0]'(by rw [(hV i hi).2.1]; exact h0)) := List.getElem?_eq_getElem _
              rw [h2] at h1
              simp only [Addr.add, hz, if_true, World.cell?] at h1
              split at h1
              · cases hs : a.spot <;> simp [hs] at h1 ⊢
              · cases h1
            · exact .inr hz
          have hspot : 0 < len → 0 < P.cellsOf e → a.spot = none := fun h1 h2 => (spot 0 h1 h2).elim id fun h => absurd (Nat.zero_mul _) h
          have cell : ∀ i, i < len → ∀ (j : Nat), j < P.cellsOf e → w.cell? ⟨a.block, a.off + i * P.cellsOf e + j, none⟩ = (V i)[j]? := by
            intro i hi j hj
            rw [← (hV i hi).2.2 j hj]
            have hsp := hspot (by omega) (by omega)
            congr 1
            obtain ⟨b, o, sp⟩ := a
            simp only at hsp
            subst hsp
            unfold Addr.add
            by_cases h1 : i * P.cellsOf e = 0 <;> by_cases h2 : j = 0 <;> simp [h1, h2]
          have hmem : ∀ row ∈ (List.range len).map A, ∃ i, i < len ∧ A i = row := fun row hr => by simpa using hr
          have at' : ∀ (i : Nat) row, ((List.range len).map A)[i]? = some row → i < len ∧ row = A i := fun i row h => by
            rw [List.getElem?_map] at h
            rcases Nat.lt_or_ge i len with hi | hi
            · rw [List.getElem?_range hi] at h
              exact ⟨hi, by simpa using h.symm⟩
            · rw [List.getElem?_eq_none (by simpa using hi)] at h; cases h
          have hval : ∀ i, i < len → ∀ (j : Nat) x, (A i)[j]? = some x → ∃ u, (V i)[j]? = some u ∧ (if i < len ∧ j < P.cellsOf e then (V i).getD j (.bool false) else .bool false) = u ∧ j < P.cellsOf e := by
            intro i hi j x hx
            have hj : j < P.cellsOf e := by rw [← lenA i hi]; exact (List.getElem?_eq_some_iff.1 hx).1
            have hj' : j < (V i).length := by rw [(hV i hi).2.1]; exact hj
            exact ⟨(V i)[j], List.getElem?_eq_getElem hj', by simp [hi, hj, hj'], hj⟩
          refine ⟨_, single (.sl (P.cellsOf e) ((List.range len).map A) false) _ ?_ rfl (.slice hu _ (by simp; omega) (fun row hr => ?_) (fun row hr => ?_))⟩
          · have := Rep.sl (S := (· < w.heap.size)) (w := w) (β := noB) (P.cellsOf e) ((List.range len).map A) false (if 0 < len then some ⟨a.block, a.off, none⟩ else some a) cap a.block a.off
              (fun i j => if i < len ∧ j < P.cellsOf e then (V i).getD j (.bool false) else .bool false) (by simpa using hl) hm (fun h => by cases h)
              (fun row hr => by obtain ⟨i, hi, rfl⟩ := hmem row hr; exact lenA i hi) ?_ ?_ ?_ ?_
            · simp only [List.length_map, List.length_range] at this
              by_cases h0 : 0 < len
              · rw [if_pos h0] at this
                have hsp := hspot h0 hc0
                obtain ⟨b, o, sp⟩ := a
                simp only at hsp; subst hsp
                exact this
              · rw [if_neg h0] at this; exact this
            · intro h0
              simp only [List.length_map, List.length_range] at h0
              rw [if_pos h0]
              refine ⟨rfl, ?_⟩
              have h1 := cell 0 h0 0 hc0
              have h2 : (V 0)[0]? = some ((V 0)[0]'(by rw [(hV 0 h0).2.1]; exact hc0)) := List.getElem?_eq_getElem _
              rw [h2] at h1
              simp only [World.cell?] at h1
              split at h1
              · rename_i hb; exact lt_of_heap hb
              · cases h1
            · intro i row j x h1 h2
              obtain ⟨hi, rfl⟩ := at' i row h1
              obtain ⟨u, g1, g2, g3⟩ := hval i hi j x h2
              rw [cell i hi j g3, g2, g1]
            · intro i j
              split
              · rename_i hc
                have hj' : j < (V i).length := by rw [(hV i hc.1).2.1]; exact hc.2
                rw [List.getD_eq_getElem?_getD, List.getElem?_eq_getElem hj']
                exact (hV i hc.1).1.one _ (List.getElem_mem hj')
              · rfl
            · intro i row j x h1 h2
              obtain ⟨hi, rfl⟩ := at' i row h1
              obtain ⟨u, g1, g2, g3⟩ := hval i hi j x h2
              rw [g2]
              exact (hV i hi).1.rep.2 j x u h2 g1
          · obtain ⟨i, hi, rfl⟩ := hmem row hr; exact (hV i hi).1.ty
          · obtain ⟨i, hi, rfl⟩ := hmem row hr; exact lenA i hi
      case struct fs =>
        simp only [Bool.and_eq_true] at hp
        obtain ⟨hp1, hp2⟩ := hp
        split at hp1
        · rename_i n hn
          have hn' := Nat.eq_of_beq_eq_true hp1
          obtain ⟨xs, m, rfl, _, hlen, hxl, hfd⟩ := DataW.trod_struct hu h
          have part : ∀ j : Nat, ∃ cs, ∀ f : Field, fs[j]? = some f → Opened P w f.type cs ((vals.drop f.offset).take (P.cellsOf f.type)) := by
            intro j
            cases hf : fs[j]? with
            | none => exact ⟨[], fun f hf => by cases hf⟩
            | some f =>
              have h1 := hfd j f hf
              have hj : j < fs.size := (Array.getElem?_eq_some_iff.1 hf).1
              rw [List.getElem?_eq_getElem (by omega)] at h1
              obtain ⟨cs, hcs⟩ := trod_opened D m f.type _ _ h1 (List.all_eq_true.1 hp2 f (Array.mem_toList_iff.2 (Array.mem_of_getElem? hf)))
              exact ⟨cs, fun f' hf' => by injection hf' with hf'; subst hf'; exact hcs⟩
          obtain ⟨A, hA⟩ := Classical.axiomOfChoice part
          obtain ⟨_, hr⟩ := runs_flat fs.toList 0 n vals hn (Nat.zero_le _) (by omega)
          have hall : (List.range fs.size).flatMap (fun j => match (fs[j]? : Option Field) with | some f => (vals.drop (Field.offset f)).take (P.cellsOf (Field.type f)) | none => []) = vals := by
            have : (List.range fs.toList.length).flatMap (fun j => match (fs.toList[j]? : Option Field) with | some f => (vals.drop f.offset).take (P.cellsOf f.type) | none => []) = vals := by
              rw [hr]; simp [hn', ← hlen]
            simpa using this
          have hrep := repL_flat (S := (· < w.heap.size)) (w := w) (β := noB) fs.size A (fun j => match (fs[j]? : Option Field) with | some f => (vals.drop (Field.offset f)).take (P.cellsOf (Field.type f)) | none => []) (fun j hj => by
            have hf : fs[j]? = some fs[j] := Array.getElem?_eq_getElem hj
            simp only [hf]
            exact (hA j _ hf).rep)
          rw [hall] at hrep
          refine ⟨_, hrep, fun u hu' => ?_, .struct hu A fun j f hf => (hA j f hf).ty⟩
          rw [← hall] at hu'
          obtain ⟨j, hj, hju⟩ := List.mem_flatMap.1 hu'
          have hj' : j < fs.size := by simpa using hj
          have hf : fs[j]? = some fs[j] := Array.getElem?_eq_getElem hj'
          simp only [hf] at hju
          exact (hA j _ hf).one u hju
        · cases hp1
      case array n e =>
        simp only [Bool.and_eq_true] at hp
        obtain ⟨hp1, hp2⟩ := hp
        have hn := Nat.eq_of_beq_eq_true hp1
        obtain ⟨xs, m, rfl, _, hlen, hxl, hfd⟩ := DataW.trod_array hu h
        have part : ∀ i, ∃ cs, i < n → Opened P w e cs ((vals.drop (i * P.cellsOf e)).take (P.cellsOf e)) := by
          intro i
          by_cases hi : i < n
          · have h1 := hfd i hi
            rw [List.getElem?_eq_getElem (by omega)] at h1
            obtain ⟨cs, hcs⟩ := trod_opened D m e _ _ h1 hp2
            exact ⟨cs, fun _ => hcs⟩
          · exact ⟨[], fun h => absurd h hi⟩
        obtain ⟨A, hA⟩ := Classical.axiomOfChoice part
        have hall := segs_flat vals (P.cellsOf e) n (by omega)
        rw [hn, ← hlen, List.take_length] at hall
        have hrep := repL_flat (S := (· < w.heap.size)) (w := w) (β := noB) n A _ (fun j hj => (hA j hj).rep)
        rw [hall] at hrep
        refine ⟨_, hrep, fun u hu' => ?_, .array hu A fun j hj => (hA j hj).ty⟩
        rw [← hall] at hu'
        obtain ⟨j, hj, hju⟩ := List.mem_flatMap.1 hu'
        exact (hA j (by simpa using hj)).one u hju
end
end Go.Proofs.YtahnhhbgkmlfcaaDoor

namespace Go.Proofs.YtahnhhbgkmlfcaaDoor
open Go.RowKit Go.ChangeShapes Go.WideShapes

theorem open_str {P : Program} {w : World} {r : Reach} {base : Nat} {t : TypeId} {v : Value} (ht : P.underlying t = some .string) (h : Value.okWide P w r base t v) : ∃ s, v = .string s ∧ s.size < 9223372036854775808 := by
  obtain ⟨s, rfl⟩ := okWide_string ht h
  refine ⟨s, rfl, ?_⟩
  have h2 : IntKind.i64.max = 9223372036854775807 := rfl
  have h3 : (s.size : Int) ≤ IntKind.i64.max := by simpa [Value.okWide, Cell.okWide, Cell.ok, ht] using h
  omega
end Go.Proofs.YtahnhhbgkmlfcaaDoor

namespace Go.Proofs.YtahnhhbgkmlfcaaDoor
open Go.RowKit Go.ChangeShapes Go.WideShapes Go.ChangeAt Go.Deep

set_option maxRecDepth 100000 in
theorem open_u32s {H : Type} {enc : TypeId × Value → H} {w : World} {base : Nat} {spare : Nat → Bool} {held : Bool} {r : Reach} {b0 : Nat} {v : Value} {d : DataW H} {p : List MemPlace}
    (hv : Value.okWide Tryd.prog w r b0 22 v) (h : DataW.Trod enc Tryd.prog w base spare held 22 v d p) :
    ∃ l : List Nat, (∀ x ∈ l, x ≤ 4294967295) ∧ l.length ≤ maxLen ∧ Rep (· < w.heap.size) w noB (.sl 1 (l.map rowU) false) v := by
  obtain ⟨a0, len, cap, rfl⟩ := okWide_slice Tryd.underlying22 hv
  obtain ⟨fuel, hf⟩ := h
  obtain ⟨cs, ho⟩ := trod_opened 3 fuel _ _ _ hf (by kernel_rfl)
  have hty := ho.ty
  have hrep := ho.rep
  have hu := Tryd.underlying22
  have rowsU : ∀ (rows : List (List AV)), (∀ row ∈ rows, TyV Tryd.prog 25 row) → ∃ l : List Nat, rows = l.map rowU ∧ ∀ x ∈ l, x ≤ 4294967295 := by
    intro rows
    induction rows with
    | nil => intro _; exact ⟨[], rfl, fun x h => by cases h⟩
    | cons row rows ih =>
      intro hr
      obtain ⟨l, h1, h2⟩ := ih fun row hm => hr row (List.mem_cons_of_mem _ hm)
      have hrow := hr row List.mem_cons_self
      have hue := Tryd.underlying25
      cases hrow with
      | int h n hn =>
        rw [hue] at h
        injection h with h
        injection h with h
        subst h
        obtain ⟨k, rfl, hk⟩ : ∃ k : Nat, n = k ∧ k < 4294967296 := by
          simp only [Lit.wf, IntKind.min, IntKind.max, IntKind.signed, IntKind.bits, Bool.and_eq_true, decide_eq_true_eq] at hn
          simp at hn
          exact ⟨n.toNat, by omega, by omega⟩
        exact ⟨k :: l, by rw [h1]; rfl, fun x hx => by rcases List.mem_cons.1 hx with rfl | hx; exact Nat.le_of_lt_succ hk; exact h2 x hx⟩
      | bool h => rw [hue] at h; cases h
      | string h => rw [hue] at h; cases h
      | slice h => rw [hue] at h; cases h
      | struct h => rw [hue] at h; cases h
      | array h => rw [hue] at h; cases h
  cases hty with
  | slice h rows hl hr hrs =>
    rw [hu] at h
    injection h with h
    injection h with h
    subst h
    obtain ⟨l, rfl, hb⟩ := rowsU rows hr
    refine ⟨l, hb, by simpa using hl, ?_⟩
    have := hrep.2 0 _ _ rfl rfl
    rwa [show Tryd.prog.cellsOf 25 = 1 by kernel_rfl] at this
  | bool h => rw [hu] at h; cases h
  | int h => rw [hu] at h; cases h
  | string h => rw [hu] at h; cases h
  | struct h => rw [hu] at h; cases h
  | array h => rw [hu] at h; cases h

theorem codes_pos {w : World} (h : Codes w) : 0 < w.heap.size := by
  have := h 0 (by decide)
  unfold World.cell? at this
  cases hq : w.heap[0]? with
  | none => simp [hq] at this
  | some o => exact (Array.getElem?_eq_some_iff.1 hq).1
/-- What a law comes to, out of its walk. -/
theorem DCall.law {f : FuncId} {args : List AV} {vs : List Value} {w : World} (h : DCall C0 f args (.v (.bool true))) (hC : Codes w) (ha : RepL (· < w.heap.size) w noB args vs) :
    Calls Tryd.prog f vs.toArray w fun e w' => e = .returned (.bool true) ∧ Below w.heap.size w w' :=
  (h.2 (· < w.heap.size) w vs (fun _ h => h) (g0Ok hC (codes_pos hC)) ha).mono fun e w' ⟨v, h1, h2, h3⟩ => ⟨by rw [h1, rep_v h3], h2⟩
theorem DCall.weaken {C : Ctx} {f : FuncId} {args args' : List AV} {r : AV} (h : DCall C f args' r) (hl : args.length = args'.length) (hs : ∀ (i : Nat) a a', args[i]? = some a → args'[i]? = some a' → ∀ S w v, Rep S w noB a v → Rep S w noB a' v) : DCall C f args r :=
  ⟨h.1, fun S w vs hS hG hv => h.2 S w vs hS hG ⟨hl ▸ hv.1, fun i a' u h1 h2 => by
    have hi : i < args.length := by rw [hl]; exact (List.getElem?_eq_some_iff.1 h1).1
    exact hs i args[i] a' (List.getElem?_eq_getElem hi) h1 S w u (hv.2 i _ u (List.getElem?_eq_getElem hi) h2)⟩⟩
theorem nil_any {S : Nat → Prop} {w : World} {v : Value} {rs : Nat} (h : Rep S w noB (.sl 0 [] true) v) : Rep S w noB (.sl rs [] false) v := by
  cases h with
  | sl _ _ _ A c b o u hc hm hcl hrs hA hw h1 hr => exact .sl rs [] false A c b o u hc hm (fun h => by cases h) (fun row h => by cases h) (fun h => absurd h (Nat.lt_irrefl 0)) (fun i row j a h => by simp at h) h1 fun i row j a h => by simp at h

/-! ### plain laws of runs -/
theorem lastOf_cons (s0 : St) (x : St × Sp) (l : List (St × Sp)) : lastOf s0 (x :: l) = lastOf x.1 l := by
  unfold lastOf
  cases l with
  | nil => rfl
  | cons y l => rw [List.getLast?_cons_cons]; rw [List.getLast?_cons]; rfl
theorem lastOf_ok {prog : List Nat} : ∀ (n : Nat) (s0 : St), s0.ok → (lastOf s0 (stepsL prog n s0)).ok
  | 0, s0, h => h
  | n + 1, s0, h => by
    by_cases hh : s0.halt = 0
    · rw [stepsL_more hh, lastOf_cons]; exact lastOf_ok n _ (stepP_ok h)
    · rw [stepsL_done (.inr hh)]; exact h
end Go.Proofs.YtahnhhbgkmlfcaaDoor

namespace Go.Proofs.YtahnhhbgkmlfcaaDoor
open Go.RowKit

theorem ba_refl (a : ByteArray) : (a == a) = true := by
  first
    | exact beq_self_eq_true a
    | (obtain ⟨d⟩ := a; show (d == d) = true; exact beq_self_eq_true d)
    | (unfold BEq.beq; simp)
def capK (n c : Int) : Int := if c < (if (0 : Int) > n then 0 else n) then c else (if (0 : Int) > n then 0 else n)
theorem run_alive : runL [] ⟨#[]⟩ 5 = [haltP (newS ⟨#[]⟩) 1 0] := by
  have h1 : stepP [] (newS ⟨#[]⟩) = haltP (newS ⟨#[]⟩) 1 0 := rfl
  show stepsL [] 5 (newS ⟨#[]⟩) = _
  rw [stepsL_more (show (newS ⟨#[]⟩).halt = 0 from rfl), h1, stepsL_done (.inr (show (haltP (newS ⟨#[]⟩) 1 0).1.halt ≠ 0 from by decide))]
theorem dRunNil (m : ByteArray) (n : Int) : DCall C0 11 [.sl 0 [] true, .v (.string m), .v (.int .i64 n)] (.tup [stA (lastOf (newS m) (runL [] m n)), .sl 9 ((runL [] m n).map rowS) false]) :=
  (dRun [] m n false (fun x h => by cases h) (Nat.zero_le _)).weaken rfl fun i a a' h1 h2 S w v hv => by
    match i, h1, h2 with
    | 0, h1, h2 => injection h1 with h1; injection h2 with h2; subst h1; subst h2; exact nil_any hv
    | 1, h1, h2 => injection h1 with h1; injection h2 with h2; subst h1; subst h2; exact hv
    | 2, h1, h2 => injection h1 with h1; injection h2 with h2; subst h1; subst h2; exact hv
    | i + 3, h1, h2 => simp at h1

set_option maxRecDepth 100000 in
set_option maxHeartbeats 4000000 in
theorem dAlive6  : DCall C0 13 [] (.v (.bool true)) := by
  refine DCall.intro c0Ok Tryd.func13 rfl rfl (by kernel_rfl) rfl ?_
  obtain ⟨L1, hL1⟩ : ∃ L, runL [] ⟨#[]⟩ 5 = L := ⟨_, rfl⟩
  obtain ⟨S1, hS1⟩ : ∃ s, lastOf (newS ⟨#[]⟩) L1 = s := ⟨_, rfl⟩
  have hrun := dRunNil ⟨#[]⟩ 5
  rw [hL1, hS1] at hrun
  have e1 : S1.halt = 1 := by rw [← hS1, ← hL1, run_alive]; rfl
  have e2 : S1.mem.size = 16 := by rw [← hS1, ← hL1, run_alive]; show (cleanP ⟨#[]⟩).size = 16; rw [cleanP_size]; rfl
  refine cSeq ?_
  refine cR ?_
  refine rO 0 (.v (.bool false)) ?_
  refine rE 1 ?_
  refine cSeq ?_
  refine cR ?_
  refine rCall (args := [.sl 0 ([]) true, .v (.string (⟨#[]⟩)), vI 5]) (d := 4) (x := .tup [.agg (stL S1.pc S1.r S1.mem S1.halt), .sl 9 (L1.map rowS) false]) rfl rfl rfl rfl (.inl rfl) rfl (hrun) ?_
  refine rO 3 (.tup [.agg (stL S1.pc S1.r S1.mem S1.halt), .sl 9 (L1.map rowS) false]) ?_
  refine rO 5 (.agg (stL S1.pc S1.r S1.mem S1.halt)) ?_
  refine rO 6 (.sl 9 (L1.map rowS) false) ?_
  refine rFx (d := 1) (x := .ptr 5 0) (h' := upd _ 5 (some (.box (stL 0 (fun _ => 0) (⟨#[]⟩) 0)))) rfl rfl (rfl) (trivial) ?_
  refine rFx0 (h' := upd _ 5 (some (.box (stL S1.pc S1.r S1.mem S1.halt)))) rfl rfl (rfl) (trivial) ?_
  refine rO 2 (.sl 9 (L1.map rowS) false) ?_
  refine rE 8 ?_
  refine cSeq ?_
  refine cR ?_
  refine rO 7 (.ptr 5 34) ?_
  refine rO 8 (vI S1.halt) ?_
  refine rO 9 (.v (.bool (S1.halt == 1))) ?_
  refine rO 10 (.v (.bool (S1.halt == 1))) ?_
  refine gOk (d := 11) (x := .ptr 5 33) (g := S1.halt == 1) rfl rfl rfl rfl rfl rfl ?_
  refine gOkS (d := 12) (x := .v (.string S1.mem)) (g := S1.halt == 1) rfl rfl rfl rfl (fun h => h) rfl rfl ?_
  refine gOkS (d := 13) (x := vI (S1.mem.size : Int)) (g := S1.halt == 1) rfl rfl rfl rfl (fun h => h) rfl rfl ?_
  refine gOkS (d := 14) (x := .v (.bool ((S1.mem.size : Int) == 16))) (g := S1.halt == 1) rfl rfl rfl rfl (fun h => h) rfl rfl ?_
  refine rNeed (d := 15) (x := .v (.bool (cond2 (S1.halt == 1) ((S1.mem.size : Int) == 16) false))) rfl rfl rfl (fun h => h) ?_
  refine rO 0 (.v (.bool (cond2 (S1.halt == 1) ((S1.mem.size : Int) == 16) false))) ?_
  refine rE 18 ?_
  refine cRet ?_
  exact finTA rfl trivial rfl (congrArg (fun b => AV.v (.bool b)) (by rw [e1, e2]; rfl))
theorem take_rows (prog : List Nat) (c : Nat) : List.drop 0 (List.take (min prog.length c) (prog.map rowU)) = (prog.take c).map rowU := by
  rw [List.drop_zero, ← List.map_take]
  congr 1
  rcases Nat.le_total prog.length c with h | h
  · rw [Nat.min_eq_left h, List.take_length, List.take_of_length_le h]
  · rw [Nat.min_eq_right h]
set_option maxRecDepth 100000 in
set_option maxHeartbeats 4000000 in
theorem dShort (prog : List Nat) (m : ByteArray) (clip : Bool) (hl : prog.length ≤ maxLen) (hm : m.size < 9223372036854775808) : DCall C0 10 [.sl 1 (prog.map rowU) clip, .v (.string m)] (.tup [.sl 1 ((prog.take 64).map rowU) false, .v (.string (m.extract 0 (min m.size 300)))]) := by
  refine DCall.intro c0Ok Tryd.func10 rfl rfl (by kernel_rfl) rfl ?_
  refine cSeq ?_
  refine cR ?_
  refine rO 4 (.sl 0 ([]) true) ?_
  refine rO 5 (.v (.string (⟨#[]⟩))) ?_
  refine rE 2 ?_
  refine cSeq ?_
  refine cR ?_
  refine rO 6 (.sl 1 (prog.map rowU) clip) ?_
  refine rO 7 (.sl 1 (prog.map rowU) clip) ?_
  refine rOk (d := 8) (x := vN prog.length) rfl rfl (congrArg (fun n : Nat => Res.ok (vI (n : Int))) (List.length_map ..)) ?_
  refine rOk (d := 9) (x := .v (.int .i64 ((min prog.length 64 : Nat) : Int))) rfl rfl (by show Res.ok (.v (.int .i64 (if (64 : Int) < (prog.length : Int) then 64 else (prog.length : Int)))) = _; congr 3; split <;> omega) ?_
  refine rNeed (d := 10) (x := .sl 1 (List.drop 0 (List.take (min prog.length 64) (prog.map rowU))) (clip && false)) rfl rfl rfl (⟨Int.le_refl _, Int.natCast_nonneg _, by show ((min prog.length 64 : Nat) : Int) ≤ (((prog.map rowU).length : Nat) : Int); rw [List.length_map]; omega⟩) ?_
  refine rO 11 (.v (.string m)) ?_
  refine rO 12 (.v (.string m)) ?_
  refine rO 13 (vI (m.size : Int)) ?_
  refine rOk (d := 14) (x := .v (.int .i64 ((min m.size 300 : Nat) : Int))) rfl rfl (by show Res.ok (.v (.int .i64 (if (300 : Int) < (m.size : Int) then 300 else (m.size : Int)))) = _; congr 3; split <;> omega) ?_
  refine rNeed (d := 15) (x := .v (.string (m.extract 0 (min m.size 300)))) rfl rfl rfl (⟨Int.le_refl _, Int.natCast_nonneg _, by show ((min m.size 300 : Nat) : Int) ≤ ((m.size : Nat) : Int); omega⟩) ?_
  refine rO 4 (.sl 1 (List.drop 0 (List.take (min prog.length 64) (prog.map rowU))) (clip && false)) ?_
  refine rO 5 (.v (.string (m.extract 0 (min m.size 300)))) ?_
  refine rE 14 ?_
  refine cRet ?_
  exact finTA rfl trivial rfl (by show AV.tup [.sl 1 (List.drop 0 (List.take (min prog.length 64) (prog.map rowU))) (clip && false), .v (.string (m.extract 0 (min m.size 300)))] = _; rw [take_rows, Bool.and_false])
end Go.Proofs.YtahnhhbgkmlfcaaDoor

namespace Go.Proofs.YtahnhhbgkmlfcaaDoor
open Go.RowKit

theorem fetch_found {prog : List Nat} {pc k x : Nat} (h : pc = 4 * k) (hx : prog[k]? = some x) : fetchP prog pc = some x := by
  unfold fetchP; rw [if_pos (by omega), show pc / 4 = k by omega, hx]
theorem fetch_none {prog : List Nat} {pc : Nat} (h : ∀ i, i < prog.length → pc ≠ 4 * i) : fetchP prog pc = none := by
  refine fetch_no ?_
  by_cases h1 : pc % 4 = 0
  · exact .inr (Nat.le_of_not_lt fun h2 => h _ h2 (by omega))
  · exact .inl h1
def fetA (o : Option Nat) : AV := .tup [.v (.int .u32 ((o.getD 0 : Nat) : Int)), .v (.bool o.isSome)]

set_option maxRecDepth 100000 in
set_option maxHeartbeats 4000000 in
theorem rFetch (prog : List Nat) (pc : Nat) (clip : Bool) (hp : ∀ x ∈ prog, x ≤ 4294967295) (hl : prog.length ≤ 1000000) (hpc : pc ≤ 4294967295) : DCall C0 35 [.sl 1 (prog.map rowU) clip, .v (.int .u32 ((pc : Nat) : Int))] (fetA (fetchP prog pc)) := by
  refine DCall.intro c0Ok Tryd.func35 rfl rfl (by kernel_rfl) rfl ?_
  refine cSeq ?_
  refine cR ?_
  refine rO 4 (.v (.int .u32 0)) ?_
  refine rO 5 (.v (.bool false)) ?_
  refine rE 2 ?_
  refine cSeq ?_
  refine cSeq ?_
  refine cR ?_
  refine rO 8 (.sl 1 (prog.map rowU) clip) ?_
  refine rOk (d := 9) (x := vN prog.length) rfl rfl (congrArg (fun n : Nat => Res.ok (vI (n : Int))) (List.length_map ..)) ?_
  refine rO 10 (vI 0) ?_
  refine rE 5 ?_
  refine cBlock ?_
  refine cLoop (κ := Nat) (fun k => ⟨slotsF [(0, .sl 1 (prog.map rowU) clip), (1, vU pc), (4, .v (.int .u32 0)), (5, .v (.bool false)), (8, .sl 1 (prog.map rowU) clip), (9, vN prog.length), (10, vN k)], heapF [], 5⟩) (fun k => k ≤ prog.length ∧ ∀ i, i < k → pc ≠ 4 * i) (fun k => prog.length - k) 0 (fun s => s) (Weak.of_lists (fun s => s) ⟨⟨rfl, rfl⟩, ⟨rfl, rfl⟩, ⟨rfl, rfl⟩, ⟨rfl, rfl⟩, ⟨rfl, rfl⟩, ⟨rfl, rfl⟩, ⟨rfl, rfl⟩, trivial⟩ trivial rfl) (⟨Nat.zero_le _, fun i h => absurd h (Nat.not_lt_zero i)⟩) ?_
  intro k hk
  have hkB : k ≤ 1000000 := Nat.le_trans hk.1 hl
  refine cSeq ?_
  refine cR ?_
  refine rOk (d := 11) (x := .v (.bool (decide (k < prog.length)))) rfl rfl (okB (ltN _ _)) ?_
  refine rE 6 ?_
  refine cSeq ?_
  refine cCond (v := decide (k < prog.length)) rfl (fun h1 => ?_) (fun h1 => ?_)
  · skip
    refine cSkip ?_
    refine cSeq ?_
    refine cBlock ?_
    refine cSeq ?_
    refine cR ?_
    refine rO 12 (vN k) ?_
    obtain ⟨x, hx⟩ : ∃ x, prog[k]? = some x := ⟨_, List.getElem?_eq_getElem (of_decide_eq_true h1)⟩
    have hxm := hp x (List.mem_of_getElem? hx)
    refine rIdx (rowU x) (d := 13) (x := .dp 1 0 (rowU x)) rfl rfl rfl (⟨Int.natCast_nonneg _, by rw [Int.toNat_natCast, List.getElem?_map, hx]; rfl⟩) rfl ?_
    refine rO 14 (vU x) ?_
    refine rO 6 (vN k) ?_
    refine rO 7 (vU x) ?_
    refine rE 11 ?_
    refine cSeq ?_
    refine cR ?_
    refine rO 15 (vU pc) ?_
    refine rOk (d := 16) (x := .v (.int .u64 ((pc : Nat) : Int))) rfl rfl (okI (modI hpc rfl)) ?_
    refine rO 17 (vN k) ?_
    refine rOk (d := 18) (x := .v (.int .u64 ((k : Nat) : Int))) rfl rfl (okI (modI hkB rfl)) ?_
    have b1 : 4 * k ≤ 4000000 := Nat.mul_le_mul (Nat.le_refl 4) hkB
    refine rOk (d := 19) (x := .v (.int .u64 ((4 * k : Nat) : Int))) rfl rfl (okI (modI b1 rfl)) ?_
    refine rOk (d := 20) (x := .v (.bool (pc == (4 * k)))) rfl rfl (okB (eqN _ _)) ?_
    refine rE 17 ?_
    refine cCond (v := pc == (4 * k)) rfl (fun h2 => ?_) (fun h2 => ?_)
    · skip
      refine cSeq ?_
      refine cR ?_
      refine rO 21 (vU x) ?_
      refine rO 4 (vU x) ?_
      refine rO 5 (.v (.bool true)) ?_
      refine rE 20 ?_
      refine cRet ?_
      exact finTA rfl trivial rfl (by rw [fetch_found (prog := prog) (by simpa using h2) hx]; rfl)
    · skip
      refine cSkip ?_
      refine cR ?_
      have b2 : k + 1 ≤ 1000001 := Nat.add_le_add hkB (Nat.le_refl 1)
      refine rOk (d := 22) (x := vN (k + 1)) rfl rfl (okI (wrapI64 b2 rfl)) ?_
      refine rO 10 (vN (k + 1)) ?_
      refine rE 19 ?_
      refine ⟨k + 1, fun s => s, Weak.of_lists (fun s => s) ⟨⟨rfl, rfl⟩, ⟨rfl, rfl⟩, ⟨rfl, rfl⟩, ⟨rfl, rfl⟩, ⟨rfl, rfl⟩, ⟨rfl, rfl⟩, ⟨rfl, rfl⟩, trivial⟩ trivial rfl, ⟨of_decide_eq_true h1, fun i hi => if e : i = k then e ▸ (by simpa using h2) else hk.2 i (by omega)⟩, by have := of_decide_eq_true h1; show prog.length - (k + 1) < prog.length - k; omega⟩
  · skip
    refine cExit ?_
    refine cSeq ?_
    refine cR ?_
    refine rO 4 (.v (.int .u32 0)) ?_
    refine rO 5 (.v (.bool false)) ?_
    refine rE 8 ?_
    refine cRet ?_
    exact finTA rfl trivial rfl (by rw [fetch_none (prog := prog) (fun i hi => hk.2 i (by have := of_decide_eq_false h1; omega))]; rfl)
set_option maxRecDepth 100000 in
set_option maxHeartbeats 4000000 in
theorem rRead (m : ByteArray) (addr n : Nat) (hr : addr + n ≤ m.size) (ha : addr ≤ 4294967295) (hn : n ≤ 4) : DCall C0 47 [.v (.string m), .v (.int .u32 ((addr : Nat) : Int)), .v (.int .i64 ((n : Nat) : Int))] (.v (.string (readP m addr n))) := by
  refine DCall.intro c0Ok Tryd.func47 rfl rfl (by kernel_rfl) rfl ?_
  refine cSeq ?_
  refine cR ?_
  refine rO 6 (.v (.string (⟨#[]⟩))) ?_
  refine rE 1 ?_
  refine cSeq ?_
  refine cR ?_
  refine rO 7 (.v (.string m)) ?_
  refine rO 8 (vU addr) ?_
  refine rOk (d := 9) (x := vN addr) rfl rfl (okI (wrapI64 ha rfl)) ?_
  refine rO 10 (vU addr) ?_
  refine rOk (d := 11) (x := vN addr) rfl rfl (okI (wrapI64 ha rfl)) ?_
  refine rO 12 (vN n) ?_
  refine rOk (d := 13) (x := vN (addr + n)) rfl rfl (okI (wrap_i64 (by omega) (by omega))) ?_
  refine rNeed (d := 14) (x := .v (.string (readP m addr n))) rfl rfl rfl (⟨Int.natCast_nonneg _, by show ((addr : Nat) : Int) ≤ ((addr + n : Nat) : Int); omega, by show ((addr + n : Nat) : Int) ≤ ((m.size : Nat) : Int); omega⟩) ?_
  refine rO 6 (.v (.string (readP m addr n))) ?_
  refine rE 10 ?_
  refine cRet ?_
  exact retA_eq rfl trivial rfl rfl
end Go.Proofs.YtahnhhbgkmlfcaaDoor
