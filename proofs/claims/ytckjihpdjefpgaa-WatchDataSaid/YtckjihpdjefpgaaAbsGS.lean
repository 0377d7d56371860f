/- The second machine: what is handed to a law is what its type says. -/
import Derived.Test.YtckjihpdjefpgaaAbsC
import Derived.DataReads
import Derived.SizedLaws
import Derived.Deep.Strs
namespace Go.Proofs.Ytckjihpdjefpgaa
open Go.RowKit Go.ChangeShapes Go.WideShapes Go.ChangeAt Go.Deep

/-- Cells as a variable's type says. -/
inductive TyV (P : Program) : TypeId → List AV → Prop
  | bool {t : TypeId} (h : P.underlying t = some .bool) (b : Bool) : TyV P t [.v (.bool b)]
  | int {t : TypeId} {k : IntKind} (h : P.underlying t = some (.int k)) (n : Int) (hn : (Lit.int k n).wf = true) : TyV P t [.v (.int k n)]
  | string {t : TypeId} (h : P.underlying t = some .string) (s : ByteArray) (hs : s.size ≤ maxLen) : TyV P t [.v (.string s)]
  | slice {t e : TypeId} (h : P.underlying t = some (.slice e)) (rows : List (List AV)) (hl : rows.length ≤ maxLen) (hr : ∀ row ∈ rows, TyV P e row) (hrs : ∀ row ∈ rows, row.length = P.cellsOf e) (hby : rows.length * P.bytesOf e ≤ 140737488355328) : TyV P t [.sl (P.cellsOf e) rows false]
  | struct {t : TypeId} {fs : Array Field} (h : P.underlying t = some (.struct fs)) (parts : Nat → List AV) (hp : ∀ (j : Nat) f, fs[j]? = some f → TyV P f.type (parts j)) : TyV P t ((List.range fs.size).flatMap parts)
  | array {t e : TypeId} {n : Nat} (h : P.underlying t = some (.array n e)) (parts : Nat → List AV) (hp : ∀ j, j < n → TyV P e (parts j)) : TyV P t ((List.range n).flatMap parts)

theorem weights_all {H : Type} {P : Program} {e : TypeId} : ∀ {l : List (DataW H)} {d : DataW H}, d ∈ l → ∀ n ∈ d.weights P e, n ∈ DataW.weightsAll P e l
  | x :: r, d, h, n, hn => by
    simp only [DataW.weightsAll, List.mem_append]
    cases List.mem_cons.1 h with
    | inl q => subst q; exact .inl hn
    | inr q => exact .inr (weights_all q n hn)
  | [], _, h, _, _ => by cases h

/-- Offsets that run on. -/
def runsF (P : Program) : Nat → List Field → Option Nat
  | o, [] => some o
  | o, f :: fs => match Nat.beq f.offset o with | true => runsF P (o + P.cellsOf f.type) fs | false => none
/-- Types of numbers, strings, slices, structs, arrays; their layout. -/
def plainT (P : Program) : Nat → TypeId → Bool
  | 0, _ => false
  | d + 1, t => match P.underlying t with
    | some .bool | some (.int _) | some .string => true
    | some (.slice e) => Nat.blt 0 (P.cellsOf e) && plainT P d e
    | some (.struct fs) => (match runsF P 0 fs.toList with | some n => Nat.beq n (P.cellsOf t) | none => false) && fs.toList.all (fun f => plainT P d f.type)
    | some (.array n e) => Nat.beq (n * P.cellsOf e) (P.cellsOf t) && plainT P d e
    | _ => false

section
variable {H : Type} {enc : TypeId × Value → H} {P : Program} {w : World} {base : Nat} {spare : Nat → Bool} {held : Bool}

/-- What is said of cells. -/
structure Opened (P : Program) (w : World) (t : TypeId) (cs : List AV) (vals : List Value) : Prop where
  rep : RepL (· < w.heap.size) w noB cs vals
  one : ∀ u ∈ vals, u.oneCell' = true
  ty : TyV P t cs

theorem repL_flat {S : Nat → Prop} {β : Bt} : ∀ (n : Nat) (A : Nat → List AV) (V : Nat → List Value), (∀ i, i < n → RepL S w β (A i) (V i)) → RepL S w β ((List.range n).flatMap A) ((List.range n).flatMap V)
  | 0, _, _, _ => by simpa using RepL.nil S w β
  | n + 1, A, V, h => by
    rw [List.range_succ, List.flatMap_append, List.flatMap_append]
    have ih := repL_flat n A V fun i hi => h i (by omega)
    have h1 := h n (by omega)
    simp only [List.flatMap_cons, List.flatMap_nil, List.append_nil]
    refine ⟨by simp [ih.1, h1.1], fun i a u ha hu => ?_⟩
    rcases Nat.lt_or_ge i ((List.range n).flatMap A).length with k | k
    · rw [List.getElem?_append_left k] at ha
      rw [List.getElem?_append_left (by rw [← ih.1]; exact k)] at hu
      exact ih.2 i a u ha hu
    · rw [List.getElem?_append_right k] at ha
      rw [List.getElem?_append_right (by rw [← ih.1]; exact k), ← ih.1] at hu
      exact h1.2 _ a u ha hu

theorem runs_flat : ∀ (fs : List Field) (o n : Nat) (vals : List Value), runsF P o fs = some n → o ≤ vals.length → n ≤ vals.length → o ≤ n ∧
    (List.range fs.length).flatMap (fun j => match (fs[j]? : Option Field) with | some f => (vals.drop (Field.offset f)).take (P.cellsOf (Field.type f)) | none => []) = (vals.drop o).take (n - o)
  | [], o, n, vals, h, _, _ => by
    simp only [runsF, Option.some.injEq] at h; subst h; simp
  | f :: fs, o, n, vals, h, ho, hn => by
    simp only [runsF] at h
    split at h
    · rename_i hb
      have hb := Nat.eq_of_beq_eq_true hb
      have hle : o + P.cellsOf f.type ≤ n := by
        have : ∀ (fs : List Field) (o n : Nat), runsF P o fs = some n → o ≤ n := by
          intro fs
          induction fs with
          | nil => intro o n h; simp only [runsF, Option.some.injEq] at h; omega
          | cons f fs ih =>
            intro o n h
            simp only [runsF] at h
            split at h
            · have := ih _ _ h; omega
            · cases h
        exact this fs _ _ h
      obtain ⟨h1, h2⟩ := runs_flat fs (o + P.cellsOf f.type) n vals h (by omega) hn
      refine ⟨by omega, ?_⟩
      rw [List.length_cons, List.range_succ_eq_map, List.flatMap_cons, List.flatMap_map]
      simp only [List.getElem?_cons_zero, Function.comp_def, List.getElem?_cons_succ]
      rw [h2, hb]
      have : n - o = P.cellsOf f.type + (n - (o + P.cellsOf f.type)) := by omega
      rw [this, List.take_add, List.drop_drop]
    · cases h

theorem segs_flat (vals : List Value) (sz : Nat) : ∀ n, n * sz ≤ vals.length → (List.range n).flatMap (fun i => (vals.drop (i * sz)).take sz) = vals.take (n * sz)
  | 0, _ => by simp
  | n + 1, h => by
    rw [Nat.add_mul, Nat.one_mul] at h
    rw [List.range_succ, List.flatMap_append, segs_flat vals sz n (by omega), Nat.add_mul, Nat.one_mul, List.take_add]
    simp

theorem trod_opened : ∀ (D fuel : Nat) (t : TypeId) (vals : List Value) (x : DataW H × List MemPlace), DataW.trod enc P w base spare held fuel t vals = some x → plainT P D t = true → (∀ n ∈ x.1.weights P t, n ≤ reachBytes) → ∃ cs, Opened P w t cs vals
  | 0, _, _, _, _, _, h, _ => by simp [plainT] at h
  | D + 1, fuel, t, vals, x, h, hp, hB => by
    have single : ∀ (a : AV) (u : Value), Rep (· < w.heap.size) w noB a u → u.oneCell' = true → TyV P t [a] → Opened P w t [a] [u] := fun a u h1 h2 h3 => ⟨.cons h1 (.nil _ _ _), fun v hv => by simp at hv; subst hv; exact h2, h3⟩
    unfold plainT at hp
    cases hu : P.underlying t with
    | none => rw [hu] at hp; cases hp
    | some d =>
      rw [hu] at hp
      cases d <;> simp only [Bool.false_eq_true] at hp <;> try (cases hp; done)
      case bool =>
        obtain ⟨b, rfl, _⟩ := DataW.trod_bool hu h
        exact ⟨_, single _ _ (.v _) rfl (.bool hu b)⟩
      case int k =>
        obtain ⟨n, rfl, _, hw⟩ := DataW.trod_int hu h
        exact ⟨_, single _ _ (.v _) rfl (.int hu n hw)⟩
      case string =>
        obtain ⟨s, rfl, _, hs⟩ := DataW.trod_string hu h
        exact ⟨_, single _ _ (.v _) rfl (.string hu s hs)⟩
      case slice e =>
        simp only [Bool.and_eq_true] at hp
        obtain ⟨hc0, hp⟩ := hp
        have hc0 : 0 < P.cellsOf e := Nat.le_of_ble_eq_true hc0
        rcases DataW.trod_slice hu h with ⟨rfl, _⟩ | ⟨a, len, cap, elems, rest, n, rfl, rfl, hxe, hb, hl, hm, he, hel, _⟩
        · exact ⟨_, single (.sl (P.cellsOf e) [] false) _ (.sl _ [] false none 0 0 0 (fun _ _ => .bool false) (by simp) (by simp) (fun h => by cases h) (fun _ h => by simp at h) (fun h => by simp at h) (fun i row j a h => by simp at h) (fun _ _ => rfl) (fun i row j a h => by simp at h)) rfl (.slice hu [] (by simp) (fun _ h => by simp at h) (fun _ h => by simp at h) (by simp))⟩
        · have hBe : ∀ n ∈ DataW.weightsAll P e (elems.map (·.1)), n ≤ reachBytes := fun n hn => hB n (by rw [hxe]; simp only [DataW.weights, hu]; exact List.mem_cons_of_mem _ (List.mem_append_left _ hn))
          have hBl : len * P.bytesOf e ≤ 140737488355328 := by
            have h1 := hB _ (by rw [hxe]; simp only [DataW.weights, hu]; exact List.mem_cons_self ..)
            rw [List.length_map] at h1
            have h2 : len * P.bytesOf e ≤ _ := Nat.le_trans (Nat.mul_le_mul_right _ (by omega)) h1
            exact Nat.le_trans h2 (by decide)
          have row : ∀ i, ∃ cs us, i < len → Opened P w e cs us ∧ us.length = P.cellsOf e ∧ ∀ (j : Nat), j < P.cellsOf e → w.cell? ((a.add (i * P.cellsOf e)).add j) = us[j]? := by
            intro i
            by_cases hi : i < len
            · have h1 := hel i hi
              have h2 : elems[i]? = some (elems[i]'(by omega)) := List.getElem?_eq_getElem (by omega)
              rw [h2, Option.bind_eq_some_iff] at h1
              obtain ⟨us, g1, g2⟩ := h1
              obtain ⟨cs, hcs⟩ := trod_opened D n e us _ g2 hp (fun n hn => hBe n (weights_all (List.mem_map_of_mem (List.getElem_mem _)) n hn))
              unfold World.cells? at g1
              split at g1
              · have l1 : us.length = P.cellsOf e := by simpa using mapM_some_length g1
                exact ⟨cs, us, fun _ => ⟨hcs, l1, fun j hj => mapM_some_get g1 j j (by simp [hj])⟩⟩
              · cases g1
            · exact ⟨[], [], fun h => absurd h hi⟩
          obtain ⟨A, hA⟩ := Classical.axiomOfChoice row
          obtain ⟨V, hV⟩ := Classical.axiomOfChoice hA
          have lenA : ∀ i, i < len → (A i).length = P.cellsOf e := fun i hi => (hV i hi).1.rep.1.trans (hV i hi).2.1
          have spot : ∀ i, i < len → 0 < P.cellsOf e → a.spot = none ∨ i * P.cellsOf e ≠ 0 := by
            intro i hi h0
            by_cases hz : i * P.cellsOf e = 0
            · left
              have h1 := (hV i hi).2.2 0 h0
              have h2 : (V i)[0]? = some ((V i)[0]'(by rw [(hV i hi).2.1]; exact h0)) := List.getElem?_eq_getElem _
              rw [h2] at h1
              simp only [Addr.add, hz, if_true, World.cell?] at h1
              split at h1
              · cases hs : a.spot <;> simp [hs] at h1 ⊢
              · cases h1
            · exact .inr hz
          have hspot : 0 < len → 0 < P.cellsOf e → a.spot = none := fun h1 h2 => (spot 0 h1 h2).elim id fun h => absurd (Nat.zero_mul _) h
          have cell : ∀ i, i < len → ∀ (j : Nat), j < P.cellsOf e → w.cell? ⟨a.block, a.off + i * P.cellsOf e + j, none⟩ = (V i)[j]? := by
            intro i hi j hj
            rw [← (hV i hi).2.2 j hj]
            have hsp := hspot (by omega) (by omega)
            congr 1
            obtain ⟨b, o, sp⟩ := a
            simp only at hsp
            subst hsp
            unfold Addr.add
            by_cases h1 : i * P.cellsOf e = 0 <;> by_cases h2 : j = 0 <;> simp [h1, h2]
          have hmem : ∀ row ∈ (List.range len).map A, ∃ i, i < len ∧ A i = row := fun row hr => by simpa using hr
          have at' : ∀ (i : Nat) row, ((List.range len).map A)[i]? = some row → i < len ∧ row = A i := fun i row h => by
            rw [List.getElem?_map] at h
            rcases Nat.lt_or_ge i len with hi | hi
            · rw [List.getElem?_range hi] at h
              exact ⟨hi, by simpa using h.symm⟩
            · rw [List.getElem?_eq_none (by simpa using hi)] at h; cases h
          have hval : ∀ i, i < len → ∀ (j : Nat) x, (A i)[j]? = some x → ∃ u, (V i)[j]? = some u ∧ (if i < len ∧ j < P.cellsOf e then (V i).getD j (.bool false) else .bool false) = u ∧ j < P.cellsOf e := by
            intro i hi j x hx
            have hj : j < P.cellsOf e := by rw [← lenA i hi]; exact (List.getElem?_eq_some_iff.1 hx).1
            have hj' : j < (V i).length := by rw [(hV i hi).2.1]; exact hj
            exact ⟨(V i)[j], List.getElem?_eq_getElem hj', by simp [hi, hj, hj'], hj⟩
          refine ⟨_, single (.sl (P.cellsOf e) ((List.range len).map A) false) _ ?_ rfl (.slice hu _ (by simp; omega) (fun row hr => ?_) (fun row hr => ?_) (by simpa using hBl))⟩
          · have := Rep.sl (S := (· < w.heap.size)) (w := w) (β := noB) (P.cellsOf e) ((List.range len).map A) false (if 0 < len then some ⟨a.block, a.off, none⟩ else some a) cap a.block a.off
              (fun i j => if i < len ∧ j < P.cellsOf e then (V i).getD j (.bool false) else .bool false) (by simpa using hl) hm (fun h => by cases h)
              (fun row hr => by obtain ⟨i, hi, rfl⟩ := hmem row hr; exact lenA i hi) ?_ ?_ ?_ ?_
            · simp only [List.length_map, List.length_range] at this
              by_cases h0 : 0 < len
              · rw [if_pos h0] at this
                have hsp := hspot h0 hc0
                obtain ⟨b, o, sp⟩ := a
                simp only at hsp; subst hsp
                exact this
              · rw [if_neg h0] at this; exact this
            · intro h0
              simp only [List.length_map, List.length_range] at h0
              rw [if_pos h0]
              refine ⟨rfl, ?_⟩
              have h1 := cell 0 h0 0 hc0
              have h2 : (V 0)[0]? = some ((V 0)[0]'(by rw [(hV 0 h0).2.1]; exact hc0)) := List.getElem?_eq_getElem _
              rw [h2] at h1
              simp only [World.cell?] at h1
              split at h1
              · rename_i hb; exact lt_of_heap hb
              · cases h1
            · intro i row j x h1 h2
              obtain ⟨hi, rfl⟩ := at' i row h1
              obtain ⟨u, g1, g2, g3⟩ := hval i hi j x h2
              rw [cell i hi j g3, g2, g1]
            · intro i j
              split
              · rename_i hc
                have hj' : j < (V i).length := by rw [(hV i hc.1).2.1]; exact hc.2
                rw [List.getD_eq_getElem?_getD, List.getElem?_eq_getElem hj']
                exact (hV i hc.1).1.one _ (List.getElem_mem hj')
              · rfl
            · intro i row j x h1 h2
              obtain ⟨hi, rfl⟩ := at' i row h1
              obtain ⟨u, g1, g2, g3⟩ := hval i hi j x h2
              rw [g2]
              exact (hV i hi).1.rep.2 j x u h2 g1
          · obtain ⟨i, hi, rfl⟩ := hmem row hr; exact (hV i hi).1.ty
          · obtain ⟨i, hi, rfl⟩ := hmem row hr; exact lenA i hi
      case struct fs =>
        simp only [Bool.and_eq_true] at hp
        obtain ⟨hp1, hp2⟩ := hp
        split at hp1
        · rename_i n hn
          have hn' := Nat.eq_of_beq_eq_true hp1
          obtain ⟨xs, m, rfl, hxe, hlen, hxl, hfd⟩ := DataW.trod_struct hu h
          have hBe : ∀ n ∈ DataW.weightsEach P (fs.toList.map (·.type)) (xs.map (·.1)), n ≤ reachBytes := fun n hn => hB n (by rw [hxe]; simp only [DataW.weights, hu]; exact hn)
          have part : ∀ j : Nat, ∃ cs, ∀ f : Field, fs[j]? = some f → Opened P w f.type cs ((vals.drop f.offset).take (P.cellsOf f.type)) := by
            intro j
            cases hf : fs[j]? with
            | none => exact ⟨[], fun f hf => by cases hf⟩
            | some f =>
              have h1 := hfd j f hf
              have hj : j < fs.size := (Array.getElem?_eq_some_iff.1 hf).1
              rw [List.getElem?_eq_getElem (by omega)] at h1
              obtain ⟨cs, hcs⟩ := trod_opened D m f.type _ _ h1 (List.all_eq_true.1 hp2 f (Array.mem_toList_iff.2 (Array.mem_of_getElem? hf))) (fun n hn => hBe n (DataW.weights_mem_each (j := j) (t := f.type) (by rw [List.getElem?_map, Array.getElem?_toList, hf]; rfl) (by rw [List.getElem?_map, List.getElem?_eq_getElem]; rfl) n hn))
              exact ⟨cs, fun f' hf' => by injection hf' with hf'; subst hf'; exact hcs⟩
          obtain ⟨A, hA⟩ := Classical.axiomOfChoice part
          obtain ⟨_, hr⟩ := runs_flat fs.toList 0 n vals hn (Nat.zero_le _) (by omega)
          have hall : (List.range fs.size).flatMap (fun j => match (fs[j]? : Option Field) with | some f => (vals.drop (Field.offset f)).take (P.cellsOf (Field.type f)) | none => []) = vals := by
            have : (List.range fs.toList.length).flatMap (fun j => match (fs.toList[j]? : Option Field) with | some f => (vals.drop f.offset).take (P.cellsOf f.type) | none => []) = vals := by
              rw [hr]; simp [hn', ← hlen]
            simpa using this
          have hrep := repL_flat (S := (· < w.heap.size)) (w := w) (β := noB) fs.size A (fun j => match (fs[j]? : Option Field) with | some f => (vals.drop (Field.offset f)).take (P.cellsOf (Field.type f)) | none => []) (fun j hj => by
            have hf : fs[j]? = some fs[j] := Array.getElem?_eq_getElem hj
            simp only [hf]
            exact (hA j _ hf).rep)
          rw [hall] at hrep
          refine ⟨_, hrep, fun u hu' => ?_, .struct hu A fun j f hf => (hA j f hf).ty⟩
          rw [← hall] at hu'
          obtain ⟨j, hj, hju⟩ := List.mem_flatMap.1 hu'
          have hj' : j < fs.size := by simpa using hj
          have hf : fs[j]? = some fs[j] := Array.getElem?_eq_getElem hj'
          simp only [hf] at hju
          exact (hA j _ hf).one u hju
        · cases hp1
      case array n e =>
        simp only [Bool.and_eq_true] at hp
        obtain ⟨hp1, hp2⟩ := hp
        have hn := Nat.eq_of_beq_eq_true hp1
        obtain ⟨xs, m, rfl, hxe, hlen, hxl, hfd⟩ := DataW.trod_array hu h
        have hBe : ∀ n ∈ DataW.weightsAll P e (xs.map (·.1)), n ≤ reachBytes := fun n hn => hB n (by rw [hxe]; simp only [DataW.weights, hu]; exact hn)
        have part : ∀ i, ∃ cs, i < n → Opened P w e cs ((vals.drop (i * P.cellsOf e)).take (P.cellsOf e)) := by
          intro i
          by_cases hi : i < n
          · have h1 := hfd i hi
            rw [List.getElem?_eq_getElem (by omega)] at h1
            obtain ⟨cs, hcs⟩ := trod_opened D m e _ _ h1 hp2 (fun n hn => hBe n (weights_all (List.mem_map_of_mem (List.getElem_mem _)) n hn))
            exact ⟨cs, fun _ => hcs⟩
          · exact ⟨[], fun h => absurd h hi⟩
        obtain ⟨A, hA⟩ := Classical.axiomOfChoice part
        have hall := segs_flat vals (P.cellsOf e) n (by omega)
        rw [hn, ← hlen, List.take_length] at hall
        have hrep := repL_flat (S := (· < w.heap.size)) (w := w) (β := noB) n A _ (fun j hj => (hA j hj).rep)
        rw [hall] at hrep
        refine ⟨_, hrep, fun u hu' => ?_, .array hu A fun j hj => (hA j hj).ty⟩
        rw [← hall] at hu'
        obtain ⟨j, hj, hju⟩ := List.mem_flatMap.1 hu'
        exact (hA j (by simpa using hj)).one u hju
end
end Go.Proofs.Ytckjihpdjefpgaa
