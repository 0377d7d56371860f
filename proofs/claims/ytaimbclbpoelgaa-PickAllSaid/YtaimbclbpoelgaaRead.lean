/- An argument that is a slice of structs of one-cell fields, read as a list. -/
import Derived.Test.YtaimbclbpoelgaaBase
namespace Go.Proofs.Ytaimbclbpoelgaa
open Go.RowKit Go.ChangeShapes Go.WideShapes Go.ChangeAt Go.Deep

theorem flat_at {α : Type} (f : α → List Value) (size : Nat) (hf : ∀ a, (f a).length = size) : ∀ (l : List α) (j : Nat) (u : Value), (l.flatMap f)[j]? = some u → ∃ i k a, l[i]? = some a ∧ k < size ∧ j = i * size + k ∧ (f a)[k]? = some u
  | [], j, u, h => by simp at h
  | a :: l, j, u, h => by
    simp only [List.flatMap_cons] at h
    by_cases hj : j < size
    · rw [List.getElem?_append_left (by rw [hf]; exact hj)] at h
      exact ⟨0, j, a, rfl, hj, by simp, h⟩
    · rw [List.getElem?_append_right (by rw [hf]; omega), hf] at h
      obtain ⟨i, k, b, h1, h2, h3, h4⟩ := flat_at f size hf l _ u h
      exact ⟨i + 1, k, b, by simpa using h1, h2, by rw [Nat.add_mul]; omega, h4⟩

section
variable {H : Type} {enc : TypeId × Value → H} {P : Program} {w : World} {base : Nat} {spare : Nat → Bool} {held : Bool}

/-- A slice of whatever elements that are read as things. -/
theorem sl_of_trodG {α : Type} [Inhabited α] (cells : α → List Value) {size : Nat} (hsz : ∀ a, (cells a).length = size) (hpos : 0 < size) {t e : TypeId}
    (ht : P.underlying t = some (.slice e)) (hC : P.cellsOf e = size)
    (hread : ∀ (n : Nat) (vs : List Value) (y : DataW H × List MemPlace), vs.length = size → DataW.trod enc P w base spare held n e vs = some y → ∃ a, cells a = vs)
    {r : Reach} {b0 : Nat} {v : Value} {d : DataW H} {p : List MemPlace} (hv : Value.okWide P w r b0 t v) (h : DataW.Trod enc P w base spare held t v d p) : ∃ l : List α, Sl w.heap.size e size w v l.length (l.flatMap cells) := by
  obtain ⟨a0, len, cap, rfl⟩ := okWide_slice ht hv
  obtain ⟨fuel, hf⟩ := h
  rcases open_slice ht hf with ⟨hcs, -⟩ | ⟨a, len', cap', m, n, D, Pl, hcs, -, hl, hm, hmm, -, hi⟩
  · simp [Value.cells] at hcs
    obtain ⟨rfl, rfl, rfl⟩ := hcs
    exact ⟨[], Sl.nil _ _ _ _⟩
  · simp [Value.cells] at hcs
    obtain ⟨rfl, rfl, rfl⟩ := hcs
    have hlm : len ≤ m := by rw [hmm]; split <;> omega
    have hall : ∀ i, i < len → ∃ x : α, ∀ k u, (cells x)[k]? = some u → w.cell? (a.add (i * size + k)) = some u := by
      intro i hil
      obtain ⟨cs', hc, hcells⟩ := hi i (by omega)
      rw [hC] at hc
      obtain ⟨-, hcl, hat⟩ := World.cells?_some hc
      obtain ⟨x, hx⟩ := hread n cs' _ hcl hcells
      refine ⟨x, fun k u hu => ?_⟩
      rw [hx] at hu
      have hk : k < size := by
        rcases Nat.lt_or_ge k cs'.length with hlt | hge
        · omega
        · rw [List.getElem?_eq_none hge] at hu; cases hu
      have := hat k hk
      rw [Go.Deep.add_add] at this
      rw [this]
      exact hu
    obtain ⟨f, hf⟩ := choose_lt hall
    refine ⟨(List.range len).map f, some a, cap, by simp, by simpa using hl, hm, ?_, fun hpos' => ?_⟩
    · have : ∀ l : List α, (l.flatMap cells).length = l.length * size := by
        intro l
        induction l with
        | nil => simp
        | cons a l ih => simp [ih, hsz, Nat.add_mul, Nat.add_comm]
      exact this _
    · have hlen : 0 < len := by simpa using hpos'
      obtain ⟨u0, hu0⟩ : ∃ u, (cells (f 0))[0]? = some u := ⟨_, List.getElem?_eq_getElem (by rw [hsz]; exact hpos)⟩
      have h0 := hf 0 hlen 0 u0 hu0
      have hsp : a.spot = none := by
        cases hs : a.spot with
        | none => rfl
        | some s =>
          simp [Addr.add, World.cell?, hs] at h0
          split at h0 <;> simp at h0
      obtain ⟨b, off, sp⟩ := a
      dsimp only at hsp
      subst hsp
      have hadd : ∀ j, (⟨b, off, none⟩ : Addr).add j = ⟨b, off + j, none⟩ := fun j => by unfold Addr.add; split <;> simp_all
      refine ⟨b, off, rfl, .inl ?_, fun j u hu => ?_⟩
      · have := lt_of_cell h0
        rw [hadd] at this
        exact this
      · obtain ⟨i, k, x, h1, h2, rfl, h4⟩ := flat_at cells size hsz _ j u hu
        have hil : i < len := by
          rcases Nat.lt_or_ge i len with hlt | hge
          · exact hlt
          · rw [List.getElem?_eq_none (by simpa using hge)] at h1; cases h1
        rw [List.getElem?_map, List.getElem?_range hil] at h1
        simp only [Option.map_some, Option.some.injEq] at h1
        subst h1
        rw [← hadd]
        exact hf i hil k u h4

/-- A slice of structs of one-cell fields. -/
theorem sl_of_trod {α : Type} [Inhabited α] (cells : α → List Value) {size : Nat} (hsz : ∀ a, (cells a).length = size) (hpos : 0 < size) {t e : TypeId} {fs : Array Field}
    (ht : P.underlying t = some (.slice e)) (he : P.underlying e = some (.struct fs)) (hone : oneCellFields P fs = true) (hC : P.cellsOf e = size) (hfs : fs.size = size)
    (hread : ∀ (n : Nat) (vs : List Value), vs.length = size → (∀ (j : Nat) (f : Field), fs[j]? = some f → ∃ v y, vs[j]? = some v ∧ DataW.trod enc P w base spare held n f.type [v] = some y) → ∃ a, cells a = vs)
    {r : Reach} {b0 : Nat} {v : Value} {d : DataW H} {p : List MemPlace} (hv : Value.okWide P w r b0 t v) (h : DataW.Trod enc P w base spare held t v d p) : ∃ l : List α, Sl w.heap.size e size w v l.length (l.flatMap cells) := by
  refine sl_of_trodG cells hsz hpos ht hC (fun n vs y hcl hcells => ?_) hv h
  obtain ⟨ys, n', -, -, hlen, hyl, hfd⟩ := DataW.trod_struct he hcells
  refine hread n' vs hcl (fun j f hj => ?_)
  obtain ⟨ho, hk⟩ := hone_of hone j f hj
  have hjl : j < fs.size := (Array.getElem?_eq_some_iff.1 hj).1
  have h1 := hfd j f hj
  rw [ho, hk] at h1
  have hdr : (vs.drop j).take 1 = [vs[j]'(by omega)] := by rw [List.drop_eq_getElem_cons (by omega)]; rfl
  rw [hdr] at h1
  exact ⟨vs[j]'(by omega), ys[j]'(by omega), List.getElem?_eq_getElem (by omega), h1.trans (List.getElem?_eq_getElem (by omega))⟩
end
end Go.Proofs.Ytaimbclbpoelgaa
