
/- The contracts of package inst: numbers gathered out of words, and scattered into them. -/
import Derived.Test.YtckjihpdjefpgaaInst
namespace Go.Proofs.Ytckjihpdjefpgaa
open Go.RowKit

def gstep (x : Nat) (s : Nat × Nat) (p : Nat × Nat) : Nat × Nat := (setf s.1 s.2 p.2 (field x p.1 p.2), s.2 + p.2)
def gatherN (x : Nat) (parts : List (Nat × Nat)) : Nat × Nat := parts.foldl (gstep x) (0, 0)
def sstep (s : Nat × Nat) (p : Nat × Nat) : Nat × Nat := (setf s.1 p.1 p.2 s.2, s.2 / 2 ^ p.2)
def scatterN (v : Nat) (parts : List (Nat × Nat)) : Nat × Nat := parts.foldl sstep (0, v)
def sizes (parts : List (Nat × Nat)) : Nat := (parts.map (·.2)).sum
def okParts (parts : List (Nat × Nat)) : Prop := (∀ p ∈ parts, 1 ≤ p.2 ∧ p.1 + p.2 ≤ 32) ∧ sizes parts ≤ 32

theorem partsOf_ok (f : Nat) : okParts (partsOf f) := by
  unfold partsOf
  split <;> (refine ⟨?_, ?_⟩ <;> simp [sizes])

theorem gather_inv (x : Nat) : ∀ (parts : List (Nat × Nat)) (s : Nat × Nat), s.1 < 4294967296 → (∀ p ∈ parts, 1 ≤ p.2 ∧ p.1 + p.2 ≤ 32) → s.2 + sizes parts ≤ 32 → (parts.foldl (gstep x) s).1 < 4294967296 ∧ (parts.foldl (gstep x) s).2 = s.2 + sizes parts
  | [], s, h, _, _ => ⟨h, by simp [sizes]⟩
  | p :: l, s, h, hp, hs => by
    have h1 := hp p (by simp)
    have h2 : sizes (p :: l) = p.2 + sizes l := by simp [sizes]
    have := gather_inv x l (gstep x s p) (setf_lt _ _ _ _ (by omega) h) (fun q hq => hp q (by simp [hq])) (by simp only [gstep]; omega)
    refine ⟨this.1, this.2.trans ?_⟩
    simp only [gstep]
    omega

theorem scatter_inv : ∀ (parts : List (Nat × Nat)) (s : Nat × Nat), s.1 < 4294967296 → s.2 < 4294967296 → (∀ p ∈ parts, 1 ≤ p.2 ∧ p.1 + p.2 ≤ 32) → (parts.foldl sstep s).1 < 4294967296 ∧ (parts.foldl sstep s).2 < 4294967296
  | [], s, h, h', _ => ⟨h, h'⟩
  | p :: l, s, h, h', hp => by
    have h1 := hp p (by simp)
    exact scatter_inv l (sstep s p) (setf_lt _ _ _ _ (by omega) h) (Nat.lt_of_le_of_lt (Nat.div_le_self _ _) h') (fun q hq => hp q (by simp [hq]))

/-- The two cells of a span. -/
theorem Sl.span {B0 : Nat} {e : TypeId} {w wr : World} {A : Option Addr} {n c : Nat} {l : List (Nat × Nat)} (h : Sl B0 e 2 w (.slice A n c) n (l.flatMap spanCells)) (hn : n = l.length) (hb : Below w.heap.size w wr) {k : Nat} (hk : k < n) :
    ∃ b off s, A = some ⟨b, off, none⟩ ∧ l[k]? = some s ∧ b < w.heap.size ∧ wr.cell? ⟨b, off + k * 2, none⟩ = some (.int .i64 s.1) ∧ wr.cell? ⟨b, off + k * 2 + 1, none⟩ = some (.int .i64 s.2) := by
  subst hn
  obtain ⟨A', c', hv, h1, h2, h3, h4⟩ := h
  injection hv with hA hn' hc
  subst hA hc
  obtain ⟨b, off, rfl, -, hc⟩ := h4 (by omega)
  have hx : l[k]? = some l[k] := List.getElem?_eq_getElem hk
  have hfl : ∀ (l : List (Nat × Nat)) (k : Nat) (a : Nat × Nat), l[k]? = some a → (l.flatMap spanCells)[k * 2]? = some (.int .i64 a.1) ∧ (l.flatMap spanCells)[k * 2 + 1]? = some (.int .i64 a.2) := by
    intro l
    induction l with
    | nil => intro k a h; simp at h
    | cons b l ih =>
      intro k a h
      cases k with
      | zero => simp at h; subst h; exact ⟨rfl, rfl⟩
      | succ k =>
        simp at h
        have := ih k a h
        simp only [List.flatMap_cons, spanCells]
        rw [show (k + 1) * 2 = k * 2 + 1 + 1 by omega]
        simpa using this
  obtain ⟨f1, f2⟩ := hfl l k _ hx
  have g1 := hc _ _ f1
  have g2 := hc _ _ f2
  exact ⟨b, off, _, rfl, hx, lt_of_cell g1, (hb.cell (lt_of_cell g1)).trans g1, by rw [Nat.add_assoc]; exact (hb.cell (lt_of_cell g2)).trans g2⟩

theorem take_fold {α β : Type} (f : β → α → β) (s : β) (l : List α) (k : Nat) (a : α) (h : l[k]? = some a) : (l.take (k + 1)).foldl f s = f ((l.take k).foldl f s) a := by
  rw [List.take_add_one, h]
  simp

end Go.Proofs.Ytckjihpdjefpgaa
