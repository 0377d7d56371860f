/- The contracts of package inst: numbers gathered out of words, and scattered into them. -/
import Derived.Test.YtaimbclbpoelgaaDoorInst
namespace Go.Proofs.YtaimbclbpoelgaaDoor
open Go.RowKit

def gstep (x : Nat) (s : Nat × Nat) (p : Nat × Nat) : Nat × Nat := (setf s.1 s.2 p.2 (field x p.1 p.2), s.2 + p.2)
def gatherN (x : Nat) (parts : List (Nat × Nat)) : Nat × Nat := parts.foldl (gstep x) (0, 0)
def sstep (s : Nat × Nat) (p : Nat × Nat) : Nat × Nat := (setf s.1 p.1 p.2 s.2, s.2 / 2 ^ p.2)
def scatterN (v : Nat) (parts : List (Nat × Nat)) : Nat × Nat := parts.foldl sstep (0, v)
def sizes (parts : List (Nat × Nat)) : Nat := (parts.map (·.2)).sum
def okParts (parts : List (Nat × Nat)) : Prop := (∀ p ∈ parts, 1 ≤ p.2 ∧ p.1 + p.2 ≤ 32) ∧ sizes parts ≤ 32

theorem partsOf_ok (f : Nat) : okParts (partsOf f) := by
  unfold partsOf
  split <;> (refine ⟨?_, ?_⟩ <;> simp [sizes])

theorem gather_inv (x : Nat) : ∀ (parts : List (Nat × Nat)) (s : Nat × Nat), s.1 < 4294967296 → (∀ p ∈ parts, 1 ≤ p.2 ∧ p.1 + p.2 ≤ 32) → s.2 + sizes parts ≤ 32 → (parts.foldl (gstep x) s).1 < 4294967296 ∧ (parts.foldl (gstep x) s).2 = s.2 + sizes parts
  | [], s, h, _, _ => ⟨h, by simp [sizes]⟩
  | p :: l, s, h, hp, hs => by
    have h1 := hp p (by simp)
    have h2 : sizes (p :: l) = p.2 + sizes l := by simp [sizes]
    have := gather_inv x l (gstep x s p) (setf_lt _ _ _ _ (by omega) h) (fun q hq => hp q (by simp [hq])) (by simp only [gstep]; omega)
    refine ⟨this.1, this.2.trans ?_⟩
    simp only [gstep]
    omega

theorem scatter_inv : ∀ (parts : List (Nat × Nat)) (s : Nat × Nat), s.1 < 4294967296 → s.2 < 4294967296 → (∀ p ∈ parts, 1 ≤ p.2 ∧ p.1 + p.2 ≤ 32) → (parts.foldl sstep s).1 < 4294967296 ∧ (parts.foldl sstep s).2 < 4294967296
  | [], s, h, h', _ => ⟨h, h'⟩
  | p :: l, s, h, h', hp => by
    have h1 := hp p (by simp)
    exact scatter_inv l (sstep s p) (setf_lt _ _ _ _ (by omega) h) (Nat.lt_of_le_of_lt (Nat.div_le_self _ _) h') (fun q hq => hp q (by simp [hq]))

/-- The two cells of a span. -/
theorem Sl.span {B0 : Nat} {e : TypeId} {w wr : World} {A : Option Addr} {n c : Nat} {l : List (Nat × Nat)} (h : Sl B0 e 2 w (.slice A n c) n (l.flatMap spanCells)) (hn : n = l.length) (hb : Below w.heap.size w wr) {k : Nat} (hk : k < n) :
    ∃ b off s, A = some ⟨b, off, none⟩ ∧ l[k]? = some s ∧ b < w.heap.size ∧ wr.cell? ⟨b, off + k * 2, none⟩ = some (.int .i64 s.1) ∧ wr.cell? ⟨b, off + k * 2 + 1, none⟩ = some (.int .i64 s.2) := by
  subst hn
  obtain ⟨A', c', hv, h1, h2, h3, h4⟩ := h
  injection hv with hA hn' hc
  subst hA hc
  obtain ⟨b, off, rfl, -, hc⟩ := h4 (by omega)
  have hx : l[k]? = some l[k] := List.getElem?_eq_getElem hk
  have hfl : ∀ (l : List (Nat × Nat)) (k : Nat) (a : Nat × Nat), l[k]? = some a → (l.flatMap spanCells)[k * 2]? = some (.int .i64 a.1) ∧ (l.flatMap spanCells)[k * 2 + 1]? = some (.int .i64 a.2) := by
    intro l
    induction l with
    | nil => intro k a h; simp at h
    | cons b l ih =>
      intro k a h
      cases k with
      | zero => simp at h; subst h; exact ⟨rfl, rfl⟩
      | succ k =>
        simp at h
        have := ih k a h
        simp only [List.flatMap_cons, spanCells]
        rw [show (k + 1) * 2 = k * 2 + 1 + 1 by omega]
        simpa using this
  obtain ⟨f1, f2⟩ := hfl l k _ hx
  have g1 := hc _ _ f1
  have g2 := hc _ _ f2
  exact ⟨b, off, _, rfl, hx, lt_of_cell g1, (hb.cell (lt_of_cell g1)).trans g1, by rw [Nat.add_assoc]; exact (hb.cell (lt_of_cell g2)).trans g2⟩

theorem take_fold {α β : Type} (f : β → α → β) (s : β) (l : List α) (k : Nat) (a : α) (h : l[k]? = some a) : (l.take (k + 1)).foldl f s = f ((l.take k).foldl f s) a := by
  rw [List.take_add_one, h]
  simp

set_option maxHeartbeats 2000000 in
theorem scatter_any (v : Nat) (parts : List (Nat × Nat)) (B0 n : Nat) (vp : Value) (w : World) (hp : Sl B0 61 2 w vp n (parts.flatMap spanCells)) (hn : n = parts.length) (hok : okParts parts) (hl : n ≤ 100) (hv : v < 4294967296) :
    Calls Tryd.prog 27 #[.int .u32 v, vp] w fun e w' => e = .returned (.int .u32 (scatterN v parts).1) ∧ Below w.heap.size w w' := by
  obtain ⟨A, c, rfl, h1, h2, -, -⟩ := id hp
  have HN := Lib.hid hn
  clear hn
  go_enter Tryd.func27, Tryd.ntmps27
  go_wp2_with fail
  go_loopw [0, 5, 7, 10] (fun x o _ i wr => ∃ k : Nat, i = .int .i64 k ∧ k ≤ n ∧ o = .int .u32 ((parts.take k).foldl sstep (0, v)).1 ∧ x = .int .u32 ((parts.take k).foldl sstep (0, v)).2 ∧ Below w.heap.size w wr) (fun _ _ _ i _ => n - (intOf i).toNat)
  case atStart => exact ⟨0, rfl, Nat.zero_le _, rfl, rfl, below_self _⟩
  case round =>
    obtain ⟨k, rfl, hk, rfl, rfl, hb⟩ := hrel
    have hinv := scatter_inv (parts.take k) (0, v) (by show 0 < 4294967296; omega) hv (fun p hp => hok.1 p (List.mem_of_mem_take hp))
    by_cases hkn : k < n
    · obtain ⟨b, off, p, rfl, hx, hbl, q1, q2⟩ := hp.span HN.out hb hkn
      obtain ⟨p1, p2⟩ := hok.1 p (List.mem_of_getElem? hx)
      have hst := Lib.hid (take_fold sstep (0, v) parts k p hx)
      clear hx
      generalize (parts.take k).foldl sstep (0, v) = s at *
      obtain ⟨s1, s2⟩ := s
      obtain ⟨i1, i2⟩ := hinv
      dsimp only at i1 i2
      have hws := hb.size
      have hbr : b < wr.heap.size := Nat.lt_of_lt_of_le hbl hws
      have hsh : ((s2 : Int) / 2 ^ p.2) = ((s2 / 2 ^ p.2 : Nat) : Int) := by simp
      have HSH := Lib.hid hsh
      clear hsh
      go_wp2_with (go_at_call 28; refine (set_any s1 p.1 p.2 s2 _ p1 p2 i1 i2).mono ?_; rintro e w3 ⟨rfl, B3⟩; have hc3 := B3.cell (p := ⟨wr.heap.size, 1, none⟩) (by simp); have hb3 : Below w.heap.size w w3 := (hb.alloc hws _).trans (B3.mono (by simp; omega)); clear B3)
      go_roundw
      case rel => exact ⟨k + 1, by go_num, by omega, by rw [hst.out]; rfl, by rw [hst.out]; simp only [sstep]; rw [← HSH.out], hb3⟩
      case measure => simp [intOf]; omega
    · have hkk : k = n := by omega
      have hfin : Hid (parts.take k = parts) := by show _ = _; rw [hkk, HN.out, List.take_length]
      clear hkk hinv
      go_wp2_with fail
      go_ret
      exact ⟨by rw [hfin.out]; rfl, hb⟩
end Go.Proofs.YtaimbclbpoelgaaDoor
