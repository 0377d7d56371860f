/- The references of caches and sights: walks. -/
import Derived.Test.YtckjihpdjefpgaaLaw22W
namespace Go.Proofs.Ytckjihpdjefpgaa
open Go.RowKit

set_option maxRecDepth 100000 in
set_option maxHeartbeats 4000000 in
theorem rLikeSets (a b : List (List Wy)) (ha : a.length ≤ 1000000) (hb : b.length ≤ 1000000) (hsa : ∀ s ∈ a, s.length ≤ 1000000) (hsb : ∀ s ∈ b, s.length ≤ 1000000) : DCall C0 54 [.sl 1 (a.map rowSet) false, .sl 1 (b.map rowSet) false] (.v (.bool (rowE (rowE eqWy) a b))) := by
  refine DCall.intro c0Ok Try.func54 rfl rfl (by kernel_rfl) rfl ?_
  refine cSeq ?_
  refine cReg rfl ?_
  refine rOk (d := 4) (x := vB false) rfl rfl rfl ?_
  refine rEnd (n' := 1) rfl ?_
  refine cSeq ?_
  refine cSeq ?_
  refine cReg rfl ?_
  refine rOk (d := 7) (x := .sl 1 (a.map rowSet) false) rfl rfl rfl ?_
  refine rOk (d := 8) (x := vN a.length) rfl rfl (lenMap rowSet a) ?_
  refine rOk (d := 9) (x := .sl 1 (b.map rowSet) false) rfl rfl rfl ?_
  refine rOk (d := 10) (x := vN b.length) rfl rfl (lenMap rowSet b) ?_
  refine rOk (d := 11) (x := vB (a.length != b.length)) rfl rfl (okB (neN _ _)) ?_
  refine rEnd (n' := 6) rfl ?_
  refine cCond (v := a.length != b.length) rfl (fun h1 => ?_) (fun h1 => ?_)
  · skip
    refine cSeq ?_
    refine cReg rfl ?_
    refine rOk (d := 4) (x := vB false) rfl rfl rfl ?_
    refine rEnd (n' := 7) rfl ?_
    refine cRet ?_
    exact finTA rfl trivial rfl (congrArg (fun z => AV.v (.bool z)) (rowE_len (by simpa using h1)).symm)
  · skip
    refine cSkip ?_
    refine cSeq ?_
    refine cSeq ?_
    refine cReg rfl ?_
    refine rOk (d := 12) (x := .sl 1 (a.map rowSet) false) rfl rfl rfl ?_
    refine rOk (d := 13) (x := vN a.length) rfl rfl (lenMap rowSet a) ?_
    refine rOk (d := 14) (x := vI 0) rfl rfl rfl ?_
    refine rEnd (n' := 9) rfl ?_
    refine cBlock ?_
    refine cLoop (κ := Nat) (fun k => ⟨slotsF [(0, .sl 1 (a.map rowSet) false), (1, .sl 1 (b.map rowSet) false), (13, vN a.length), (14, vN k)], heapF [], 9⟩) (fun k => k ≤ a.length ∧ rowE (rowE eqWy) a b = rowE (rowE eqWy) (a.drop k) (b.drop k)) (fun k => a.length - k) 0 (fun s => s) (Weak.of_lists (fun s => s) ⟨⟨rfl, rfl⟩, ⟨rfl, rfl⟩, ⟨rfl, rfl⟩, ⟨rfl, rfl⟩, trivial⟩ trivial rfl) (⟨Nat.zero_le _, rfl⟩) ?_
    intro k hk
    have hkB : k ≤ 1000000 := by have := hk.1; omega
    refine cSeq ?_
    refine cReg rfl ?_
    refine rOk (d := 15) (x := vB (decide (k < a.length))) rfl rfl (okB (ltN _ _)) ?_
    refine rEnd (n' := 10) rfl ?_
    refine cSeq ?_
    refine cCond (v := decide (k < a.length)) rfl (fun h2 => ?_) (fun h2 => ?_)
    · skip
      refine cSkip ?_
      refine cSeq ?_
      refine cBlock ?_
      refine cSeq ?_
      refine cReg rfl ?_
      refine rOk (d := 16) (x := vN k) rfl rfl rfl ?_
      refine rOk (d := 5) (x := vN k) rfl rfl rfl ?_
      refine rEnd (n' := 12) rfl ?_
      refine cSeq ?_
      refine cSeq ?_
      refine cReg rfl ?_
      refine rOk (d := 17) (x := .sl 1 (a.map rowSet) false) rfl rfl rfl ?_
      refine rOk (d := 18) (x := vN k) rfl rfl rfl ?_
      have hkl := of_decide_eq_true h2
      obtain ⟨s, hs⟩ : ∃ s, a[k]? = some s := ⟨_, List.getElem?_eq_getElem hkl⟩
      obtain ⟨t, ht⟩ : ∃ t, b[k]? = some t := ⟨_, List.getElem?_eq_getElem (by have : a.length = b.length := (by simpa using h1); omega)⟩
      have hsl := hsa s (List.mem_of_getElem? hs)
      have htl := hsb t (List.mem_of_getElem? ht)
      refine rIdx (rowSet s) (d := 19) (x := .dp 1 0 (rowSet s)) rfl rfl rfl (⟨Int.natCast_nonneg _, getM hs⟩) rfl ?_
      refine rOk (d := 20) (x := .sl 3 (s.map wyL) false) rfl rfl rfl ?_
      refine rOk (d := 21) (x := vN s.length) rfl rfl (lenMap wyL s) ?_
      refine rOk (d := 22) (x := .sl 1 (b.map rowSet) false) rfl rfl rfl ?_
      refine rOk (d := 23) (x := vN k) rfl rfl rfl ?_
      refine rIdx (rowSet t) (d := 24) (x := .dp 1 0 (rowSet t)) rfl rfl rfl (⟨Int.natCast_nonneg _, getM ht⟩) rfl ?_
      refine rOk (d := 25) (x := .sl 3 (t.map wyL) false) rfl rfl rfl ?_
      refine rOk (d := 26) (x := vN t.length) rfl rfl (lenMap wyL t) ?_
      refine rOk (d := 27) (x := vB (s.length != t.length)) rfl rfl (okB (neN _ _)) ?_
      refine rEnd (n' := 23) rfl ?_
      refine cCond (v := s.length != t.length) rfl (fun h3 => ?_) (fun h3 => ?_)
      · skip
        refine cSeq ?_
        refine cReg rfl ?_
        refine rOk (d := 4) (x := vB false) rfl rfl rfl ?_
        refine rEnd (n' := 24) rfl ?_
        refine cRet ?_
        exact finTA rfl trivial rfl (congrArg (fun z => AV.v (.bool z)) (rowE_no hs ht (rowE_len (by simpa using h3)) hk.2).symm)
      · skip
        refine cSkip ?_
        refine cSeq ?_
        refine cReg rfl ?_
        refine rOk (d := 28) (x := .sl 1 (a.map rowSet) false) rfl rfl rfl ?_
        refine rOk (d := 29) (x := vN k) rfl rfl rfl ?_
        refine rIdx (rowSet s) (d := 30) (x := .dp 1 0 (rowSet s)) rfl rfl rfl (⟨Int.natCast_nonneg _, getM hs⟩) rfl ?_
        refine rOk (d := 31) (x := .sl 3 (s.map wyL) false) rfl rfl rfl ?_
        refine rOk (d := 32) (x := vN s.length) rfl rfl (lenMap wyL s) ?_
        refine rOk (d := 33) (x := vI 0) rfl rfl rfl ?_
        refine rEnd (n' := 29) rfl ?_
        refine cBlock ?_
        refine cLoop (κ := Nat) (fun j => ⟨slotsF [(0, .sl 1 (a.map rowSet) false), (1, .sl 1 (b.map rowSet) false), (13, vN a.length), (14, vN k), (5, vN k), (32, vN s.length), (33, vN j)], heapF [], 29⟩) (fun j => j ≤ s.length ∧ rowE eqWy s t = rowE eqWy (s.drop j) (t.drop j)) (fun j => s.length - j) 0 (fun s => s) (Weak.of_lists (fun s => s) ⟨⟨rfl, rfl⟩, ⟨rfl, rfl⟩, ⟨rfl, rfl⟩, ⟨rfl, rfl⟩, ⟨rfl, rfl⟩, ⟨rfl, rfl⟩, ⟨rfl, rfl⟩, trivial⟩ trivial rfl) (⟨Nat.zero_le _, rfl⟩) ?_
        intro j hj
        have hjB : j ≤ 1000000 := by have := hj.1; omega
        refine cSeq ?_
        refine cReg rfl ?_
        refine rOk (d := 34) (x := vB (decide (j < s.length))) rfl rfl (okB (ltN _ _)) ?_
        refine rEnd (n' := 30) rfl ?_
        refine cSeq ?_
        refine cCond (v := decide (j < s.length)) rfl (fun h4 => ?_) (fun h4 => ?_)
        · skip
          refine cSkip ?_
          refine cSeq ?_
          refine cBlock ?_
          refine cSeq ?_
          refine cReg rfl ?_
          refine rOk (d := 35) (x := vN j) rfl rfl rfl ?_
          refine rOk (d := 6) (x := vN j) rfl rfl rfl ?_
          refine rEnd (n' := 32) rfl ?_
          refine cSeq ?_
          refine cReg rfl ?_
          have hjl := of_decide_eq_true h4
          obtain ⟨x, hx⟩ : ∃ x, s[j]? = some x := ⟨_, List.getElem?_eq_getElem hjl⟩
          obtain ⟨y, hy⟩ : ∃ y, t[j]? = some y := ⟨_, List.getElem?_eq_getElem (by have : s.length = t.length := (by simpa using h3); omega)⟩
          refine rOk (d := 36) (x := .sl 1 (a.map rowSet) false) rfl rfl rfl ?_
          refine rOk (d := 37) (x := vN k) rfl rfl rfl ?_
          refine rIdx (rowSet s) (d := 38) (x := .dp 1 0 (rowSet s)) rfl rfl rfl (⟨Int.natCast_nonneg _, getM hs⟩) rfl ?_
          refine rOk (d := 39) (x := .sl 3 (s.map wyL) false) rfl rfl rfl ?_
          refine rOk (d := 40) (x := vN j) rfl rfl rfl ?_
          refine rIdx (wyL x) (d := 41) (x := .dp 3 0 (wyL x)) rfl rfl rfl (⟨Int.natCast_nonneg _, getM hx⟩) rfl ?_
          refine rOk (d := 42) (x := .agg (wyL x)) rfl rfl rfl ?_
          refine rOk (d := 43) (x := .sl 1 (b.map rowSet) false) rfl rfl rfl ?_
          refine rOk (d := 44) (x := vN k) rfl rfl rfl ?_
          refine rIdx (rowSet t) (d := 45) (x := .dp 1 0 (rowSet t)) rfl rfl rfl (⟨Int.natCast_nonneg _, getM ht⟩) rfl ?_
          refine rOk (d := 46) (x := .sl 3 (t.map wyL) false) rfl rfl rfl ?_
          refine rOk (d := 47) (x := vN j) rfl rfl rfl ?_
          refine rIdx (wyL y) (d := 48) (x := .dp 3 0 (wyL y)) rfl rfl rfl (⟨Int.natCast_nonneg _, getM hy⟩) rfl ?_
          refine rOk (d := 49) (x := .agg (wyL y)) rfl rfl rfl ?_
          refine rOk (d := 50) (x := vB (!((((x.line : Nat) : Int) == ((y.line : Nat) : Int)) && ((x.dirty == y.dirty) && ((x.data == y.data) && true))))) rfl rfl rfl ?_
          refine rEnd (n' := 47) rfl ?_
          refine cCond (v := !((((x.line : Nat) : Int) == ((y.line : Nat) : Int)) && ((x.dirty == y.dirty) && ((x.data == y.data) && true)))) rfl (fun h5 => ?_) (fun h5 => ?_)
          · skip
            refine cSeq ?_
            refine cReg rfl ?_
            refine rOk (d := 4) (x := vB false) rfl rfl rfl ?_
            refine rEnd (n' := 48) rfl ?_
            refine cRet ?_
            exact finTA rfl trivial rfl (congrArg (fun z => AV.v (.bool z)) (rowE_no hs ht (rowE_no hx hy (by have q : (!(eqWy x y)) = true := h5; simpa using q) hj.2) hk.2).symm)
          · skip
            refine cSkip ?_
            refine cReg rfl ?_
            have b1 : j + 1 ≤ 1000001 := Nat.add_le_add hjB (Nat.le_refl 1)
            refine rOk (d := 51) (x := vN (j + 1)) rfl rfl (okI (wrapI64 b1 rfl)) ?_
            refine rOk (d := 33) (x := vN (j + 1)) rfl rfl rfl ?_
            refine rEnd (n' := 49) rfl ?_
            refine ⟨j + 1, fun s => s, Weak.of_lists (fun s => s) ⟨⟨rfl, rfl⟩, ⟨rfl, rfl⟩, ⟨rfl, rfl⟩, ⟨rfl, rfl⟩, ⟨rfl, rfl⟩, ⟨rfl, rfl⟩, ⟨rfl, rfl⟩, trivial⟩ trivial rfl, ⟨hjl, rowE_next hx hy (by have q : (!(eqWy x y)) = false := h5; simpa using q) hj.2⟩, by show s.length - (j + 1) < s.length - j; omega⟩
        · skip
          refine cExit ?_
          refine cReg rfl ?_
          have b2 : k + 1 ≤ 1000001 := Nat.add_le_add hkB (Nat.le_refl 1)
          refine rOk (d := 52) (x := vN (k + 1)) rfl rfl (okI (wrapI64 b2 rfl)) ?_
          refine rOk (d := 14) (x := vN (k + 1)) rfl rfl rfl ?_
          refine rEnd (n' := 32) rfl ?_
          refine ⟨k + 1, fun s => s, Weak.of_lists (fun s => s) ⟨⟨rfl, rfl⟩, ⟨rfl, rfl⟩, ⟨rfl, rfl⟩, ⟨rfl, rfl⟩, trivial⟩ trivial rfl, ⟨hkl, rowE_next hs ht (rowE_end (by have := of_decide_eq_false h4; omega) (by have := of_decide_eq_false h4; have : s.length = t.length := (by simpa using h3); omega) hj.2) hk.2⟩, by show a.length - (k + 1) < a.length - k; omega⟩
    · skip
      refine cExit ?_
      refine cSeq ?_
      refine cReg rfl ?_
      refine rOk (d := 4) (x := vB true) rfl rfl rfl ?_
      refine rEnd (n' := 11) rfl ?_
      refine cRet ?_
      have hab : a.length = b.length := (by simpa using h1)
      have hke := of_decide_eq_false h2
      exact finTA rfl trivial rfl (congrArg (fun z => AV.v (.bool z)) (rowE_end (by omega) (by omega) hk.2).symm)

theorem sameSe_iff (x y : Seen) : sameSe x y = true ↔ rowE (rowE eqWy) x.data y.data = true ∧ rowE (rowE eqWy) x.words y.words = true ∧ rowE eqRq x.bus y.bus = true ∧ rowE eqU x.pcs y.pcs = true := by
  unfold sameSe; simp only [Bool.and_eq_true]
theorem sameSe_f {x y : Seen} (h : ¬ sameSe x y = true) : sameSe x y = false := by simpa using h
theorem b4 : ∀ a b c d : Bool, cond2 (cond2 (cond2 (!a) true (!b)) true c) true d = false → a = true ∧ b = true ∧ c = false ∧ d = false := by decide
theorem rs_ok {x y : Seen} (h : cond2 (cond2 (cond2 (!(rowE (rowE eqWy) x.data y.data)) true (!(rowE (rowE eqWy) x.words y.words))) true (x.bus.length != y.bus.length)) true (x.pcs.length != y.pcs.length) = false) :
    rowE (rowE eqWy) x.data y.data = true ∧ rowE (rowE eqWy) x.words y.words = true ∧ x.bus.length = y.bus.length ∧ x.pcs.length = y.pcs.length := by
  obtain ⟨h1, h2, h3, h4⟩ := b4 _ _ _ _ h
  exact ⟨h1, h2, by simpa using h3, by simpa using h4⟩
theorem rs_no {x y : Seen} (h : cond2 (cond2 (cond2 (!(rowE (rowE eqWy) x.data y.data)) true (!(rowE (rowE eqWy) x.words y.words))) true (x.bus.length != y.bus.length)) true (x.pcs.length != y.pcs.length) = true) : sameSe x y = false := sameSe_f fun k => by
  obtain ⟨h1, h2, h3, h4⟩ := (sameSe_iff x y).1 k
  rw [h1, h2, rowE_lenEq h3, rowE_lenEq h4] at h
  simp [cond2] at h

set_option maxRecDepth 100000 in
set_option maxHeartbeats 4000000 in
theorem rSame (x y : Seen) (hx : x.ok) (hy : y.ok) : DCall C0 25 [.agg (seL x), .agg (seL y)] (.v (.bool (sameSe x y))) := by
  refine DCall.intro c0Ok Try.func25 rfl rfl (by kernel_rfl) rfl ?_
  refine cSeq ?_
  refine cReg rfl ?_
  refine rFx (d := 2) (x := .ptr 0 0) (h' := upd _ 0 (some (.box [.sl 1 (x.data.map rowSet) false, .sl 1 (x.words.map rowSet) false, .sl 4 (x.bus.map rqL) false, .sl 1 (x.pcs.map rowU) false]))) rfl rfl (rfl) (trivial) ?_
  refine rFx (d := 3) (x := .ptr 1 0) (h' := upd _ 1 (some (.box [.sl 1 (y.data.map rowSet) false, .sl 1 (y.words.map rowSet) false, .sl 4 (y.bus.map rqL) false, .sl 1 (y.pcs.map rowU) false]))) rfl rfl (rfl) (trivial) ?_
  refine rOk (d := 4) (x := vB false) rfl rfl rfl ?_
  refine rEnd (n' := 3) rfl ?_
  refine cSeq ?_
  refine cSeq ?_
  refine cReg rfl ?_
  refine rOk (d := 7) (x := .ptr 0 0) rfl rfl rfl ?_
  refine rOk (d := 8) (x := .sl 1 (x.data.map rowSet) false) rfl rfl rfl ?_
  refine rOk (d := 9) (x := .ptr 1 0) rfl rfl rfl ?_
  refine rOk (d := 10) (x := .sl 1 (y.data.map rowSet) false) rfl rfl rfl ?_
  refine rCall (args := [.sl 1 (x.data.map rowSet) false, .sl 1 (y.data.map rowSet) false]) (d := 11) (x := vB (rowE (rowE eqWy) x.data y.data)) rfl rfl rfl rfl (.inl rfl) rfl (rLikeSets x.data y.data hx.data hy.data hx.dat hy.dat) ?_
  refine rOk (d := 12) (x := vB (!(rowE (rowE eqWy) x.data y.data))) rfl rfl rfl ?_
  refine rOk (d := 13) (x := vB (!(rowE (rowE eqWy) x.data y.data))) rfl rfl rfl ?_
  refine gOk (d := 14) (x := .ptr 0 1) (g := !(!(rowE (rowE eqWy) x.data y.data))) rfl rfl rfl rfl rfl rfl ?_
  refine gOkS (d := 15) (x := .sl 1 (x.words.map rowSet) false) (g := !(!(rowE (rowE eqWy) x.data y.data))) rfl rfl rfl rfl (fun h => h) rfl rfl ?_
  refine gOk (d := 16) (x := .ptr 1 1) (g := !(!(rowE (rowE eqWy) x.data y.data))) rfl rfl rfl rfl rfl rfl ?_
  refine gOkS (d := 17) (x := .sl 1 (y.words.map rowSet) false) (g := !(!(rowE (rowE eqWy) x.data y.data))) rfl rfl rfl rfl (fun h => h) rfl rfl ?_
  refine gCallS (args := [.sl 1 (x.words.map rowSet) false, .sl 1 (y.words.map rowSet) false]) (d := 18) (x := vB (rowE (rowE eqWy) x.words y.words)) (g := !(!(rowE (rowE eqWy) x.data y.data))) rfl rfl rfl rfl (fun h => by first | (simp_all; done) | exact (Bool.and_eq_true_iff.1 h).1 | exact Bool.and_eq_true_iff.2 ⟨h, h⟩) rfl rfl rfl (.inl rfl) rfl (fun hg => rLikeSets x.words y.words hx.words hy.words hx.word hy.word) ?_
  refine gOkS (d := 19) (x := vB (!(rowE (rowE eqWy) x.words y.words))) (g := !(!(rowE (rowE eqWy) x.data y.data))) rfl rfl rfl rfl (fun h => h) rfl rfl ?_
  refine rNeed (d := 20) (x := vB (cond2 (!(rowE (rowE eqWy) x.data y.data)) true (!(rowE (rowE eqWy) x.words y.words)))) rfl rfl rfl (by simp) ?_
  refine rOk (d := 21) (x := vB (cond2 (!(rowE (rowE eqWy) x.data y.data)) true (!(rowE (rowE eqWy) x.words y.words)))) rfl rfl rfl ?_
  refine gOk (d := 22) (x := .ptr 0 2) (g := !(cond2 (!(rowE (rowE eqWy) x.data y.data)) true (!(rowE (rowE eqWy) x.words y.words)))) rfl rfl rfl rfl rfl rfl ?_
  refine gOkS (d := 23) (x := .sl 4 (x.bus.map rqL) false) (g := !(cond2 (!(rowE (rowE eqWy) x.data y.data)) true (!(rowE (rowE eqWy) x.words y.words)))) rfl rfl rfl rfl (fun h => h) rfl rfl ?_
  refine gOkS (d := 24) (x := vN x.bus.length) (g := !(cond2 (!(rowE (rowE eqWy) x.data y.data)) true (!(rowE (rowE eqWy) x.words y.words)))) rfl rfl rfl rfl (fun h => h) rfl (lenMap rqL x.bus) ?_
  refine gOk (d := 25) (x := .ptr 1 2) (g := !(cond2 (!(rowE (rowE eqWy) x.data y.data)) true (!(rowE (rowE eqWy) x.words y.words)))) rfl rfl rfl rfl rfl rfl ?_
  refine gOkS (d := 26) (x := .sl 4 (y.bus.map rqL) false) (g := !(cond2 (!(rowE (rowE eqWy) x.data y.data)) true (!(rowE (rowE eqWy) x.words y.words)))) rfl rfl rfl rfl (fun h => h) rfl rfl ?_
  refine gOkS (d := 27) (x := vN y.bus.length) (g := !(cond2 (!(rowE (rowE eqWy) x.data y.data)) true (!(rowE (rowE eqWy) x.words y.words)))) rfl rfl rfl rfl (fun h => h) rfl (lenMap rqL y.bus) ?_
  refine gOkS (d := 28) (x := vB (x.bus.length != y.bus.length)) (g := !(cond2 (!(rowE (rowE eqWy) x.data y.data)) true (!(rowE (rowE eqWy) x.words y.words)))) rfl rfl rfl rfl (fun h => by first | (simp_all; done) | exact (Bool.and_eq_true_iff.1 h).1 | exact Bool.and_eq_true_iff.2 ⟨h, h⟩) rfl (okB (neN _ _)) ?_
  refine rNeed (d := 29) (x := vB (cond2 (cond2 (!(rowE (rowE eqWy) x.data y.data)) true (!(rowE (rowE eqWy) x.words y.words))) true (x.bus.length != y.bus.length))) rfl rfl rfl (by simp) ?_
  refine rOk (d := 30) (x := vB (cond2 (cond2 (!(rowE (rowE eqWy) x.data y.data)) true (!(rowE (rowE eqWy) x.words y.words))) true (x.bus.length != y.bus.length))) rfl rfl rfl ?_
  refine gOk (d := 31) (x := .ptr 0 3) (g := !(cond2 (cond2 (!(rowE (rowE eqWy) x.data y.data)) true (!(rowE (rowE eqWy) x.words y.words))) true (x.bus.length != y.bus.length))) rfl rfl rfl rfl rfl rfl ?_
  refine gOkS (d := 32) (x := .sl 1 (x.pcs.map rowU) false) (g := !(cond2 (cond2 (!(rowE (rowE eqWy) x.data y.data)) true (!(rowE (rowE eqWy) x.words y.words))) true (x.bus.length != y.bus.length))) rfl rfl rfl rfl (fun h => h) rfl rfl ?_
  refine gOkS (d := 33) (x := vN x.pcs.length) (g := !(cond2 (cond2 (!(rowE (rowE eqWy) x.data y.data)) true (!(rowE (rowE eqWy) x.words y.words))) true (x.bus.length != y.bus.length))) rfl rfl rfl rfl (fun h => h) rfl (lenMap rowU x.pcs) ?_
  refine gOk (d := 34) (x := .ptr 1 3) (g := !(cond2 (cond2 (!(rowE (rowE eqWy) x.data y.data)) true (!(rowE (rowE eqWy) x.words y.words))) true (x.bus.length != y.bus.length))) rfl rfl rfl rfl rfl rfl ?_
  refine gOkS (d := 35) (x := .sl 1 (y.pcs.map rowU) false) (g := !(cond2 (cond2 (!(rowE (rowE eqWy) x.data y.data)) true (!(rowE (rowE eqWy) x.words y.words))) true (x.bus.length != y.bus.length))) rfl rfl rfl rfl (fun h => h) rfl rfl ?_
  refine gOkS (d := 36) (x := vN y.pcs.length) (g := !(cond2 (cond2 (!(rowE (rowE eqWy) x.data y.data)) true (!(rowE (rowE eqWy) x.words y.words))) true (x.bus.length != y.bus.length))) rfl rfl rfl rfl (fun h => h) rfl (lenMap rowU y.pcs) ?_
  refine gOkS (d := 37) (x := vB (x.pcs.length != y.pcs.length)) (g := !(cond2 (cond2 (!(rowE (rowE eqWy) x.data y.data)) true (!(rowE (rowE eqWy) x.words y.words))) true (x.bus.length != y.bus.length))) rfl rfl rfl rfl (fun h => by first | (simp_all; done) | exact (Bool.and_eq_true_iff.1 h).1 | exact Bool.and_eq_true_iff.2 ⟨h, h⟩) rfl (okB (neN _ _)) ?_
  refine rNeed (d := 38) (x := vB (cond2 (cond2 (cond2 (!(rowE (rowE eqWy) x.data y.data)) true (!(rowE (rowE eqWy) x.words y.words))) true (x.bus.length != y.bus.length)) true (x.pcs.length != y.pcs.length))) rfl rfl rfl (by simp) ?_
  refine rEnd (n' := 35) rfl ?_
  refine cCond (v := cond2 (cond2 (cond2 (!(rowE (rowE eqWy) x.data y.data)) true (!(rowE (rowE eqWy) x.words y.words))) true (x.bus.length != y.bus.length)) true (x.pcs.length != y.pcs.length)) rfl (fun h1 => ?_) (fun h1 => ?_)
  · skip
    refine cSeq ?_
    refine cReg rfl ?_
    refine rOk (d := 4) (x := vB false) rfl rfl rfl ?_
    refine rEnd (n' := 36) rfl ?_
    refine cRet ?_
    exact finTA rfl trivial rfl (congrArg (fun z => AV.v (.bool z)) (rs_no h1).symm)
  · skip
    refine cSkip ?_
    refine cSeq ?_
    refine cSeq ?_
    refine cReg rfl ?_
    refine rOk (d := 39) (x := .ptr 0 2) rfl rfl rfl ?_
    refine rOk (d := 40) (x := .sl 4 (x.bus.map rqL) false) rfl rfl rfl ?_
    refine rOk (d := 41) (x := vN x.bus.length) rfl rfl (lenMap rqL x.bus) ?_
    refine rOk (d := 42) (x := vI 0) rfl rfl rfl ?_
    refine rEnd (n' := 39) rfl ?_
    refine cBlock ?_
    refine cLoop (κ := Nat) (fun j => ⟨slotsF [(2, .ptr 0 0), (3, .ptr 1 0), (41, vN x.bus.length), (42, vN j)], heapF [(0, .box [.sl 1 (x.data.map rowSet) false, .sl 1 (x.words.map rowSet) false, .sl 4 (x.bus.map rqL) false, .sl 1 (x.pcs.map rowU) false]), (1, .box [.sl 1 (y.data.map rowSet) false, .sl 1 (y.words.map rowSet) false, .sl 4 (y.bus.map rqL) false, .sl 1 (y.pcs.map rowU) false])], 39⟩) (fun j => j ≤ x.bus.length ∧ rowE eqRq x.bus y.bus = rowE eqRq (x.bus.drop j) (y.bus.drop j)) (fun j => x.bus.length - j) 0 (fun s => s) (Weak.of_lists (fun s => s) ⟨⟨rfl, rfl⟩, ⟨rfl, rfl⟩, ⟨rfl, rfl⟩, ⟨rfl, rfl⟩, trivial⟩ ⟨⟨rfl, rfl, rfl⟩, ⟨rfl, rfl, rfl⟩, trivial⟩ rfl) (⟨Nat.zero_le _, rfl⟩) ?_
    intro j hj
    have hjB : j ≤ 1000000 := by have := hj.1; have := hx.bus; omega
    refine cSeq ?_
    refine cReg rfl ?_
    refine rOk (d := 43) (x := vB (decide (j < x.bus.length))) rfl rfl (okB (ltN _ _)) ?_
    refine rEnd (n' := 40) rfl ?_
    refine cSeq ?_
    refine cCond (v := decide (j < x.bus.length)) rfl (fun h2 => ?_) (fun h2 => ?_)
    · skip
      refine cSkip ?_
      refine cSeq ?_
      refine cBlock ?_
      refine cSeq ?_
      refine cReg rfl ?_
      refine rOk (d := 44) (x := vN j) rfl rfl rfl ?_
      refine rOk (d := 5) (x := vN j) rfl rfl rfl ?_
      refine rEnd (n' := 42) rfl ?_
      refine cSeq ?_
      refine cReg rfl ?_
      have hjl := of_decide_eq_true h2
      obtain ⟨p, hp⟩ : ∃ p, x.bus[j]? = some p := ⟨_, List.getElem?_eq_getElem hjl⟩
      obtain ⟨q, hq⟩ : ∃ q, y.bus[j]? = some q := ⟨_, List.getElem?_eq_getElem (by have := rs_ok h1; omega)⟩
      refine rOk (d := 45) (x := .ptr 0 2) rfl rfl rfl ?_
      refine rOk (d := 46) (x := .sl 4 (x.bus.map rqL) false) rfl rfl rfl ?_
      refine rOk (d := 47) (x := vN j) rfl rfl rfl ?_
      refine rIdx (rqL p) (d := 48) (x := .dp 4 0 (rqL p)) rfl rfl rfl (⟨Int.natCast_nonneg _, getM hp⟩) rfl ?_
      refine rOk (d := 49) (x := .agg (rqL p)) rfl rfl rfl ?_
      refine rOk (d := 50) (x := .ptr 1 2) rfl rfl rfl ?_
      refine rOk (d := 51) (x := .sl 4 (y.bus.map rqL) false) rfl rfl rfl ?_
      refine rOk (d := 52) (x := vN j) rfl rfl rfl ?_
      refine rIdx (rqL q) (d := 53) (x := .dp 4 0 (rqL q)) rfl rfl rfl (⟨Int.natCast_nonneg _, getM hq⟩) rfl ?_
      refine rOk (d := 54) (x := .agg (rqL q)) rfl rfl rfl ?_
      refine rOk (d := 55) (x := vB (!((p.kind == q.kind) && ((((p.line : Nat) : Int) == ((q.line : Nat) : Int)) && ((p.left == q.left) && ((p.data == q.data) && true)))))) rfl rfl rfl ?_
      refine rEnd (n' := 53) rfl ?_
      refine cCond (v := !((p.kind == q.kind) && ((((p.line : Nat) : Int) == ((q.line : Nat) : Int)) && ((p.left == q.left) && ((p.data == q.data) && true))))) rfl (fun h3 => ?_) (fun h3 => ?_)
      · skip
        refine cSeq ?_
        refine cReg rfl ?_
        refine rOk (d := 4) (x := vB false) rfl rfl rfl ?_
        refine rEnd (n' := 54) rfl ?_
        refine cRet ?_
        exact finTA rfl trivial rfl (congrArg (fun z => AV.v (.bool z)) (sameSe_f fun c => by have c1 := ((sameSe_iff x y).1 c).2.2.1; rw [rowE_no hp hq (by have z : (!(eqRq p q)) = true := h3; simpa using z) hj.2] at c1; cases c1).symm)
      · skip
        refine cSkip ?_
        refine cReg rfl ?_
        have b1 : j + 1 ≤ 1000001 := Nat.add_le_add hjB (Nat.le_refl 1)
        refine rOk (d := 56) (x := vN (j + 1)) rfl rfl (okI (wrapI64 b1 rfl)) ?_
        refine rOk (d := 42) (x := vN (j + 1)) rfl rfl rfl ?_
        refine rEnd (n' := 55) rfl ?_
        refine ⟨j + 1, fun s => s, Weak.of_lists (fun s => s) ⟨⟨rfl, rfl⟩, ⟨rfl, rfl⟩, ⟨rfl, rfl⟩, ⟨rfl, rfl⟩, trivial⟩ ⟨⟨rfl, rfl, rfl⟩, ⟨rfl, rfl, rfl⟩, trivial⟩ rfl, ⟨hjl, rowE_next hp hq (by have z : (!(eqRq p q)) = false := h3; simpa using z) hj.2⟩, by show x.bus.length - (j + 1) < x.bus.length - j; omega⟩
    · skip
      refine cExit ?_
      refine cSeq ?_
      refine cSeq ?_
      refine cReg rfl ?_
      refine rOk (d := 57) (x := .ptr 0 3) rfl rfl rfl ?_
      refine rOk (d := 58) (x := .sl 1 (x.pcs.map rowU) false) rfl rfl rfl ?_
      refine rOk (d := 59) (x := vN x.pcs.length) rfl rfl (lenMap rowU x.pcs) ?_
      refine rOk (d := 60) (x := vI 0) rfl rfl rfl ?_
      refine rEnd (n' := 44) rfl ?_
      refine cBlock ?_
      refine cLoop (κ := Nat) (fun k => ⟨slotsF [(2, .ptr 0 0), (3, .ptr 1 0), (59, vN x.pcs.length), (60, vN k)], heapF [(0, .box [.sl 1 (x.data.map rowSet) false, .sl 1 (x.words.map rowSet) false, .sl 4 (x.bus.map rqL) false, .sl 1 (x.pcs.map rowU) false]), (1, .box [.sl 1 (y.data.map rowSet) false, .sl 1 (y.words.map rowSet) false, .sl 4 (y.bus.map rqL) false, .sl 1 (y.pcs.map rowU) false])], 44⟩) (fun k => k ≤ x.pcs.length ∧ rowE eqU x.pcs y.pcs = rowE eqU (x.pcs.drop k) (y.pcs.drop k)) (fun k => x.pcs.length - k) 0 (fun s => s) (Weak.of_lists (fun s => s) ⟨⟨rfl, rfl⟩, ⟨rfl, rfl⟩, ⟨rfl, rfl⟩, ⟨rfl, rfl⟩, trivial⟩ ⟨⟨rfl, rfl, rfl⟩, ⟨rfl, rfl, rfl⟩, trivial⟩ rfl) (⟨Nat.zero_le _, rfl⟩) ?_
      intro k hk
      have hkB : k ≤ 1000000 := by have := hk.1; have := hx.pcs; omega
      refine cSeq ?_
      refine cReg rfl ?_
      refine rOk (d := 61) (x := vB (decide (k < x.pcs.length))) rfl rfl (okB (ltN _ _)) ?_
      refine rEnd (n' := 45) rfl ?_
      refine cSeq ?_
      refine cCond (v := decide (k < x.pcs.length)) rfl (fun h4 => ?_) (fun h4 => ?_)
      · skip
        refine cSkip ?_
        refine cSeq ?_
        refine cBlock ?_
        refine cSeq ?_
        refine cReg rfl ?_
        refine rOk (d := 62) (x := vN k) rfl rfl rfl ?_
        refine rOk (d := 6) (x := vN k) rfl rfl rfl ?_
        refine rEnd (n' := 47) rfl ?_
        refine cSeq ?_
        refine cReg rfl ?_
        have hkl := of_decide_eq_true h4
        obtain ⟨p, hp⟩ : ∃ p, x.pcs[k]? = some p := ⟨_, List.getElem?_eq_getElem hkl⟩
        obtain ⟨q, hq⟩ : ∃ q, y.pcs[k]? = some q := ⟨_, List.getElem?_eq_getElem (by have := rs_ok h1; omega)⟩
        refine rOk (d := 63) (x := .ptr 0 3) rfl rfl rfl ?_
        refine rOk (d := 64) (x := .sl 1 (x.pcs.map rowU) false) rfl rfl rfl ?_
        refine rOk (d := 65) (x := vN k) rfl rfl rfl ?_
        refine rIdx (rowU p) (d := 66) (x := .dp 1 0 (rowU p)) rfl rfl rfl (⟨Int.natCast_nonneg _, getM hp⟩) rfl ?_
        refine rOk (d := 67) (x := vU p) rfl rfl rfl ?_
        refine rOk (d := 68) (x := .ptr 1 3) rfl rfl rfl ?_
        refine rOk (d := 69) (x := .sl 1 (y.pcs.map rowU) false) rfl rfl rfl ?_
        refine rOk (d := 70) (x := vN k) rfl rfl rfl ?_
        refine rIdx (rowU q) (d := 71) (x := .dp 1 0 (rowU q)) rfl rfl rfl (⟨Int.natCast_nonneg _, getM hq⟩) rfl ?_
        refine rOk (d := 72) (x := vU q) rfl rfl rfl ?_
        refine rOk (d := 73) (x := vB (p != q)) rfl rfl (okB (neN _ _)) ?_
        refine rEnd (n' := 58) rfl ?_
        refine cCond (v := p != q) rfl (fun h5 => ?_) (fun h5 => ?_)
        · skip
          refine cSeq ?_
          refine cReg rfl ?_
          refine rOk (d := 4) (x := vB false) rfl rfl rfl ?_
          refine rEnd (n' := 59) rfl ?_
          refine cRet ?_
          exact finTA rfl trivial rfl (congrArg (fun z => AV.v (.bool z)) (sameSe_f fun c => by have c1 := ((sameSe_iff x y).1 c).2.2.2; rw [rowE_no hp hq (by have z : (!(eqU p q)) = true := h5; simpa using z) hk.2] at c1; cases c1).symm)
        · skip
          refine cSkip ?_
          refine cReg rfl ?_
          have b2 : k + 1 ≤ 1000001 := Nat.add_le_add hkB (Nat.le_refl 1)
          refine rOk (d := 74) (x := vN (k + 1)) rfl rfl (okI (wrapI64 b2 rfl)) ?_
          refine rOk (d := 60) (x := vN (k + 1)) rfl rfl rfl ?_
          refine rEnd (n' := 60) rfl ?_
          refine ⟨k + 1, fun s => s, Weak.of_lists (fun s => s) ⟨⟨rfl, rfl⟩, ⟨rfl, rfl⟩, ⟨rfl, rfl⟩, ⟨rfl, rfl⟩, trivial⟩ ⟨⟨rfl, rfl, rfl⟩, ⟨rfl, rfl, rfl⟩, trivial⟩ rfl, ⟨hkl, rowE_next hp hq (by have z : (!(eqU p q)) = false := h5; simpa using z) hk.2⟩, by show x.pcs.length - (k + 1) < x.pcs.length - k; omega⟩
      · skip
        refine cExit ?_
        refine cSeq ?_
        refine cReg rfl ?_
        refine rOk (d := 4) (x := vB true) rfl rfl rfl ?_
        refine rEnd (n' := 46) rfl ?_
        refine cRet ?_
        have r0 := rs_ok h1
        have r1 := of_decide_eq_false h2
        have r2 := of_decide_eq_false h4
        exact finTA rfl trivial rfl (congrArg (fun z => AV.v (.bool z)) ((sameSe_iff x y).2 ⟨r0.1, r0.2.1, rowE_end (by omega) (by omega) hj.2, rowE_end (by omega) (by omega) hk.2⟩).symm)
set_option maxRecDepth 100000 in
set_option maxHeartbeats 4000000 in
theorem rSetOf (c : Ca) (line : Nat) (ck : Bool) (h0 : 0 < c.sets.length) (hl : c.sets.length ≤ 1000000) (hline : line ≤ 4294967295) : DCall C0 112 [.agg (caL c ck), vU line] (vN (setOf c line)) := by
  refine DCall.intro c0Ok Try.func112 rfl rfl (by kernel_rfl) rfl ?_
  refine cSeq ?_
  refine cReg rfl ?_
  refine rFx (d := 2) (x := .ptr 0 0) (h' := upd _ 0 (some (.box [vI c.ways, .sl 1 (c.sets.map rowSet) ck]))) rfl rfl (rfl) (trivial) ?_
  refine rOk (d := 4) (x := vI 0) rfl rfl rfl ?_
  refine rEnd (n' := 2) rfl ?_
  refine cSeq ?_
  refine cReg rfl ?_
  refine rOk (d := 5) (x := vU line) rfl rfl rfl ?_
  have b1 : line / 16 ≤ 268435455 := Nat.div_le_div_right hline
  refine rNeed (d := 6) (x := vU (line / 16)) rfl rfl (needI (modI b1 rfl)) (by decide) ?_
  refine rOk (d := 7) (x := vN (line / 16)) rfl rfl (okI (wrapI64 b1 rfl)) ?_
  refine rOk (d := 8) (x := .ptr 0 1) rfl rfl rfl ?_
  refine rOk (d := 9) (x := .sl 1 (c.sets.map rowSet) ck) rfl rfl rfl ?_
  refine rOk (d := 10) (x := vN c.sets.length) rfl rfl (lenMap rowSet c.sets) ?_
  refine rNeed (d := 11) (x := vI (Int.tmod ((line / 16 : Nat) : Int) ((c.sets.length : Nat) : Int))) rfl rfl rfl (by omega) ?_
  refine rOk (d := 4) (x := vI (Int.tmod ((line / 16 : Nat) : Int) ((c.sets.length : Nat) : Int))) rfl rfl rfl ?_
  refine rEnd (n' := 10) rfl ?_
  refine cRet ?_
  exact finTA rfl trivial rfl rfl

theorem placeW_none {s : List Wy} {line : Nat} : placeW s line = none ↔ ∀ (q : Nat) z, s[q]? = some z → z.line ≠ line := by
  induction s with
  | nil => exact ⟨fun _ q z h => by simp at h, fun _ => rfl⟩
  | cons w l ih =>
    unfold placeW
    by_cases h : w.line = line
    · rw [if_pos h]
      exact ⟨fun k => (by cases k), fun k => absurd h (k 0 w rfl)⟩
    · rw [if_neg h, Option.map_eq_none_iff, ih]
      refine ⟨fun k q z hz => ?_, fun k q z hz => k (q + 1) z hz⟩
      cases q with
      | zero => injection hz with hz; subst hz; exact h
      | succ q => exact k q z hz
theorem placeT_none {s : List Wy} {line j : Nat} : placeW (s.take j) line = none ↔ ∀ (q : Nat) z, q < j → s[q]? = some z → z.line ≠ line := by
  rw [placeW_none]
  constructor
  · intro h q z hq hz; exact h q z (by rw [List.getElem?_take, if_pos hq]; exact hz)
  · intro h q z hz
    rw [List.getElem?_take] at hz
    split at hz
    · rename_i hq; exact h q z hq hz
    · cases hz
theorem lineOf_eq (a : Nat) : lineOf a = a ↔ a % 16 = 0 := by unfold lineOf; omega
theorem b5 : ∀ a b c d : Bool, cond2 (cond2 a true b) true (cond2 c d false) = false → a = false ∧ b = false ∧ (c = false ∨ d = false) := by decide
theorem rway_ok {c : Ca} {k : Nat} {x : Wy} (h : cond2 (cond2 (x.line % 16 != 0) true (setOf c x.line != k)) true (cond2 ((x.data.size : Int) != 0) ((x.data.size : Int) != 16) false) = false) : lineOf x.line = x.line ∧ setOf c x.line = k ∧ (x.data.size = 0 ∨ x.data.size = 16) := by
  rw [lineOf_eq]
  obtain ⟨h1, h2, h3⟩ := b5 _ _ _ _ h
  refine ⟨by simpa using h1, by simpa using h2, ?_⟩
  rcases h3 with h3 | h3
  · left; have : (x.data.size : Int) = 0 := by simpa using h3
    omega
  · right; have : (x.data.size : Int) = 16 := by simpa using h3
    omega
theorem rway_no {c : Ca} {k : Nat} {x : Wy} (h : cond2 (cond2 (x.line % 16 != 0) true (setOf c x.line != k)) true (cond2 ((x.data.size : Int) != 0) ((x.data.size : Int) != 16) false) = true) : ¬ (lineOf x.line = x.line ∧ setOf c x.line = k ∧ (x.data.size = 0 ∨ x.data.size = 16)) := by
  rw [lineOf_eq]
  rintro ⟨h1, h2, h3 | h3⟩ <;> simp [cond2, h1, h2, h3] at h

set_option maxRecDepth 100000 in
set_option maxHeartbeats 4000000 in
theorem rRight (c : Ca) (ck : Bool) (hok : c.ok) : DCall C0 91 [.agg (caL c ck)] (vB (rightCa c)) := by
  refine DCall.intro c0Ok Try.func91 rfl rfl (by kernel_rfl) rfl ?_
  refine cSeq ?_
  refine cReg rfl ?_
  refine rFx (d := 1) (x := .ptr 0 0) (h' := upd _ 0 (some (.box [vI c.ways, .sl 1 (c.sets.map rowSet) ck]))) rfl rfl (rfl) (trivial) ?_
  refine rOk (d := 2) (x := vB false) rfl rfl rfl ?_
  refine rEnd (n' := 2) rfl ?_
  refine cSeq ?_
  refine cReg rfl ?_
  refine rOk (d := 9) (x := .ptr 0 1) rfl rfl rfl ?_
  refine rOk (d := 10) (x := .sl 1 (c.sets.map rowSet) ck) rfl rfl rfl ?_
  refine rOk (d := 11) (x := vN c.sets.length) rfl rfl (lenMap rowSet c.sets) ?_
  refine rOk (d := 3) (x := vN c.sets.length) rfl rfl rfl ?_
  refine rEnd (n' := 6) rfl ?_
  refine cSeq ?_
  refine cSeq ?_
  refine cReg rfl ?_
  refine rOk (d := 12) (x := vN c.sets.length) rfl rfl rfl ?_
  refine rOk (d := 13) (x := vB (c.sets.length != 1)) rfl rfl (okB (neN _ _)) ?_
  refine rOk (d := 14) (x := vB (c.sets.length != 1)) rfl rfl rfl ?_
  refine gOk (d := 15) (x := vN c.sets.length) (g := c.sets.length != 1) rfl rfl rfl rfl rfl rfl ?_
  refine gOkS (d := 16) (x := vB (c.sets.length != 2)) (g := c.sets.length != 1) rfl rfl rfl rfl (fun h => h) rfl (okB (neN _ _)) ?_
  refine rNeed (d := 17) (x := vB (cond2 (c.sets.length != 1) (c.sets.length != 2) false)) rfl rfl rfl (fun h => h) ?_
  refine rOk (d := 18) (x := vB (cond2 (c.sets.length != 1) (c.sets.length != 2) false)) rfl rfl rfl ?_
  refine gOk (d := 19) (x := vN c.sets.length) (g := cond2 (c.sets.length != 1) (c.sets.length != 2) false) rfl rfl rfl rfl rfl rfl ?_
  refine gOkS (d := 20) (x := vB (c.sets.length != 4)) (g := cond2 (c.sets.length != 1) (c.sets.length != 2) false) rfl rfl rfl rfl (fun h => h) rfl (okB (neN _ _)) ?_
  refine rNeed (d := 21) (x := vB (cond2 (cond2 (c.sets.length != 1) (c.sets.length != 2) false) (c.sets.length != 4) false)) rfl rfl rfl (fun h => h) ?_
  refine rOk (d := 22) (x := vB (cond2 (cond2 (c.sets.length != 1) (c.sets.length != 2) false) (c.sets.length != 4) false)) rfl rfl rfl ?_
  refine gOk (d := 23) (x := .ptr 0 0) (g := !(cond2 (cond2 (c.sets.length != 1) (c.sets.length != 2) false) (c.sets.length != 4) false)) rfl rfl rfl rfl rfl rfl ?_
  refine gOkS (d := 24) (x := vI c.ways) (g := !(cond2 (cond2 (c.sets.length != 1) (c.sets.length != 2) false) (c.sets.length != 4) false)) rfl rfl rfl rfl (fun h => h) rfl rfl ?_
  refine gOkS (d := 25) (x := vB (c.ways != 1)) (g := !(cond2 (cond2 (c.sets.length != 1) (c.sets.length != 2) false) (c.sets.length != 4) false)) rfl rfl rfl rfl (fun h => h) rfl rfl ?_
  refine gOkS (d := 26) (x := vB (c.ways != 1)) (g := !(cond2 (cond2 (c.sets.length != 1) (c.sets.length != 2) false) (c.sets.length != 4) false)) rfl rfl rfl rfl (fun h => h) rfl rfl ?_
  refine gOk (d := 27) (x := .ptr 0 0) (g := (!(cond2 (cond2 (c.sets.length != 1) (c.sets.length != 2) false) (c.sets.length != 4) false)) && (c.ways != 1)) rfl rfl rfl rfl rfl rfl ?_
  refine gOkS (d := 28) (x := vI c.ways) (g := (!(cond2 (cond2 (c.sets.length != 1) (c.sets.length != 2) false) (c.sets.length != 4) false)) && (c.ways != 1)) rfl rfl rfl rfl (fun h => h) rfl rfl ?_
  refine gOkS (d := 29) (x := vB (c.ways != 2)) (g := (!(cond2 (cond2 (c.sets.length != 1) (c.sets.length != 2) false) (c.sets.length != 4) false)) && (c.ways != 1)) rfl rfl rfl rfl (fun h => h) rfl rfl ?_
  refine gNeedS (d := 30) (x := vB (cond2 (c.ways != 1) (c.ways != 2) false)) (g := !(cond2 (cond2 (c.sets.length != 1) (c.sets.length != 2) false) (c.sets.length != 4) false)) rfl rfl rfl rfl (fun h => h) rfl rfl (fun hg hc => by first | (rw [hg, hc]; rfl) | simp_all) ?_
  refine rNeed (d := 31) (x := vB (cond2 (cond2 (cond2 (c.sets.length != 1) (c.sets.length != 2) false) (c.sets.length != 4) false) true (cond2 (c.ways != 1) (c.ways != 2) false))) rfl rfl rfl (by simp) ?_
  refine rEnd (n' := 26) rfl ?_
  refine cCond (v := cond2 (cond2 (cond2 (c.sets.length != 1) (c.sets.length != 2) false) (c.sets.length != 4) false) true (cond2 (c.ways != 1) (c.ways != 2) false)) rfl (fun h1 => ?_) (fun h1 => ?_)
  · skip
    refine cSeq ?_
    refine cReg rfl ?_
    refine rOk (d := 2) (x := vB false) rfl rfl rfl ?_
    refine rEnd (n' := 27) rfl ?_
    refine cRet ?_
    exact fB (x := false) rfl (rightCa_no (c := c) (fun q => cache_nohead h1 ((rightCa_iff c).1 q).1)).symm
  · skip
    refine cSkip ?_
    refine cSeq ?_
    refine cSeq ?_
    refine cReg rfl ?_
    refine rOk (d := 32) (x := .ptr 0 1) rfl rfl rfl ?_
    refine rOk (d := 33) (x := .sl 1 (c.sets.map rowSet) ck) rfl rfl rfl ?_
    refine rOk (d := 34) (x := vN c.sets.length) rfl rfl (lenMap rowSet c.sets) ?_
    refine rOk (d := 35) (x := vI 0) rfl rfl rfl ?_
    refine rEnd (n' := 30) rfl ?_
    refine cBlock ?_
    refine cLoop (κ := Nat) (fun k => ⟨slotsF [(1, .ptr 0 0), (33, .sl 1 (c.sets.map rowSet) ck), (34, vN c.sets.length), (35, vN k)], heapF [(0, .box [vI c.ways, .sl 1 (c.sets.map rowSet) ck])], 30⟩) (fun k => k ≤ c.sets.length ∧ ∀ i s, i < k → c.sets[i]? = some s → rightSet c i s = true) (fun k => c.sets.length - k) 0 (fun s => s) (Weak.of_lists (fun s => s) ⟨⟨rfl, rfl⟩, ⟨rfl, rfl⟩, ⟨rfl, rfl⟩, ⟨rfl, rfl⟩, trivial⟩ ⟨⟨rfl, rfl, rfl⟩, trivial⟩ rfl) (⟨Nat.zero_le _, fun i s h => absurd h (Nat.not_lt_zero i)⟩) ?_
    intro k hk
    have hkB : k ≤ 1000000 := by have := hk.1; have := (cache_head h1).1; omega
    refine cSeq ?_
    refine cReg rfl ?_
    refine rOk (d := 36) (x := vB (decide (k < c.sets.length))) rfl rfl (okB (ltN _ _)) ?_
    refine rEnd (n' := 31) rfl ?_
    refine cSeq ?_
    refine cCond (v := decide (k < c.sets.length)) rfl (fun h2 => ?_) (fun h2 => ?_)
    · skip
      refine cSkip ?_
      refine cSeq ?_
      refine cBlock ?_
      refine cSeq ?_
      refine cReg rfl ?_
      refine rOk (d := 37) (x := vN k) rfl rfl rfl ?_
      obtain ⟨s, hs⟩ : ∃ s, c.sets[k]? = some s := ⟨_, List.getElem?_eq_getElem (of_decide_eq_true h2)⟩
      have hso := hok.set s (List.mem_of_getElem? hs)
      refine rIdx (rowSet s) (d := 38) (x := .dp 1 0 (rowSet s)) rfl rfl rfl (⟨Int.natCast_nonneg _, getM hs⟩) rfl ?_
      refine rOk (d := 39) (x := .sl 3 (s.map wyL) false) rfl rfl rfl ?_
      refine rOk (d := 4) (x := vN k) rfl rfl rfl ?_
      refine rOk (d := 5) (x := .sl 3 (s.map wyL) false) rfl rfl rfl ?_
      refine rEnd (n' := 36) rfl ?_
      refine cSeq ?_
      refine cSeq ?_
      refine cReg rfl ?_
      refine rOk (d := 40) (x := .sl 3 (s.map wyL) false) rfl rfl rfl ?_
      refine rOk (d := 41) (x := vN s.length) rfl rfl (lenMap wyL s) ?_
      refine rOk (d := 42) (x := .ptr 0 0) rfl rfl rfl ?_
      refine rOk (d := 43) (x := vI c.ways) rfl rfl rfl ?_
      refine rOk (d := 44) (x := vB (decide (((s.length : Nat) : Int) > c.ways))) rfl rfl rfl ?_
      refine rEnd (n' := 41) rfl ?_
      refine cCond (v := decide (((s.length : Nat) : Int) > c.ways)) rfl (fun h3 => ?_) (fun h3 => ?_)
      · skip
        refine cSeq ?_
        refine cReg rfl ?_
        refine rOk (d := 2) (x := vB false) rfl rfl rfl ?_
        refine rEnd (n' := 42) rfl ?_
        refine cRet ?_
        exact fB (x := false) rfl (rightCa_no (c := c) (fun q => absurd ((rightSet_iff c k s).1 (((rightCa_iff c).1 q).2 k s hs)).1 (by have := of_decide_eq_true h3; omega))).symm
      · skip
        refine cSkip ?_
        refine cSeq ?_
        refine cReg rfl ?_
        refine rOk (d := 45) (x := .sl 3 (s.map wyL) false) rfl rfl rfl ?_
        refine rOk (d := 46) (x := vN s.length) rfl rfl (lenMap wyL s) ?_
        refine rOk (d := 47) (x := vI 0) rfl rfl rfl ?_
        refine rEnd (n' := 44) rfl ?_
        refine cBlock ?_
        refine cLoop (κ := Nat) (fun j => ⟨slotsF [(1, .ptr 0 0), (33, .sl 1 (c.sets.map rowSet) ck), (34, vN c.sets.length), (35, vN k), (4, vN k), (5, .sl 3 (s.map wyL) false), (45, .sl 3 (s.map wyL) false), (46, vN s.length), (47, vN j)], heapF [(0, .box [vI c.ways, .sl 1 (c.sets.map rowSet) ck])], 44⟩) (fun j => j ≤ s.length ∧ ∀ i x, i < j → s[i]? = some x → wayOk c k s i x) (fun j => s.length - j) 0 (fun s => s) (Weak.of_lists (fun s => s) ⟨⟨rfl, rfl⟩, ⟨rfl, rfl⟩, ⟨rfl, rfl⟩, ⟨rfl, rfl⟩, ⟨rfl, rfl⟩, ⟨rfl, rfl⟩, ⟨rfl, rfl⟩, ⟨rfl, rfl⟩, ⟨rfl, rfl⟩, trivial⟩ ⟨⟨rfl, rfl, rfl⟩, trivial⟩ rfl) (⟨Nat.zero_le _, fun i s h => absurd h (Nat.not_lt_zero i)⟩) ?_
        intro j hj
        have hjB : j ≤ 1000000 := by have := hj.1; have := (cache_head h1).2; have := of_decide_eq_false h3; omega
        refine cSeq ?_
        refine cReg rfl ?_
        refine rOk (d := 48) (x := vB (decide (j < s.length))) rfl rfl (okB (ltN _ _)) ?_
        refine rEnd (n' := 45) rfl ?_
        refine cSeq ?_
        refine cCond (v := decide (j < s.length)) rfl (fun h4 => ?_) (fun h4 => ?_)
        · skip
          refine cSkip ?_
          refine cSeq ?_
          refine cBlock ?_
          refine cSeq ?_
          refine cReg rfl ?_
          refine rOk (d := 49) (x := vN j) rfl rfl rfl ?_
          obtain ⟨x, hx⟩ : ∃ x, s[j]? = some x := ⟨_, List.getElem?_eq_getElem (of_decide_eq_true h4)⟩
          have hxo := hso.2 x (List.mem_of_getElem? hx)
          refine rIdx (wyL x) (d := 50) (x := .dp 3 0 (wyL x)) rfl rfl rfl (⟨Int.natCast_nonneg _, getM hx⟩) rfl ?_
          refine rOk (d := 51) (x := .agg (wyL x)) rfl rfl rfl ?_
          refine rFx (d := 7) (x := .ptr 48 0) (h' := upd _ 48 (some (.box [.v (.int .u32 0), vB false, .v (.string (⟨#[]⟩))]))) rfl rfl (rfl) (trivial) ?_
          refine rOk (d := 6) (x := vN j) rfl rfl rfl ?_
          refine rFx0 (h' := upd _ 48 (some (.box [vU x.line, vB x.dirty, .v (.string x.data)]))) rfl rfl (rfl) (trivial) ?_
          refine rEnd (n' := 51) rfl ?_
          refine cSeq ?_
          refine cSeq ?_
          refine cReg rfl ?_
          refine rOk (d := 52) (x := .ptr 48 0) rfl rfl rfl ?_
          refine rOk (d := 53) (x := vU x.line) rfl rfl rfl ?_
          have b1 : x.line % 16 ≤ 15 := Nat.le_of_lt_succ (Nat.mod_lt _ (by decide))
          refine rNeed (d := 54) (x := vU (x.line % 16)) rfl rfl rfl (by decide) ?_
          refine rOk (d := 55) (x := vB ((x.line % 16) != 0)) rfl rfl (okB (neN _ _)) ?_
          refine rOk (d := 56) (x := vB ((x.line % 16) != 0)) rfl rfl rfl ?_
          refine gOk (d := 57) (x := .agg [vI c.ways, .sl 1 (c.sets.map rowSet) ck]) (g := !((x.line % 16) != 0)) rfl rfl rfl rfl rfl rfl ?_
          refine gOk (d := 58) (x := .ptr 48 0) (g := !((x.line % 16) != 0)) rfl rfl rfl rfl rfl rfl ?_
          refine gOkS (d := 59) (x := vU x.line) (g := !((x.line % 16) != 0)) rfl rfl rfl rfl (fun h => h) rfl rfl ?_
          refine gCallS (args := [.agg [vI c.ways, .sl 1 (c.sets.map rowSet) ck], vU x.line]) (d := 60) (x := vN (setOf c x.line)) (g := !((x.line % 16) != 0)) rfl rfl rfl rfl (fun h => by first | (simp_all; done) | exact (Bool.and_eq_true_iff.1 h).1 | exact Bool.and_eq_true_iff.2 ⟨h, h⟩) rfl rfl rfl (.inl rfl) rfl (fun hg => rSetOf c x.line ck (by have := of_decide_eq_true h2; omega) (by have := (cache_head h1).1; omega) hxo.line) ?_
          refine gOk (d := 61) (x := vN k) (g := !((x.line % 16) != 0)) rfl rfl rfl rfl rfl rfl ?_
          refine gOkS (d := 62) (x := vB ((setOf c x.line) != k)) (g := !((x.line % 16) != 0)) rfl rfl rfl rfl (fun h => by first | (simp_all; done) | exact (Bool.and_eq_true_iff.1 h).1 | exact Bool.and_eq_true_iff.2 ⟨h, h⟩) rfl (okB (neN _ _)) ?_
          refine rNeed (d := 63) (x := vB (cond2 ((x.line % 16) != 0) true ((setOf c x.line) != k))) rfl rfl rfl (by simp) ?_
          refine rOk (d := 64) (x := vB (cond2 ((x.line % 16) != 0) true ((setOf c x.line) != k))) rfl rfl rfl ?_
          refine gOk (d := 65) (x := .ptr 48 2) (g := !(cond2 ((x.line % 16) != 0) true ((setOf c x.line) != k))) rfl rfl rfl rfl rfl rfl ?_
          refine gOkS (d := 66) (x := .v (.string x.data)) (g := !(cond2 ((x.line % 16) != 0) true ((setOf c x.line) != k))) rfl rfl rfl rfl (fun h => h) rfl rfl ?_
          refine gOkS (d := 67) (x := vI (x.data.size : Int)) (g := !(cond2 ((x.line % 16) != 0) true ((setOf c x.line) != k))) rfl rfl rfl rfl (fun h => h) rfl rfl ?_
          refine gOkS (d := 68) (x := vB ((x.data.size : Int) != 0)) (g := !(cond2 ((x.line % 16) != 0) true ((setOf c x.line) != k))) rfl rfl rfl rfl (fun h => h) rfl rfl ?_
          refine gOkS (d := 69) (x := vB ((x.data.size : Int) != 0)) (g := !(cond2 ((x.line % 16) != 0) true ((setOf c x.line) != k))) rfl rfl rfl rfl (fun h => h) rfl rfl ?_
          refine gOk (d := 70) (x := .ptr 48 2) (g := (!(cond2 ((x.line % 16) != 0) true ((setOf c x.line) != k))) && ((x.data.size : Int) != 0)) rfl rfl rfl rfl rfl rfl ?_
          refine gOkS (d := 71) (x := .v (.string x.data)) (g := (!(cond2 ((x.line % 16) != 0) true ((setOf c x.line) != k))) && ((x.data.size : Int) != 0)) rfl rfl rfl rfl (fun h => h) rfl rfl ?_
          refine gOkS (d := 72) (x := vI (x.data.size : Int)) (g := (!(cond2 ((x.line % 16) != 0) true ((setOf c x.line) != k))) && ((x.data.size : Int) != 0)) rfl rfl rfl rfl (fun h => h) rfl rfl ?_
          refine gOkS (d := 73) (x := vB ((x.data.size : Int) != 16)) (g := (!(cond2 ((x.line % 16) != 0) true ((setOf c x.line) != k))) && ((x.data.size : Int) != 0)) rfl rfl rfl rfl (fun h => h) rfl rfl ?_
          refine gNeedS (d := 74) (x := vB (cond2 ((x.data.size : Int) != 0) ((x.data.size : Int) != 16) false)) (g := !(cond2 ((x.line % 16) != 0) true ((setOf c x.line) != k))) rfl rfl rfl rfl (fun h => h) rfl rfl (fun hg hc => by first | (rw [hg, hc]; rfl) | simp_all) ?_
          refine rNeed (d := 75) (x := vB (cond2 (cond2 ((x.line % 16) != 0) true ((setOf c x.line) != k)) true (cond2 ((x.data.size : Int) != 0) ((x.data.size : Int) != 16) false))) rfl rfl rfl (by simp) ?_
          refine rEnd (n' := 75) rfl ?_
          refine cCond (v := cond2 (cond2 ((x.line % 16) != 0) true ((setOf c x.line) != k)) true (cond2 ((x.data.size : Int) != 0) ((x.data.size : Int) != 16) false)) rfl (fun h5 => ?_) (fun h5 => ?_)
          · skip
            refine cSeq ?_
            refine cReg rfl ?_
            refine rOk (d := 2) (x := vB false) rfl rfl rfl ?_
            refine rEnd (n' := 76) rfl ?_
            refine cRet ?_
            exact fB (x := false) rfl (rightCa_no (c := c) (fun q => by have z := ((rightSet_iff c k s).1 (((rightCa_iff c).1 q).2 k s hs)).2 j x hx; exact rway_no h5 ⟨z.1, z.2.1, z.2.2.1⟩)).symm
          · skip
            refine cSkip ?_
            refine cSeq ?_
            refine cReg rfl ?_
            refine rOk (d := 8) (x := vI 0) rfl rfl rfl ?_
            refine rEnd (n' := 76) rfl ?_
            refine cBlock ?_
            refine cLoop (κ := Nat) (fun i => ⟨slotsF [(1, .ptr 0 0), (33, .sl 1 (c.sets.map rowSet) ck), (34, vN c.sets.length), (35, vN k), (4, vN k), (5, .sl 3 (s.map wyL) false), (45, .sl 3 (s.map wyL) false), (46, vN s.length), (47, vN j), (6, vN j), (7, .ptr 48 0), (8, vN i)], heapF [(0, .box [vI c.ways, .sl 1 (c.sets.map rowSet) ck]), (48, .box [vU x.line, vB x.dirty, .v (.string x.data)])], 76⟩) (fun i => i ≤ j ∧ ∀ (q : Nat) z, q < i → s[q]? = some z → z.line ≠ x.line) (fun i => j - i) 0 (fun s => s) (Weak.of_lists (fun s => s) ⟨⟨rfl, rfl⟩, ⟨rfl, rfl⟩, ⟨rfl, rfl⟩, ⟨rfl, rfl⟩, ⟨rfl, rfl⟩, ⟨rfl, rfl⟩, ⟨rfl, rfl⟩, ⟨rfl, rfl⟩, ⟨rfl, rfl⟩, ⟨rfl, rfl⟩, ⟨rfl, rfl⟩, ⟨rfl, rfl⟩, trivial⟩ ⟨⟨rfl, rfl, rfl⟩, ⟨rfl, rfl, rfl⟩, trivial⟩ rfl) (⟨Nat.zero_le _, fun q z h => absurd h (Nat.not_lt_zero q)⟩) ?_
            intro i hi
            have hiB : i ≤ 1000000 := by have := hi.1; omega
            refine cSeq ?_
            refine cSeq ?_
            refine cReg rfl ?_
            refine rOk (d := 76) (x := vN i) rfl rfl rfl ?_
            refine rOk (d := 77) (x := vN j) rfl rfl rfl ?_
            refine rOk (d := 78) (x := vB (decide (i < j))) rfl rfl (okB (ltN _ _)) ?_
            refine rEnd (n' := 79) rfl ?_
            refine cCond (v := decide (i < j)) rfl (fun h6 => ?_) (fun h6 => ?_)
            · skip
              refine cSkip ?_
              refine cSeq ?_
              refine cBlock ?_
              refine cSeq ?_
              refine cReg rfl ?_
              refine rOk (d := 81) (x := .sl 3 (s.map wyL) false) rfl rfl rfl ?_
              refine rOk (d := 82) (x := vN i) rfl rfl rfl ?_
              have hil := of_decide_eq_true h6
              obtain ⟨z, hz⟩ : ∃ z, s[i]? = some z := ⟨_, List.getElem?_eq_getElem (by have := of_decide_eq_true h4; omega)⟩
              refine rIdx (wyL z) (d := 83) (x := .dp 3 0 (wyL z)) rfl rfl rfl (⟨Int.natCast_nonneg _, getM hz⟩) rfl ?_
              refine rOk (d := 84) (x := .dp 3 0 (wyL z)) rfl rfl rfl ?_
              refine rOk (d := 85) (x := vU z.line) rfl rfl rfl ?_
              refine rOk (d := 86) (x := .ptr 48 0) rfl rfl rfl ?_
              refine rOk (d := 87) (x := vU x.line) rfl rfl rfl ?_
              refine rOk (d := 88) (x := vB (z.line == x.line)) rfl rfl (okB (eqN _ _)) ?_
              refine rEnd (n' := 87) rfl ?_
              refine cCond (v := z.line == x.line) rfl (fun h7 => ?_) (fun h7 => ?_)
              · skip
                refine cSeq ?_
                refine cReg rfl ?_
                refine rOk (d := 2) (x := vB false) rfl rfl rfl ?_
                refine rEnd (n' := 88) rfl ?_
                refine cRet ?_
                exact fB (x := false) rfl (rightCa_no (c := c) (fun q => by have y := (((rightSet_iff c k s).1 (((rightCa_iff c).1 q).2 k s hs)).2 j x hx).2.2.2; exact placeT_none.1 y i z hil hz (by simpa using h7))).symm
              · skip
                refine cSkip ?_
                refine cReg rfl ?_
                refine rOk (d := 79) (x := vN i) rfl rfl rfl ?_
                have b2 : i + 1 ≤ 1000001 := Nat.add_le_add hiB (Nat.le_refl 1)
                refine rOk (d := 80) (x := vN (i + 1)) rfl rfl (okI (wrapI64 b2 rfl)) ?_
                refine rOk (d := 8) (x := vN (i + 1)) rfl rfl rfl ?_
                refine rEnd (n' := 90) rfl ?_
                refine ⟨i + 1, fun s => s, Weak.of_lists (fun s => s) ⟨⟨rfl, rfl⟩, ⟨rfl, rfl⟩, ⟨rfl, rfl⟩, ⟨rfl, rfl⟩, ⟨rfl, rfl⟩, ⟨rfl, rfl⟩, ⟨rfl, rfl⟩, ⟨rfl, rfl⟩, ⟨rfl, rfl⟩, ⟨rfl, rfl⟩, ⟨rfl, rfl⟩, ⟨rfl, rfl⟩, trivial⟩ ⟨⟨rfl, rfl, rfl⟩, ⟨rfl, rfl, rfl⟩, trivial⟩ rfl, ⟨hil, fun q y hq hy => by rcases Nat.lt_or_ge q i with e | e; exact hi.2 q y e hy; obtain rfl : q = i := (by omega); rw [hz] at hy; injection hy with hy; subst hy; simpa using h7⟩, by show j - (i + 1) < j - i; omega⟩
            · skip
              refine cExit ?_
              refine cReg rfl ?_
              have b3 : j + 1 ≤ 1000001 := Nat.add_le_add hjB (Nat.le_refl 1)
              refine rOk (d := 89) (x := vN (j + 1)) rfl rfl (okI (wrapI64 b3 rfl)) ?_
              refine rOk (d := 47) (x := vN (j + 1)) rfl rfl rfl ?_
              refine rEnd (n' := 81) rfl ?_
              refine ⟨j + 1, fun s => s, Weak.of_lists (fun s => s) ⟨⟨rfl, rfl⟩, ⟨rfl, rfl⟩, ⟨rfl, rfl⟩, ⟨rfl, rfl⟩, ⟨rfl, rfl⟩, ⟨rfl, rfl⟩, ⟨rfl, rfl⟩, ⟨rfl, rfl⟩, ⟨rfl, rfl⟩, trivial⟩ ⟨⟨rfl, rfl, rfl⟩, trivial⟩ rfl, ⟨of_decide_eq_true h4, way_next hx ⟨(rway_ok h5).1, (rway_ok h5).2.1, (rway_ok h5).2.2, placeT_none.2 (fun q z hq => hi.2 q z (by have := of_decide_eq_false h6; omega))⟩ hj.2⟩, by have := of_decide_eq_true h4; show s.length - (j + 1) < s.length - j; omega⟩
        · skip
          refine cExit ?_
          refine cReg rfl ?_
          have b4 : k + 1 ≤ 1000001 := Nat.add_le_add hkB (Nat.le_refl 1)
          refine rOk (d := 90) (x := vN (k + 1)) rfl rfl (okI (wrapI64 b4 rfl)) ?_
          refine rOk (d := 35) (x := vN (k + 1)) rfl rfl rfl ?_
          refine rEnd (n' := 47) rfl ?_
          refine ⟨k + 1, fun s => s, Weak.of_lists (fun s => s) ⟨⟨rfl, rfl⟩, ⟨rfl, rfl⟩, ⟨rfl, rfl⟩, ⟨rfl, rfl⟩, trivial⟩ ⟨⟨rfl, rfl, rfl⟩, trivial⟩ rfl, ⟨of_decide_eq_true h2, right_next hs ((rightSet_iff c k s).2 ⟨by have := of_decide_eq_false h3; omega, fun q y hy => hj.2 q y (by have := (List.getElem?_eq_some_iff.1 hy).1; have := of_decide_eq_false h4; omega) hy⟩) hk.2⟩, by have := of_decide_eq_true h2; show c.sets.length - (k + 1) < c.sets.length - k; omega⟩
    · skip
      refine cExit ?_
      refine cSeq ?_
      refine cReg rfl ?_
      refine rOk (d := 2) (x := vB true) rfl rfl rfl ?_
      refine rEnd (n' := 32) rfl ?_
      refine cRet ?_
      exact fB (x := true) rfl ((rightCa_iff c).2 ⟨cache_head h1, fun i s hs => hk.2 i s (by have := (List.getElem?_eq_some_iff.1 hs).1; have := of_decide_eq_false h2; omega) hs⟩).symm

abbrev tgR (s : List Wy) : List AV := [setA (s.map tagW)]
theorem tags_eq {c : Ca} (h : rightCa c = true) : tagsCa c = c.sets.map fun s => s.map tagW := by unfold tagsCa; rw [if_pos h]; rfl

set_option maxRecDepth 100000 in
set_option maxHeartbeats 4000000 in
theorem rTags (c : Ca) (hok : c.ok) : DCall C0 53 [.agg (caL c false)] (.sl 1 ((tagsCa c).map rowSet) false) := by
  refine DCall.intro c0Ok Try.func53 rfl rfl (by kernel_rfl) rfl ?_
  refine cSeq ?_
  refine cReg rfl ?_
  refine rFx (d := 1) (x := .ptr 0 0) (h' := upd _ 0 (some (.box [vI c.ways, .sl 1 (c.sets.map rowSet) false]))) rfl rfl (rfl) (trivial) ?_
  refine rOk (d := 2) (x := .sl 0 ([]) true) rfl rfl rfl ?_
  refine rEnd (n' := 2) rfl ?_
  refine cSeq ?_
  refine cReg rfl ?_
  refine rOk (d := 9) (x := .sl 1 ([]) true) rfl rfl rfl ?_
  refine rOk (d := 3) (x := .sl 1 ([]) true) rfl rfl rfl ?_
  refine rEnd (n' := 4) rfl ?_
  refine cSeq ?_
  refine cSeq ?_
  refine cReg rfl ?_
  refine rOk (d := 10) (x := .agg [vI c.ways, .sl 1 (c.sets.map rowSet) false]) rfl rfl rfl ?_
  refine rCall (args := [.agg [vI c.ways, .sl 1 (c.sets.map rowSet) false]]) (d := 11) (x := vB (rightCa c)) rfl rfl rfl rfl (.inl rfl) rfl (rRight c false hok) ?_
  refine rOk (d := 12) (x := vB (!(rightCa c))) rfl rfl rfl ?_
  refine rEnd (n' := 7) rfl ?_
  refine cCond (v := !(rightCa c)) rfl (fun h1 => ?_) (fun h1 => ?_)
  · skip
    refine cSeq ?_
    refine cReg rfl ?_
    refine rOk (d := 13) (x := .sl 1 ([]) true) rfl rfl rfl ?_
    refine rOk (d := 2) (x := .sl 1 ([]) true) rfl rfl rfl ?_
    refine rEnd (n' := 9) rfl ?_
    refine cRet ?_
    exact ⟨_, rfl, trivial, rfl, by show Sub (.sl 1 [] true) (.sl 1 ((tagsCa c).map rowSet) false); rw [show tagsCa c = [] from if_neg (by simpa using h1)]; exact Sub.clip 1 [] true⟩
  · skip
    refine cSkip ?_
    refine cSeq ?_
    refine cSeq ?_
    refine cReg rfl ?_
    refine rOk (d := 14) (x := .ptr 0 1) rfl rfl rfl ?_
    refine rOk (d := 15) (x := .sl 1 (c.sets.map rowSet) false) rfl rfl rfl ?_
    have hR : rightCa c = true := by simpa using h1
    have hR1 := ((rightCa_iff c).1 hR).1
    have hsl4 : c.sets.length ≤ 1000000 := by have := hR1.1; omega
    refine rOk (d := 16) (x := vN c.sets.length) rfl rfl (lenMap rowSet c.sets) ?_
    refine rOk (d := 17) (x := vI 0) rfl rfl rfl ?_
    refine rEnd (n' := 11) rfl ?_
    refine cBlock ?_
    refine cLoop (κ := Nat) (fun k => match k with | 0 => ⟨slotsF [(1, .ptr 0 0), (15, .sl 1 (c.sets.map rowSet) false), (16, vN c.sets.length), (3, .sl 1 ([]) true), (17, vN 0)], heapF [(0, .box [vI c.ways, .sl 1 (c.sets.map rowSet) false])], 61⟩ | k + 1 => ⟨slotsF [(1, .ptr 0 0), (15, .sl 1 (c.sets.map rowSet) false), (16, vN c.sets.length), (3, .osl 60 0 (k + 1) false), (17, vN (k + 1))], heapF [(0, .box [vI c.ways, .sl 1 (c.sets.map rowSet) false]), (60, .arr ((c.sets.take (k + 1)).map tgR) 1)], 61⟩) (fun k => k ≤ c.sets.length) (fun k => c.sets.length - k) 0 (fun s => s) (Weak.of_lists (fun s => s) ⟨⟨rfl, rfl⟩, ⟨rfl, rfl⟩, ⟨rfl, rfl⟩, ⟨rfl, rfl⟩, ⟨rfl, rfl⟩, trivial⟩ ⟨⟨rfl, rfl, rfl⟩, trivial⟩ rfl) (Nat.zero_le _) ?_
    intro k hk
    rcases k with _ | k
    · skip
      refine cSeq ?_
      refine cReg rfl ?_
      refine rOk (d := 18) (x := vB (decide (0 < c.sets.length))) rfl rfl (okB (ltN _ _)) ?_
      refine rEnd (n' := 62) rfl ?_
      refine cSeq ?_
      refine cCond (v := decide (0 < c.sets.length)) rfl (fun h2 => ?_) (fun h2 => ?_)
      · skip
        refine cSkip ?_
        refine cSeq ?_
        refine cBlock ?_
        refine cSeq ?_
        refine cReg rfl ?_
        obtain ⟨s, hs⟩ : ∃ s, c.sets[0]? = some s := ⟨_, List.getElem?_eq_getElem (of_decide_eq_true h2)⟩
        have hso := hok.set s (List.mem_of_getElem? hs)
        have hsl : s.length ≤ 2 := by have := ((rightSet_iff c 0 s).1 (((rightCa_iff c).1 hR).2 0 s hs)).1; have := hR1.2; omega
        refine rIdx (rowSet s) (d := 19) (x := .dp 1 0 (rowSet s)) rfl rfl rfl (⟨Int.natCast_nonneg _, getM hs⟩) rfl ?_
        refine rOk (d := 20) (x := .sl 3 (s.map wyL) false) rfl rfl rfl ?_
        refine rOk (d := 5) (x := .sl 3 (s.map wyL) false) rfl rfl rfl ?_
        refine rEnd (n' := 65) rfl ?_
        refine cSeq ?_
        refine cReg rfl ?_
        refine rOk (d := 21) (x := .sl 3 ([]) true) rfl rfl rfl ?_
        refine rOk (d := 6) (x := .sl 3 ([]) true) rfl rfl rfl ?_
        refine rEnd (n' := 67) rfl ?_
        refine cJoin (κ := Unit) (fun u_ => ⟨slotsF [(1, .ptr 0 0), (3, .sl 1 ([]) true), (15, .sl 1 (c.sets.map rowSet) false), (16, vN c.sets.length), (17, vN 0), (6, .sl 3 ((s.map tagW).map wyL) false)], heapF [(0, .box [vI c.ways, .sl 1 (c.sets.map rowSet) false])], 71⟩) (fun u_ => True) ?_ ?_
        · skip
          refine cSeq ?_
          refine cReg rfl ?_
          refine rOk (d := 22) (x := .sl 3 (s.map wyL) false) rfl rfl rfl ?_
          refine rOk (d := 23) (x := vN s.length) rfl rfl (lenMap wyL s) ?_
          refine rOk (d := 24) (x := vI 0) rfl rfl rfl ?_
          refine rEnd (n' := 70) rfl ?_
          refine cBlock ?_
          refine cLoop (κ := Nat) (fun j => match j with | 0 => ⟨slotsF [(1, .ptr 0 0), (3, .sl 1 ([]) true), (15, .sl 1 (c.sets.map rowSet) false), (16, vN c.sets.length), (17, vN 0), (22, .sl 3 (s.map wyL) false), (23, vN s.length), (6, .sl 3 ([]) true), (24, vN 0)], heapF [(0, .box [vI c.ways, .sl 1 (c.sets.map rowSet) false])], 71⟩ | j + 1 => ⟨slotsF [(1, .ptr 0 0), (3, .sl 1 ([]) true), (15, .sl 1 (c.sets.map rowSet) false), (16, vN c.sets.length), (17, vN 0), (22, .sl 3 (s.map wyL) false), (23, vN s.length), (6, .osl 70 0 (j + 1) false), (24, vN (j + 1))], heapF [(0, .box [vI c.ways, .sl 1 (c.sets.map rowSet) false]), (70, .arr (((s.take (j + 1)).map tagW).map wyL) 3)], 71⟩) (fun j => j ≤ s.length) (fun j => s.length - j) 0 (fun s => s) (Weak.of_lists (fun s => s) ⟨⟨rfl, rfl⟩, ⟨rfl, rfl⟩, ⟨rfl, rfl⟩, ⟨rfl, rfl⟩, ⟨rfl, rfl⟩, ⟨rfl, rfl⟩, ⟨rfl, rfl⟩, ⟨rfl, rfl⟩, ⟨rfl, rfl⟩, trivial⟩ ⟨⟨rfl, rfl, rfl⟩, trivial⟩ rfl) (Nat.zero_le _) ?_
          intro j hj
          rcases j with _ | j
          · skip
            refine cSeq ?_
            refine cReg rfl ?_
            refine rOk (d := 25) (x := vB (decide (0 < s.length))) rfl rfl (okB (ltN _ _)) ?_
            refine rEnd (n' := 72) rfl ?_
            refine cSeq ?_
            refine cCond (v := decide (0 < s.length)) rfl (fun h3 => ?_) (fun h3 => ?_)
            · skip
              refine cSkip ?_
              refine cSeq ?_
              refine cBlock ?_
              refine cSeq ?_
              refine cReg rfl ?_
              obtain ⟨x, hx⟩ : ∃ x, s[0]? = some x := ⟨_, List.getElem?_eq_getElem (of_decide_eq_true h3)⟩
              have hxo := hso.2 x (List.mem_of_getElem? hx)
              refine rIdx (wyL x) (d := 26) (x := .dp 3 0 (wyL x)) rfl rfl rfl (⟨Int.natCast_nonneg _, getM hx⟩) rfl ?_
              refine rOk (d := 27) (x := .agg (wyL x)) rfl rfl rfl ?_
              refine rFx (d := 8) (x := .ptr 74 0) (h' := upd _ 74 (some (.box [.v (.int .u32 0), vB false, .v (.string (⟨#[]⟩))]))) rfl rfl (rfl) (trivial) ?_
              refine rFx0 (h' := upd _ 74 (some (.box [vU x.line, vB x.dirty, .v (.string x.data)]))) rfl rfl (rfl) (trivial) ?_
              refine rEnd (n' := 76) rfl ?_
              refine cReg rfl ?_
              refine rOk (d := 28) (x := .sl 3 ([]) true) rfl rfl rfl ?_
              refine rOk (d := 29) (x := .ptr 74 0) rfl rfl rfl ?_
              refine rOk (d := 30) (x := vU x.line) rfl rfl rfl ?_
              refine rOk (d := 31) (x := .ptr 74 1) rfl rfl rfl ?_
              refine rOk (d := 32) (x := vB x.dirty) rfl rfl rfl ?_
              refine rOk (d := 33) (x := .agg [vU x.line, vB x.dirty, .v (.string (⟨#[]⟩))]) rfl rfl rfl ?_
              refine rOk (d := 34) (x := .sl 3 ([[vU x.line, vB x.dirty, .v (.string (⟨#[]⟩))]]) true) rfl rfl rfl ?_
              refine rFx (d := 35) (x := .osl 83 0 1 false) (h' := upd _ 83 (some (.arr (([]) ++ ([[vU x.line, vB x.dirty, .v (.string (⟨#[]⟩))]])) 3))) rfl rfl (rfl) (⟨by simp [capMax], by simp [capMax], trivial, trivial⟩) ?_
              refine rOk (d := 6) (x := .osl 83 0 1 false) rfl rfl rfl ?_
              refine rEnd (n' := 85) rfl ?_
              refine cReg rfl ?_
              have b1 : 0 + 1 ≤ 1 := Nat.add_le_add (Nat.le_refl 0) (Nat.le_refl 1)
              refine rOk (d := 36) (x := vN (0 + 1)) rfl rfl (okI (wrapI64 b1 rfl)) ?_
              refine rOk (d := 24) (x := vN (0 + 1)) rfl rfl rfl ?_
              refine rEnd (n' := 87) rfl ?_
              refine ⟨1, fun s => match s with | 70 => 83 | s => s, Weak.of_lists (fun s => match s with | 70 => 83 | s => s) ⟨⟨rfl, rfl⟩, ⟨rfl, rfl⟩, ⟨rfl, rfl⟩, ⟨rfl, rfl⟩, ⟨rfl, rfl⟩, ⟨rfl, rfl⟩, ⟨rfl, rfl⟩, ⟨rfl, rfl⟩, ⟨rfl, rfl⟩, trivial⟩ ⟨⟨rfl, rfl, rfl⟩, ⟨rfl, (congrArg (fun z => some (Blk.arr z 3)) (tag_row0 s hx)), rfl⟩, trivial⟩ rfl, of_decide_eq_true h3, by have := of_decide_eq_true h3; show s.length - (1) < s.length - (0); omega⟩
            · skip
              refine cExit ?_
              have hs0 : s = [] := List.eq_nil_of_length_eq_zero (by have := of_decide_eq_false h3; omega)
              refine .mk _ (.step none (Ghost.of_lists (l := [(1, .ptr 0 0), (3, .sl 1 ([]) true), (15, .sl 1 (c.sets.map rowSet) false), (16, vN c.sets.length), (17, vN 0), (6, .sl 3 ((s.map tagW).map wyL) false)]) (hp := [(0, .box [vI c.ways, .sl 1 (c.sets.map rowSet) false])]) trivial ⟨.refl _, .refl _, .refl _, .refl _, .refl _, (by rw [hs0]; exact .clip 3 []), trivial⟩ ⟨⟨trivial, _, rfl, .refl _⟩, trivial⟩) (.refl _)) ⟨(), fun s => s, Weak.of_lists (fun s => s) ⟨⟨rfl, rfl⟩, ⟨rfl, rfl⟩, ⟨rfl, rfl⟩, ⟨rfl, rfl⟩, ⟨rfl, rfl⟩, ⟨rfl, rfl⟩, trivial⟩ ⟨⟨rfl, rfl, rfl⟩, trivial⟩ rfl, rfl, trivial⟩
          · skip
            have hjB : j + 1 ≤ 1000000 := by omega
            refine cSeq ?_
            refine cReg rfl ?_
            refine rOk (d := 25) (x := vB (decide ((j + 1) < s.length))) rfl rfl (okB (ltN _ _)) ?_
            refine rEnd (n' := 72) rfl ?_
            refine cSeq ?_
            refine cCond (v := decide ((j + 1) < s.length)) rfl (fun h4 => ?_) (fun h4 => ?_)
            · skip
              refine cSkip ?_
              refine cSeq ?_
              refine cBlock ?_
              refine cSeq ?_
              refine cReg rfl ?_
              obtain ⟨x, hx⟩ : ∃ x, s[(j + 1)]? = some x := ⟨_, List.getElem?_eq_getElem (of_decide_eq_true h4)⟩
              have hxo := hso.2 x (List.mem_of_getElem? hx)
              refine rIdx (wyL x) (d := 26) (x := .dp 3 0 (wyL x)) rfl rfl rfl (⟨Int.natCast_nonneg _, getM hx⟩) rfl ?_
              refine rOk (d := 27) (x := .agg (wyL x)) rfl rfl rfl ?_
              refine rFx (d := 8) (x := .ptr 74 0) (h' := upd _ 74 (some (.box [.v (.int .u32 0), vB false, .v (.string (⟨#[]⟩))]))) rfl rfl (rfl) (trivial) ?_
              refine rFx0 (h' := upd _ 74 (some (.box [vU x.line, vB x.dirty, .v (.string x.data)]))) rfl rfl (rfl) (trivial) ?_
              refine rEnd (n' := 76) rfl ?_
              refine cReg rfl ?_
              refine rOk (d := 28) (x := .osl 70 0 (j + 1) false) rfl rfl rfl ?_
              refine rOk (d := 29) (x := .ptr 74 0) rfl rfl rfl ?_
              refine rOk (d := 30) (x := vU x.line) rfl rfl rfl ?_
              refine rOk (d := 31) (x := .ptr 74 1) rfl rfl rfl ?_
              refine rOk (d := 32) (x := vB x.dirty) rfl rfl rfl ?_
              refine rOk (d := 33) (x := .agg [vU x.line, vB x.dirty, .v (.string (⟨#[]⟩))]) rfl rfl rfl ?_
              refine rOk (d := 34) (x := .sl 3 ([[vU x.line, vB x.dirty, .v (.string (⟨#[]⟩))]]) true) rfl rfl rfl ?_
              refine rFx (d := 35) (x := .osl 83 0 (j + 1 + 1) false) (h' := upd (upd _ 70 none) 83 (some (.arr (((s.take (j + 1 + 1)).map tagW).map wyL) 3))) rfl rfl (app_eq (tag_len (of_decide_eq_true h4)) (tag_row s hx)) (⟨by rw [tag_len (of_decide_eq_true h4)]; show j + 1 + 1 ≤ 1000000; have := of_decide_eq_true h4; omega, by rw [Nat.zero_add]; simp; have := of_decide_eq_true h4; omega, trivial⟩) ?_
              refine rOk (d := 6) (x := .osl 83 0 (j + 1 + 1) false) rfl rfl rfl ?_
              refine rEnd (n' := 85) rfl ?_
              refine cReg rfl ?_
              have b2 : (j + 1) + 1 ≤ 1000001 := Nat.add_le_add hjB (Nat.le_refl 1)
              refine rOk (d := 36) (x := vN ((j + 1) + 1)) rfl rfl (okI (wrapI64 b2 rfl)) ?_
              refine rOk (d := 24) (x := vN ((j + 1) + 1)) rfl rfl rfl ?_
              refine rEnd (n' := 87) rfl ?_
              refine ⟨(j + 1) + 1, fun s => match s with | 70 => 83 | s => s, Weak.of_lists (fun s => match s with | 70 => 83 | s => s) ⟨⟨rfl, rfl⟩, ⟨rfl, rfl⟩, ⟨rfl, rfl⟩, ⟨rfl, rfl⟩, ⟨rfl, rfl⟩, ⟨rfl, rfl⟩, ⟨rfl, rfl⟩, ⟨rfl, rfl⟩, ⟨rfl, rfl⟩, trivial⟩ ⟨⟨rfl, rfl, rfl⟩, ⟨rfl, rfl, rfl⟩, trivial⟩ rfl, of_decide_eq_true h4, by have := of_decide_eq_true h4; show s.length - ((j + 1) + 1) < s.length - (j + 1); omega⟩
            · skip
              refine cExit ?_
              have hjl : j + 1 = s.length := by have := of_decide_eq_false h4; omega
              refine .mk _ (.step (some (70, 3, ((s.take (j + 1)).map tagW).map wyL)) (Ghost.of_lists (l := [(1, .ptr 0 0), (3, .sl 1 ([]) true), (15, .sl 1 (c.sets.map rowSet) false), (16, vN c.sets.length), (17, vN 0), (6, .sl 3 ((s.map tagW).map wyL) false)]) (hp := [(0, .box [vI c.ways, .sl 1 (c.sets.map rowSet) false])]) rfl ⟨.refl _, .refl _, .refl _, .refl _, .refl _, (tag_frz hjl), trivial⟩ ⟨⟨rfl, _, rfl, .refl _⟩, trivial⟩) (.refl _)) ⟨(), fun s => s, Weak.of_lists (fun s => s) ⟨⟨rfl, rfl⟩, ⟨rfl, rfl⟩, ⟨rfl, rfl⟩, ⟨rfl, rfl⟩, ⟨rfl, rfl⟩, ⟨rfl, rfl⟩, trivial⟩ ⟨⟨rfl, rfl, rfl⟩, trivial⟩ rfl, rfl, trivial⟩
        · skip
          intro u_ _
          refine cReg rfl ?_
          refine rOk (d := 37) (x := .sl 1 ([]) true) rfl rfl rfl ?_
          refine rOk (d := 38) (x := .sl 3 ((s.map tagW).map wyL) false) rfl rfl rfl ?_
          refine rOk (d := 39) (x := .sl 1 ([[.sl 3 ((s.map tagW).map wyL) false]]) true) rfl rfl rfl ?_
          refine rFx (d := 40) (x := .osl 74 0 1 false) (h' := upd _ 74 (some (.arr (([]) ++ ([[.sl 3 ((s.map tagW).map wyL) false]])) 1))) rfl rfl (rfl) (⟨by simp [capMax], by simp [capMax], trivial, trivial⟩) ?_
          refine rOk (d := 3) (x := .osl 74 0 1 false) rfl rfl rfl ?_
          refine rEnd (n' := 76) rfl ?_
          refine cReg rfl ?_
          have b3 : 0 + 1 ≤ 1 := Nat.add_le_add (Nat.le_refl 0) (Nat.le_refl 1)
          refine rOk (d := 41) (x := vN (0 + 1)) rfl rfl (okI (wrapI64 b3 rfl)) ?_
          refine rOk (d := 17) (x := vN (0 + 1)) rfl rfl rfl ?_
          refine rEnd (n' := 78) rfl ?_
          refine ⟨1, fun s => match s with | 60 => 74 | s => s, Weak.of_lists (fun s => match s with | 60 => 74 | s => s) ⟨⟨rfl, rfl⟩, ⟨rfl, rfl⟩, ⟨rfl, rfl⟩, ⟨rfl, rfl⟩, ⟨rfl, rfl⟩, trivial⟩ ⟨⟨rfl, rfl, rfl⟩, ⟨rfl, (congrArg (fun z => some (Blk.arr z 1)) (ownR0 tgR c.sets hs)), rfl⟩, trivial⟩ rfl, of_decide_eq_true h2, by have := of_decide_eq_true h2; show c.sets.length - (1) < c.sets.length - (0); omega⟩
      · skip
        refine cExit ?_
        refine cSeq ?_
        refine cReg rfl ?_
        refine rOk (d := 42) (x := .sl 1 ([]) true) rfl rfl rfl ?_
        refine rOk (d := 2) (x := .sl 1 ([]) true) rfl rfl rfl ?_
        refine rEnd (n' := 64) rfl ?_
        refine cRet ?_
        exact absurd (of_decide_eq_false h2) (by have := hR1.1; omega)
    · skip
      have hkB : k + 1 ≤ 1000000 := by omega
      refine cSeq ?_
      refine cReg rfl ?_
      refine rOk (d := 18) (x := vB (decide ((k + 1) < c.sets.length))) rfl rfl (okB (ltN _ _)) ?_
      refine rEnd (n' := 62) rfl ?_
      refine cSeq ?_
      refine cCond (v := decide ((k + 1) < c.sets.length)) rfl (fun h5 => ?_) (fun h5 => ?_)
      · skip
        refine cSkip ?_
        refine cSeq ?_
        refine cBlock ?_
        refine cSeq ?_
        refine cReg rfl ?_
        obtain ⟨s, hs⟩ : ∃ s, c.sets[(k + 1)]? = some s := ⟨_, List.getElem?_eq_getElem (of_decide_eq_true h5)⟩
        have hso := hok.set s (List.mem_of_getElem? hs)
        have hsl : s.length ≤ 2 := by have := ((rightSet_iff c (k + 1) s).1 (((rightCa_iff c).1 hR).2 (k + 1) s hs)).1; have := hR1.2; omega
        refine rIdx (rowSet s) (d := 19) (x := .dp 1 0 (rowSet s)) rfl rfl rfl (⟨Int.natCast_nonneg _, getM hs⟩) rfl ?_
        refine rOk (d := 20) (x := .sl 3 (s.map wyL) false) rfl rfl rfl ?_
        refine rOk (d := 5) (x := .sl 3 (s.map wyL) false) rfl rfl rfl ?_
        refine rEnd (n' := 65) rfl ?_
        refine cSeq ?_
        refine cReg rfl ?_
        refine rOk (d := 21) (x := .sl 3 ([]) true) rfl rfl rfl ?_
        refine rOk (d := 6) (x := .sl 3 ([]) true) rfl rfl rfl ?_
        refine rEnd (n' := 67) rfl ?_
        refine cJoin (κ := Unit) (fun u_ => ⟨slotsF [(1, .ptr 0 0), (3, .osl 60 0 (k + 1) false), (15, .sl 1 (c.sets.map rowSet) false), (16, vN c.sets.length), (17, vN (k + 1)), (6, .sl 3 ((s.map tagW).map wyL) false)], heapF [(0, .box [vI c.ways, .sl 1 (c.sets.map rowSet) false]), (60, .arr ((c.sets.take (k + 1)).map tgR) 1)], 71⟩) (fun u_ => True) ?_ ?_
        · skip
          refine cSeq ?_
          refine cReg rfl ?_
          refine rOk (d := 22) (x := .sl 3 (s.map wyL) false) rfl rfl rfl ?_
          refine rOk (d := 23) (x := vN s.length) rfl rfl (lenMap wyL s) ?_
          refine rOk (d := 24) (x := vI 0) rfl rfl rfl ?_
          refine rEnd (n' := 70) rfl ?_
          refine cBlock ?_
          refine cLoop (κ := Nat) (fun j => match j with | 0 => ⟨slotsF [(1, .ptr 0 0), (3, .osl 60 0 (k + 1) false), (15, .sl 1 (c.sets.map rowSet) false), (16, vN c.sets.length), (17, vN (k + 1)), (22, .sl 3 (s.map wyL) false), (23, vN s.length), (6, .sl 3 ([]) true), (24, vN 0)], heapF [(0, .box [vI c.ways, .sl 1 (c.sets.map rowSet) false]), (60, .arr ((c.sets.take (k + 1)).map tgR) 1)], 71⟩ | j + 1 => ⟨slotsF [(1, .ptr 0 0), (3, .osl 60 0 (k + 1) false), (15, .sl 1 (c.sets.map rowSet) false), (16, vN c.sets.length), (17, vN (k + 1)), (22, .sl 3 (s.map wyL) false), (23, vN s.length), (6, .osl 70 0 (j + 1) false), (24, vN (j + 1))], heapF [(0, .box [vI c.ways, .sl 1 (c.sets.map rowSet) false]), (60, .arr ((c.sets.take (k + 1)).map tgR) 1), (70, .arr (((s.take (j + 1)).map tagW).map wyL) 3)], 71⟩) (fun j => j ≤ s.length) (fun j => s.length - j) 0 (fun s => s) (Weak.of_lists (fun s => s) ⟨⟨rfl, rfl⟩, ⟨rfl, rfl⟩, ⟨rfl, rfl⟩, ⟨rfl, rfl⟩, ⟨rfl, rfl⟩, ⟨rfl, rfl⟩, ⟨rfl, rfl⟩, ⟨rfl, rfl⟩, ⟨rfl, rfl⟩, trivial⟩ ⟨⟨rfl, rfl, rfl⟩, ⟨rfl, rfl, rfl⟩, trivial⟩ rfl) (Nat.zero_le _) ?_
          intro j hj
          rcases j with _ | j
          · skip
            refine cSeq ?_
            refine cReg rfl ?_
            refine rOk (d := 25) (x := vB (decide (0 < s.length))) rfl rfl (okB (ltN _ _)) ?_
            refine rEnd (n' := 72) rfl ?_
            refine cSeq ?_
            refine cCond (v := decide (0 < s.length)) rfl (fun h6 => ?_) (fun h6 => ?_)
            · skip
              refine cSkip ?_
              refine cSeq ?_
              refine cBlock ?_
              refine cSeq ?_
              refine cReg rfl ?_
              obtain ⟨x, hx⟩ : ∃ x, s[0]? = some x := ⟨_, List.getElem?_eq_getElem (of_decide_eq_true h6)⟩
              have hxo := hso.2 x (List.mem_of_getElem? hx)
              refine rIdx (wyL x) (d := 26) (x := .dp 3 0 (wyL x)) rfl rfl rfl (⟨Int.natCast_nonneg _, getM hx⟩) rfl ?_
              refine rOk (d := 27) (x := .agg (wyL x)) rfl rfl rfl ?_
              refine rFx (d := 8) (x := .ptr 74 0) (h' := upd _ 74 (some (.box [.v (.int .u32 0), vB false, .v (.string (⟨#[]⟩))]))) rfl rfl (rfl) (trivial) ?_
              refine rFx0 (h' := upd _ 74 (some (.box [vU x.line, vB x.dirty, .v (.string x.data)]))) rfl rfl (rfl) (trivial) ?_
              refine rEnd (n' := 76) rfl ?_
              refine cReg rfl ?_
              refine rOk (d := 28) (x := .sl 3 ([]) true) rfl rfl rfl ?_
              refine rOk (d := 29) (x := .ptr 74 0) rfl rfl rfl ?_
              refine rOk (d := 30) (x := vU x.line) rfl rfl rfl ?_
              refine rOk (d := 31) (x := .ptr 74 1) rfl rfl rfl ?_
              refine rOk (d := 32) (x := vB x.dirty) rfl rfl rfl ?_
              refine rOk (d := 33) (x := .agg [vU x.line, vB x.dirty, .v (.string (⟨#[]⟩))]) rfl rfl rfl ?_
              refine rOk (d := 34) (x := .sl 3 ([[vU x.line, vB x.dirty, .v (.string (⟨#[]⟩))]]) true) rfl rfl rfl ?_
              refine rFx (d := 35) (x := .osl 83 0 1 false) (h' := upd _ 83 (some (.arr (([]) ++ ([[vU x.line, vB x.dirty, .v (.string (⟨#[]⟩))]])) 3))) rfl rfl (rfl) (⟨by simp [capMax], by simp [capMax], trivial, trivial⟩) ?_
              refine rOk (d := 6) (x := .osl 83 0 1 false) rfl rfl rfl ?_
              refine rEnd (n' := 85) rfl ?_
              refine cReg rfl ?_
              have b4 : 0 + 1 ≤ 1 := Nat.add_le_add (Nat.le_refl 0) (Nat.le_refl 1)
              refine rOk (d := 36) (x := vN (0 + 1)) rfl rfl (okI (wrapI64 b4 rfl)) ?_
              refine rOk (d := 24) (x := vN (0 + 1)) rfl rfl rfl ?_
              refine rEnd (n' := 87) rfl ?_
              refine ⟨1, fun s => match s with | 70 => 83 | s => s, Weak.of_lists (fun s => match s with | 70 => 83 | s => s) ⟨⟨rfl, rfl⟩, ⟨rfl, rfl⟩, ⟨rfl, rfl⟩, ⟨rfl, rfl⟩, ⟨rfl, rfl⟩, ⟨rfl, rfl⟩, ⟨rfl, rfl⟩, ⟨rfl, rfl⟩, ⟨rfl, rfl⟩, trivial⟩ ⟨⟨rfl, rfl, rfl⟩, ⟨rfl, rfl, rfl⟩, ⟨rfl, (congrArg (fun z => some (Blk.arr z 3)) (tag_row0 s hx)), rfl⟩, trivial⟩ rfl, of_decide_eq_true h6, by have := of_decide_eq_true h6; show s.length - (1) < s.length - (0); omega⟩
            · skip
              refine cExit ?_
              have hs0 : s = [] := List.eq_nil_of_length_eq_zero (by have := of_decide_eq_false h6; omega)
              refine .mk _ (.step none (Ghost.of_lists (l := [(1, .ptr 0 0), (3, .osl 60 0 (k + 1) false), (15, .sl 1 (c.sets.map rowSet) false), (16, vN c.sets.length), (17, vN (k + 1)), (6, .sl 3 ((s.map tagW).map wyL) false)]) (hp := [(0, .box [vI c.ways, .sl 1 (c.sets.map rowSet) false]), (60, .arr ((c.sets.take (k + 1)).map tgR) 1)]) trivial ⟨.refl _, .refl _, .refl _, .refl _, .refl _, (by rw [hs0]; exact .clip 3 []), trivial⟩ ⟨⟨trivial, _, rfl, .refl _⟩, ⟨trivial, _, rfl, .refl _⟩, trivial⟩) (.refl _)) ⟨(), fun s => s, Weak.of_lists (fun s => s) ⟨⟨rfl, rfl⟩, ⟨rfl, rfl⟩, ⟨rfl, rfl⟩, ⟨rfl, rfl⟩, ⟨rfl, rfl⟩, ⟨rfl, rfl⟩, trivial⟩ ⟨⟨rfl, rfl, rfl⟩, ⟨rfl, rfl, rfl⟩, trivial⟩ rfl, rfl, trivial⟩
          · skip
            have hjB : j + 1 ≤ 1000000 := by omega
            refine cSeq ?_
            refine cReg rfl ?_
            refine rOk (d := 25) (x := vB (decide ((j + 1) < s.length))) rfl rfl (okB (ltN _ _)) ?_
            refine rEnd (n' := 72) rfl ?_
            refine cSeq ?_
            refine cCond (v := decide ((j + 1) < s.length)) rfl (fun h7 => ?_) (fun h7 => ?_)
            · skip
              refine cSkip ?_
              refine cSeq ?_
              refine cBlock ?_
              refine cSeq ?_
              refine cReg rfl ?_
              obtain ⟨x, hx⟩ : ∃ x, s[(j + 1)]? = some x := ⟨_, List.getElem?_eq_getElem (of_decide_eq_true h7)⟩
              have hxo := hso.2 x (List.mem_of_getElem? hx)
              refine rIdx (wyL x) (d := 26) (x := .dp 3 0 (wyL x)) rfl rfl rfl (⟨Int.natCast_nonneg _, getM hx⟩) rfl ?_
              refine rOk (d := 27) (x := .agg (wyL x)) rfl rfl rfl ?_
              refine rFx (d := 8) (x := .ptr 74 0) (h' := upd _ 74 (some (.box [.v (.int .u32 0), vB false, .v (.string (⟨#[]⟩))]))) rfl rfl (rfl) (trivial) ?_
              refine rFx0 (h' := upd _ 74 (some (.box [vU x.line, vB x.dirty, .v (.string x.data)]))) rfl rfl (rfl) (trivial) ?_
              refine rEnd (n' := 76) rfl ?_
              refine cReg rfl ?_
              refine rOk (d := 28) (x := .osl 70 0 (j + 1) false) rfl rfl rfl ?_
              refine rOk (d := 29) (x := .ptr 74 0) rfl rfl rfl ?_
              refine rOk (d := 30) (x := vU x.line) rfl rfl rfl ?_
              refine rOk (d := 31) (x := .ptr 74 1) rfl rfl rfl ?_
              refine rOk (d := 32) (x := vB x.dirty) rfl rfl rfl ?_
              refine rOk (d := 33) (x := .agg [vU x.line, vB x.dirty, .v (.string (⟨#[]⟩))]) rfl rfl rfl ?_
              refine rOk (d := 34) (x := .sl 3 ([[vU x.line, vB x.dirty, .v (.string (⟨#[]⟩))]]) true) rfl rfl rfl ?_
              refine rFx (d := 35) (x := .osl 83 0 (j + 1 + 1) false) (h' := upd (upd _ 70 none) 83 (some (.arr (((s.take (j + 1 + 1)).map tagW).map wyL) 3))) rfl rfl (app_eq (tag_len (of_decide_eq_true h7)) (tag_row s hx)) (⟨by rw [tag_len (of_decide_eq_true h7)]; show j + 1 + 1 ≤ 1000000; have := of_decide_eq_true h7; omega, by rw [Nat.zero_add]; simp; have := of_decide_eq_true h7; omega, trivial⟩) ?_
              refine rOk (d := 6) (x := .osl 83 0 (j + 1 + 1) false) rfl rfl rfl ?_
              refine rEnd (n' := 85) rfl ?_
              refine cReg rfl ?_
              have b5 : (j + 1) + 1 ≤ 1000001 := Nat.add_le_add hjB (Nat.le_refl 1)
              refine rOk (d := 36) (x := vN ((j + 1) + 1)) rfl rfl (okI (wrapI64 b5 rfl)) ?_
              refine rOk (d := 24) (x := vN ((j + 1) + 1)) rfl rfl rfl ?_
              refine rEnd (n' := 87) rfl ?_
              refine ⟨(j + 1) + 1, fun s => match s with | 70 => 83 | s => s, Weak.of_lists (fun s => match s with | 70 => 83 | s => s) ⟨⟨rfl, rfl⟩, ⟨rfl, rfl⟩, ⟨rfl, rfl⟩, ⟨rfl, rfl⟩, ⟨rfl, rfl⟩, ⟨rfl, rfl⟩, ⟨rfl, rfl⟩, ⟨rfl, rfl⟩, ⟨rfl, rfl⟩, trivial⟩ ⟨⟨rfl, rfl, rfl⟩, ⟨rfl, rfl, rfl⟩, ⟨rfl, rfl, rfl⟩, trivial⟩ rfl, of_decide_eq_true h7, by have := of_decide_eq_true h7; show s.length - ((j + 1) + 1) < s.length - (j + 1); omega⟩
            · skip
              refine cExit ?_
              have hjl : j + 1 = s.length := by have := of_decide_eq_false h7; omega
              refine .mk _ (.step (some (70, 3, ((s.take (j + 1)).map tagW).map wyL)) (Ghost.of_lists (l := [(1, .ptr 0 0), (3, .osl 60 0 (k + 1) false), (15, .sl 1 (c.sets.map rowSet) false), (16, vN c.sets.length), (17, vN (k + 1)), (6, .sl 3 ((s.map tagW).map wyL) false)]) (hp := [(0, .box [vI c.ways, .sl 1 (c.sets.map rowSet) false]), (60, .arr ((c.sets.take (k + 1)).map tgR) 1)]) rfl ⟨.refl _, .refl _, .refl _, .refl _, .refl _, (tag_frz hjl), trivial⟩ ⟨⟨rfl, _, rfl, .refl _⟩, ⟨rfl, _, rfl, .refl _⟩, trivial⟩) (.refl _)) ⟨(), fun s => s, Weak.of_lists (fun s => s) ⟨⟨rfl, rfl⟩, ⟨rfl, rfl⟩, ⟨rfl, rfl⟩, ⟨rfl, rfl⟩, ⟨rfl, rfl⟩, ⟨rfl, rfl⟩, trivial⟩ ⟨⟨rfl, rfl, rfl⟩, ⟨rfl, rfl, rfl⟩, trivial⟩ rfl, rfl, trivial⟩
        · skip
          intro u_ _
          refine cReg rfl ?_
          refine rOk (d := 37) (x := .osl 60 0 (k + 1) false) rfl rfl rfl ?_
          refine rOk (d := 38) (x := .sl 3 ((s.map tagW).map wyL) false) rfl rfl rfl ?_
          refine rOk (d := 39) (x := .sl 1 ([[.sl 3 ((s.map tagW).map wyL) false]]) true) rfl rfl rfl ?_
          refine rFx (d := 40) (x := .osl 74 0 (k + 1 + 1) false) (h' := upd (upd _ 60 none) 74 (some (.arr ((c.sets.take (k + 1 + 1)).map tgR) 1))) rfl rfl (app_eq (ownLen _ _ (of_decide_eq_true h5)) (ownR tgR c.sets hs)) (⟨by rw [ownLen _ _ (of_decide_eq_true h5)]; show k + 1 + 1 ≤ 1000000; have := of_decide_eq_true h5; omega, by rw [Nat.zero_add]; simp; have := of_decide_eq_true h5; omega, trivial⟩) ?_
          refine rOk (d := 3) (x := .osl 74 0 (k + 1 + 1) false) rfl rfl rfl ?_
          refine rEnd (n' := 76) rfl ?_
          refine cReg rfl ?_
          have b6 : (k + 1) + 1 ≤ 1000001 := Nat.add_le_add hkB (Nat.le_refl 1)
          refine rOk (d := 41) (x := vN ((k + 1) + 1)) rfl rfl (okI (wrapI64 b6 rfl)) ?_
          refine rOk (d := 17) (x := vN ((k + 1) + 1)) rfl rfl rfl ?_
          refine rEnd (n' := 78) rfl ?_
          refine ⟨(k + 1) + 1, fun s => match s with | 60 => 74 | s => s, Weak.of_lists (fun s => match s with | 60 => 74 | s => s) ⟨⟨rfl, rfl⟩, ⟨rfl, rfl⟩, ⟨rfl, rfl⟩, ⟨rfl, rfl⟩, ⟨rfl, rfl⟩, trivial⟩ ⟨⟨rfl, rfl, rfl⟩, ⟨rfl, rfl, rfl⟩, trivial⟩ rfl, of_decide_eq_true h5, by have := of_decide_eq_true h5; show c.sets.length - ((k + 1) + 1) < c.sets.length - (k + 1); omega⟩
      · skip
        refine cExit ?_
        refine cSeq ?_
        refine cReg rfl ?_
        refine rOk (d := 42) (x := .osl 60 0 (k + 1) false) rfl rfl rfl ?_
        refine rOk (d := 2) (x := .osl 60 0 (k + 1) false) rfl rfl rfl ?_
        refine rEnd (n' := 64) rfl ?_
        refine cRet ?_
        have hke : k + 1 = c.sets.length := by have := of_decide_eq_false h5; omega
        refine ⟨_, rfl, (by show 0 + (k + 1) ≤ ((c.sets.take (k + 1)).map tgR).length; rw [List.length_map, List.length_take]; omega), rfl, ?_⟩
        show Sub (.sl 1 (List.take (k + 1) (List.drop 0 ((c.sets.take (k + 1)).map tgR))) false) (.sl 1 ((tagsCa c).map rowSet) false)
        rw [ownEnd tgR c.sets hke, tags_eq hR, List.map_map]; exact Sub.refl _
set_option maxRecDepth 100000 in
set_option maxHeartbeats 4000000 in
theorem rSee (c : Co) (before : Int) (hok : c.okW) : DCall C0 24 [.agg (coL c), .v (.int .i64 before)] (.agg (seL (seeP c before))) := by
  refine DCall.intro c0Ok Try.func24 rfl rfl (by kernel_rfl) rfl ?_
  obtain ⟨B, hB, hB1⟩ : ∃ B : Nat, maxI before = (B : Int) ∧ ((B : Int) = before ∨ (B = 0 ∧ before < 0)) := ⟨(maxI before).toNat, by unfold maxI; split <;> omega, by unfold maxI; split <;> omega⟩
  refine cSeq ?_
  refine cReg rfl ?_
  refine rFx (d := 2) (x := .ptr 0 0) (h' := upd _ 0 (some (.box [vI c.conf.mode, vI c.conf.width, vI c.conf.rob, vI c.conf.queue, vI c.conf.stores, vI c.conf.slots, vI c.conf.sets, vI c.conf.ways, .sl 1 (c.conf.lat.map rowI) false, vB c.conf.tables, .sl 1 (c.conf.tape.map rowU) false, .sl 1 (c.prog.map rowU) false, vI c.cycle, vU (c.r 0), vU (c.r 1), vU (c.r 2), vU (c.r 3), vU (c.r 4), vU (c.r 5), vU (c.r 6), vU (c.r 7), vU (c.r 8), vU (c.r 9), vU (c.r 10), vU (c.r 11), vU (c.r 12), vU (c.r 13), vU (c.r 14), vU (c.r 15), vU (c.r 16), vU (c.r 17), vU (c.r 18), vU (c.r 19), vU (c.r 20), vU (c.r 21), vU (c.r 22), vU (c.r 23), vU (c.r 24), vU (c.r 25), vU (c.r 26), vU (c.r 27), vU (c.r 28), vU (c.r 29), vU (c.r 30), vU (c.r 31), vU c.fetch, vB c.stop, .sl 2 (c.fetched.map ftL) false, .sl 17 (c.rob.map enL) false, vI c.next, .sl 2 (c.stores.map ptL) false, vI c.data.ways, .sl 1 (c.data.sets.map rowSet) false, vI c.words.ways, .sl 1 (c.words.sets.map rowSet) false, .sl 4 (c.bus.map rqL) false, vI c.asked, vI c.guessed, .v (.string c.mem), .sl 2 (c.guess.slots.map gsL) false, vU c.guess.hist, .sl 1 (c.guess.rets.map rowU) false, vI c.halt, .sl 9 (c.retired.map spL) false]))) rfl rfl (rfl) (trivial) ?_
  refine rFx (d := 4) (x := .ptr 1 0) (h' := upd _ 1 (some (.box [.sl 0 ([]) true, .sl 0 ([]) true, .sl 0 ([]) true, .sl 0 ([]) true]))) rfl rfl (rfl) (trivial) ?_
  refine rEnd (n' := 2) rfl ?_
  refine cSeq ?_
  refine cReg rfl ?_
  refine rOk (d := 10) (x := .ptr 0 51) rfl rfl rfl ?_
  refine rOk (d := 11) (x := .agg [vI c.data.ways, .sl 1 (c.data.sets.map rowSet) false]) rfl rfl rfl ?_
  refine rCall (args := [.agg [vI c.data.ways, .sl 1 (c.data.sets.map rowSet) false]]) (d := 12) (x := .sl 1 ((tagsCa c.data).map rowSet) false) rfl rfl rfl rfl (.inl rfl) rfl (rTags c.data hok.data) ?_
  refine rOk (d := 13) (x := .ptr 0 53) rfl rfl rfl ?_
  refine rOk (d := 14) (x := .agg [vI c.words.ways, .sl 1 (c.words.sets.map rowSet) false]) rfl rfl rfl ?_
  refine rCall (args := [.agg [vI c.words.ways, .sl 1 (c.words.sets.map rowSet) false]]) (d := 15) (x := .sl 1 ((tagsCa c.words).map rowSet) false) rfl rfl rfl rfl (.inl rfl) rfl (rTags c.words hok.words) ?_
  refine rOk (d := 16) (x := .agg [.sl 1 ((tagsCa c.data).map rowSet) false, .sl 1 ((tagsCa c.words).map rowSet) false, .sl 0 ([]) true, .sl 0 ([]) true]) rfl rfl rfl ?_
  refine rFx (d := 5) (x := .ptr 9 0) (h' := upd _ 9 (some (.box [.sl 0 ([]) true, .sl 0 ([]) true, .sl 0 ([]) true, .sl 0 ([]) true]))) rfl rfl (rfl) (trivial) ?_
  refine rFx0 (h' := upd _ 9 (some (.box [.sl 1 ((tagsCa c.data).map rowSet) false, .sl 1 ((tagsCa c.words).map rowSet) false, .sl 0 ([]) true, .sl 0 ([]) true]))) rfl rfl (rfl) (trivial) ?_
  refine rEnd (n' := 11) rfl ?_
  refine cSeq ?_
  refine cSeq ?_
  refine cReg rfl ?_
  refine rOk (d := 17) (x := .ptr 0 55) rfl rfl rfl ?_
  refine rOk (d := 18) (x := .sl 4 (c.bus.map rqL) false) rfl rfl rfl ?_
  refine rOk (d := 19) (x := vN c.bus.length) rfl rfl (lenMap rqL c.bus) ?_
  refine rOk (d := 20) (x := vI 0) rfl rfl rfl ?_
  refine rEnd (n' := 15) rfl ?_
  refine cBlock ?_
  refine cLoop (κ := Nat) (fun j => match j with | 0 => ⟨slotsF [(1, vI before), (2, .ptr 0 0), (4, .ptr 1 0), (5, .ptr 9 0), (18, .sl 4 (c.bus.map rqL) false), (19, vN c.bus.length), (20, vN 0)], heapF [(0, .box [vI c.conf.mode, vI c.conf.width, vI c.conf.rob, vI c.conf.queue, vI c.conf.stores, vI c.conf.slots, vI c.conf.sets, vI c.conf.ways, .sl 1 (c.conf.lat.map rowI) false, vB c.conf.tables, .sl 1 (c.conf.tape.map rowU) false, .sl 1 (c.prog.map rowU) false, vI c.cycle, vU (c.r 0), vU (c.r 1), vU (c.r 2), vU (c.r 3), vU (c.r 4), vU (c.r 5), vU (c.r 6), vU (c.r 7), vU (c.r 8), vU (c.r 9), vU (c.r 10), vU (c.r 11), vU (c.r 12), vU (c.r 13), vU (c.r 14), vU (c.r 15), vU (c.r 16), vU (c.r 17), vU (c.r 18), vU (c.r 19), vU (c.r 20), vU (c.r 21), vU (c.r 22), vU (c.r 23), vU (c.r 24), vU (c.r 25), vU (c.r 26), vU (c.r 27), vU (c.r 28), vU (c.r 29), vU (c.r 30), vU (c.r 31), vU c.fetch, vB c.stop, .sl 2 (c.fetched.map ftL) false, .sl 17 (c.rob.map enL) false, vI c.next, .sl 2 (c.stores.map ptL) false, vI c.data.ways, .sl 1 (c.data.sets.map rowSet) false, vI c.words.ways, .sl 1 (c.words.sets.map rowSet) false, .sl 4 (c.bus.map rqL) false, vI c.asked, vI c.guessed, .v (.string c.mem), .sl 2 (c.guess.slots.map gsL) false, vU c.guess.hist, .sl 1 (c.guess.rets.map rowU) false, vI c.halt, .sl 9 (c.retired.map spL) false]), (1, .box [.sl 0 ([]) true, .sl 0 ([]) true, .sl 0 ([]) true, .sl 0 ([]) true]), (9, .box [.sl 1 ((tagsCa c.data).map rowSet) false, .sl 1 ((tagsCa c.words).map rowSet) false, .sl 0 ([]) true, .sl 0 ([]) true])], 61⟩ | j + 1 => ⟨slotsF [(1, vI before), (2, .ptr 0 0), (4, .ptr 1 0), (5, .ptr 9 0), (18, .sl 4 (c.bus.map rqL) false), (19, vN c.bus.length), (20, vN (j + 1))], heapF [(0, .box [vI c.conf.mode, vI c.conf.width, vI c.conf.rob, vI c.conf.queue, vI c.conf.stores, vI c.conf.slots, vI c.conf.sets, vI c.conf.ways, .sl 1 (c.conf.lat.map rowI) false, vB c.conf.tables, .sl 1 (c.conf.tape.map rowU) false, .sl 1 (c.prog.map rowU) false, vI c.cycle, vU (c.r 0), vU (c.r 1), vU (c.r 2), vU (c.r 3), vU (c.r 4), vU (c.r 5), vU (c.r 6), vU (c.r 7), vU (c.r 8), vU (c.r 9), vU (c.r 10), vU (c.r 11), vU (c.r 12), vU (c.r 13), vU (c.r 14), vU (c.r 15), vU (c.r 16), vU (c.r 17), vU (c.r 18), vU (c.r 19), vU (c.r 20), vU (c.r 21), vU (c.r 22), vU (c.r 23), vU (c.r 24), vU (c.r 25), vU (c.r 26), vU (c.r 27), vU (c.r 28), vU (c.r 29), vU (c.r 30), vU (c.r 31), vU c.fetch, vB c.stop, .sl 2 (c.fetched.map ftL) false, .sl 17 (c.rob.map enL) false, vI c.next, .sl 2 (c.stores.map ptL) false, vI c.data.ways, .sl 1 (c.data.sets.map rowSet) false, vI c.words.ways, .sl 1 (c.words.sets.map rowSet) false, .sl 4 (c.bus.map rqL) false, vI c.asked, vI c.guessed, .v (.string c.mem), .sl 2 (c.guess.slots.map gsL) false, vU c.guess.hist, .sl 1 (c.guess.rets.map rowU) false, vI c.halt, .sl 9 (c.retired.map spL) false]), (1, .box [.sl 0 ([]) true, .sl 0 ([]) true, .sl 0 ([]) true, .sl 0 ([]) true]), (9, .box [.sl 1 ((tagsCa c.data).map rowSet) false, .sl 1 ((tagsCa c.words).map rowSet) false, .osl 60 0 (j + 1) false, .sl 0 ([]) true]), (60, .arr ((c.bus.take (j + 1)).map seeQ) 4)], 61⟩) (fun j => j ≤ c.bus.length) (fun j => c.bus.length - j) 0 (fun s => s) (Weak.of_lists (fun s => s) ⟨⟨rfl, rfl⟩, ⟨rfl, rfl⟩, ⟨rfl, rfl⟩, ⟨rfl, rfl⟩, ⟨rfl, rfl⟩, ⟨rfl, rfl⟩, ⟨rfl, rfl⟩, trivial⟩ ⟨⟨rfl, rfl, rfl⟩, ⟨rfl, rfl, rfl⟩, ⟨rfl, rfl, rfl⟩, trivial⟩ rfl) (Nat.zero_le _) ?_
  intro j hj
  rcases j with _ | j
  · skip
    refine cSeq ?_
    refine cReg rfl ?_
    refine rOk (d := 21) (x := vB (decide (0 < c.bus.length))) rfl rfl (okB (ltN _ _)) ?_
    refine rEnd (n' := 62) rfl ?_
    refine cSeq ?_
    refine cCond (v := decide (0 < c.bus.length)) rfl (fun h1 => ?_) (fun h1 => ?_)
    · skip
      refine cSkip ?_
      refine cSeq ?_
      refine cBlock ?_
      refine cSeq ?_
      refine cReg rfl ?_
      obtain ⟨x, hx⟩ : ∃ x, c.bus[0]? = some x := ⟨_, List.getElem?_eq_getElem (of_decide_eq_true h1)⟩
      have hxo := hok.busr x (List.mem_of_getElem? hx)
      refine rIdx (rqL x) (d := 22) (x := .dp 4 0 (rqL x)) rfl rfl rfl (⟨Int.natCast_nonneg _, getM hx⟩) rfl ?_
      refine rOk (d := 23) (x := .agg (rqL x)) rfl rfl rfl ?_
      refine rFx (d := 7) (x := .ptr 64 0) (h' := upd _ 64 (some (.box [vI 0, .v (.int .u32 0), vI 0, .v (.string (⟨#[]⟩))]))) rfl rfl (rfl) (trivial) ?_
      refine rFx0 (h' := upd _ 64 (some (.box [vI x.kind, vU x.line, vI x.left, .v (.string x.data)]))) rfl rfl (rfl) (trivial) ?_
      refine rEnd (n' := 66) rfl ?_
      refine cReg rfl ?_
      refine rOk (d := 24) (x := .ptr 9 2) rfl rfl rfl ?_
      refine rOk (d := 25) (x := .sl 0 ([]) true) rfl rfl rfl ?_
      refine rOk (d := 26) (x := .ptr 64 0) rfl rfl rfl ?_
      refine rOk (d := 27) (x := vI x.kind) rfl rfl rfl ?_
      refine rOk (d := 28) (x := .ptr 64 1) rfl rfl rfl ?_
      refine rOk (d := 29) (x := vU x.line) rfl rfl rfl ?_
      refine rOk (d := 30) (x := .agg [vI x.kind, vU x.line, vI 0, .v (.string (⟨#[]⟩))]) rfl rfl rfl ?_
      refine rOk (d := 31) (x := .sl 4 ([[vI x.kind, vU x.line, vI 0, .v (.string (⟨#[]⟩))]]) true) rfl rfl rfl ?_
      refine rFx (d := 32) (x := .osl 74 0 1 false) (h' := upd _ 74 (some (.arr ([[vI x.kind, vU x.line, vI 0, .v (.string (⟨#[]⟩))]]) 4))) rfl rfl (rfl) (⟨rfl, by simp [capMax], by simp [capMax], trivial⟩) ?_
      refine rOk (d := 33) (x := .ptr 9 2) rfl rfl rfl ?_
      refine rFx0 (h' := upd _ 9 (some (.box [.sl 1 ((tagsCa c.data).map rowSet) false, .sl 1 ((tagsCa c.words).map rowSet) false, .osl 74 0 1 false, .sl 0 ([]) true]))) rfl rfl (rfl) (trivial) ?_
      refine rEnd (n' := 77) rfl ?_
      refine cReg rfl ?_
      have b1 : 0 + 1 ≤ 1 := Nat.add_le_add (Nat.le_refl 0) (Nat.le_refl 1)
      refine rOk (d := 34) (x := vN (0 + 1)) rfl rfl (okI (wrapI64 b1 rfl)) ?_
      refine rOk (d := 20) (x := vN (0 + 1)) rfl rfl rfl ?_
      refine rEnd (n' := 79) rfl ?_
      refine ⟨1, fun s => match s with | 60 => 74 | s => s, Weak.of_lists (fun s => match s with | 60 => 74 | s => s) ⟨⟨rfl, rfl⟩, ⟨rfl, rfl⟩, ⟨rfl, rfl⟩, ⟨rfl, rfl⟩, ⟨rfl, rfl⟩, ⟨rfl, rfl⟩, ⟨rfl, rfl⟩, trivial⟩ ⟨⟨rfl, rfl, rfl⟩, ⟨rfl, rfl, rfl⟩, ⟨rfl, rfl, rfl⟩, ⟨rfl, (congrArg (fun z => some (Blk.arr z 4)) (ownR0 seeQ c.bus hx)), rfl⟩, trivial⟩ rfl, of_decide_eq_true h1, by have := of_decide_eq_true h1; show c.bus.length - (1) < c.bus.length - (0); omega⟩
    · skip
      refine cExit ?_
      refine cSeq ?_
      refine cSeq ?_
      refine cReg rfl ?_
      refine rOk (d := 35) (x := .ptr 0 63) rfl rfl rfl ?_
      refine rOk (d := 36) (x := .sl 9 (c.retired.map spL) false) rfl rfl rfl ?_
      refine rOk (d := 37) (x := vN c.retired.length) rfl rfl (lenMap spL c.retired) ?_
      refine rOk (d := 38) (x := vI 0) rfl rfl rfl ?_
      refine rEnd (n' := 66) rfl ?_
      refine cBlock ?_
      refine cLoop (κ := Nat × Nat) (fun z => match z with | (k, 0) => ⟨slotsF [(1, vI before), (2, .ptr 0 0), (4, .ptr 1 0), (5, .ptr 9 0), (36, .sl 9 (c.retired.map spL) false), (37, vN c.retired.length), (38, vN k)], heapF [(0, .box [vI c.conf.mode, vI c.conf.width, vI c.conf.rob, vI c.conf.queue, vI c.conf.stores, vI c.conf.slots, vI c.conf.sets, vI c.conf.ways, .sl 1 (c.conf.lat.map rowI) false, vB c.conf.tables, .sl 1 (c.conf.tape.map rowU) false, .sl 1 (c.prog.map rowU) false, vI c.cycle, vU (c.r 0), vU (c.r 1), vU (c.r 2), vU (c.r 3), vU (c.r 4), vU (c.r 5), vU (c.r 6), vU (c.r 7), vU (c.r 8), vU (c.r 9), vU (c.r 10), vU (c.r 11), vU (c.r 12), vU (c.r 13), vU (c.r 14), vU (c.r 15), vU (c.r 16), vU (c.r 17), vU (c.r 18), vU (c.r 19), vU (c.r 20), vU (c.r 21), vU (c.r 22), vU (c.r 23), vU (c.r 24), vU (c.r 25), vU (c.r 26), vU (c.r 27), vU (c.r 28), vU (c.r 29), vU (c.r 30), vU (c.r 31), vU c.fetch, vB c.stop, .sl 2 (c.fetched.map ftL) false, .sl 17 (c.rob.map enL) false, vI c.next, .sl 2 (c.stores.map ptL) false, vI c.data.ways, .sl 1 (c.data.sets.map rowSet) false, vI c.words.ways, .sl 1 (c.words.sets.map rowSet) false, .sl 4 (c.bus.map rqL) false, vI c.asked, vI c.guessed, .v (.string c.mem), .sl 2 (c.guess.slots.map gsL) false, vU c.guess.hist, .sl 1 (c.guess.rets.map rowU) false, vI c.halt, .sl 9 (c.retired.map spL) false]), (1, .box [.sl 0 ([]) true, .sl 0 ([]) true, .sl 0 ([]) true, .sl 0 ([]) true]), (9, .box [.sl 1 ((tagsCa c.data).map rowSet) false, .sl 1 ((tagsCa c.words).map rowSet) false, .sl 0 ([]) true, .sl 0 ([]) true])], 71⟩ | (k, m + 1) => ⟨slotsF [(1, vI before), (2, .ptr 0 0), (4, .ptr 1 0), (5, .ptr 9 0), (36, .sl 9 (c.retired.map spL) false), (37, vN c.retired.length), (38, vN k)], heapF [(0, .box [vI c.conf.mode, vI c.conf.width, vI c.conf.rob, vI c.conf.queue, vI c.conf.stores, vI c.conf.slots, vI c.conf.sets, vI c.conf.ways, .sl 1 (c.conf.lat.map rowI) false, vB c.conf.tables, .sl 1 (c.conf.tape.map rowU) false, .sl 1 (c.prog.map rowU) false, vI c.cycle, vU (c.r 0), vU (c.r 1), vU (c.r 2), vU (c.r 3), vU (c.r 4), vU (c.r 5), vU (c.r 6), vU (c.r 7), vU (c.r 8), vU (c.r 9), vU (c.r 10), vU (c.r 11), vU (c.r 12), vU (c.r 13), vU (c.r 14), vU (c.r 15), vU (c.r 16), vU (c.r 17), vU (c.r 18), vU (c.r 19), vU (c.r 20), vU (c.r 21), vU (c.r 22), vU (c.r 23), vU (c.r 24), vU (c.r 25), vU (c.r 26), vU (c.r 27), vU (c.r 28), vU (c.r 29), vU (c.r 30), vU (c.r 31), vU c.fetch, vB c.stop, .sl 2 (c.fetched.map ftL) false, .sl 17 (c.rob.map enL) false, vI c.next, .sl 2 (c.stores.map ptL) false, vI c.data.ways, .sl 1 (c.data.sets.map rowSet) false, vI c.words.ways, .sl 1 (c.words.sets.map rowSet) false, .sl 4 (c.bus.map rqL) false, vI c.asked, vI c.guessed, .v (.string c.mem), .sl 2 (c.guess.slots.map gsL) false, vU c.guess.hist, .sl 1 (c.guess.rets.map rowU) false, vI c.halt, .sl 9 (c.retired.map spL) false]), (1, .box [.sl 0 ([]) true, .sl 0 ([]) true, .sl 0 ([]) true, .sl 0 ([]) true]), (9, .box [.sl 1 ((tagsCa c.data).map rowSet) false, .sl 1 ((tagsCa c.words).map rowSet) false, .sl 0 ([]) true, .osl 70 0 (m + 1) false]), (70, .arr (((c.retired.drop B).take (m + 1)).map pcL) 1)], 71⟩) (fun z => z.2 = z.1 - B ∧ z.1 ≤ c.retired.length) (fun z => c.retired.length - z.1) (0, 0) (fun s => s) (Weak.of_lists (fun s => s) ⟨⟨rfl, rfl⟩, ⟨rfl, rfl⟩, ⟨rfl, rfl⟩, ⟨rfl, rfl⟩, ⟨rfl, rfl⟩, ⟨rfl, rfl⟩, ⟨rfl, rfl⟩, trivial⟩ ⟨⟨rfl, rfl, rfl⟩, ⟨rfl, rfl, rfl⟩, ⟨rfl, rfl, rfl⟩, trivial⟩ rfl) (⟨(Nat.zero_sub _).symm, Nat.zero_le _⟩) ?_
      intro z hk
      obtain ⟨k, _ | m⟩ := z
      · skip
        have hk1 : 0 = k - B := hk.1
        have hk2 : k ≤ c.retired.length := hk.2
        have hkB : k ≤ 1000000 := by have := hok.ret; omega
        refine cSeq ?_
        refine cReg rfl ?_
        refine rOk (d := 39) (x := vB (decide (k < c.retired.length))) rfl rfl (okB (ltN _ _)) ?_
        refine rEnd (n' := 72) rfl ?_
        refine cSeq ?_
        refine cCond (v := decide (k < c.retired.length)) rfl (fun h2 => ?_) (fun h2 => ?_)
        · skip
          refine cSkip ?_
          refine cSeq ?_
          refine cBlock ?_
          refine cSeq ?_
          refine cReg rfl ?_
          refine rOk (d := 40) (x := vN k) rfl rfl rfl ?_
          obtain ⟨y, hy⟩ : ∃ y, c.retired[k]? = some y := ⟨_, List.getElem?_eq_getElem (of_decide_eq_true h2)⟩
          have hyo := hok.retr y (List.mem_of_getElem? hy)
          refine rIdx (spL y) (d := 41) (x := .dp 9 0 (spL y)) rfl rfl rfl (⟨Int.natCast_nonneg _, getM hy⟩) rfl ?_
          refine rOk (d := 42) (x := .agg (spL y)) rfl rfl rfl ?_
          refine rFx (d := 9) (x := .ptr 75 0) (h' := upd _ 75 (some (.box [.v (.int .u32 0), .v (.int .u32 0), vI 0, .v (.int .u32 0), .v (.int .u32 0), vI 0, vB false, vI 0, vI 0]))) rfl rfl (rfl) (trivial) ?_
          refine rOk (d := 8) (x := vN k) rfl rfl rfl ?_
          refine rFx0 (h' := upd _ 75 (some (.box [vU y.pc, vU y.next, vI y.rd, vU y.value, vU y.addr, vI y.size, vB y.store, vI y.halt, vI y.took]))) rfl rfl (rfl) (trivial) ?_
          refine rEnd (n' := 78) rfl ?_
          refine cSeq ?_
          refine cReg rfl ?_
          refine rOk (d := 43) (x := vN k) rfl rfl rfl ?_
          refine rOk (d := 44) (x := vI before) rfl rfl rfl ?_
          refine rOk (d := 45) (x := vB (decide (((k : Nat) : Int) ≥ before))) rfl rfl rfl ?_
          refine rEnd (n' := 81) rfl ?_
          refine cCond (v := decide (((k : Nat) : Int) ≥ before)) rfl (fun h3 => ?_) (fun h3 => ?_)
          · skip
            refine cReg rfl ?_
            have hge := of_decide_eq_true h3
            have hy0 : (c.retired.drop B)[0]? = some y := by rw [List.getElem?_drop, show B + (0) = k from by omega]; exact hy
            refine rOk (d := 46) (x := .ptr 9 3) rfl rfl rfl ?_
            refine rOk (d := 47) (x := .sl 0 ([]) true) rfl rfl rfl ?_
            refine rOk (d := 48) (x := .ptr 75 0) rfl rfl rfl ?_
            refine rOk (d := 49) (x := vU y.pc) rfl rfl rfl ?_
            refine rOk (d := 50) (x := .sl 1 ([[vU y.pc]]) true) rfl rfl rfl ?_
            refine rFx (d := 51) (x := .osl 86 0 1 false) (h' := upd _ 86 (some (.arr ([[vU y.pc]]) 1))) rfl rfl (rfl) (⟨rfl, by simp [capMax], by simp [capMax], trivial⟩) ?_
            refine rOk (d := 52) (x := .ptr 9 3) rfl rfl rfl ?_
            refine rFx0 (h' := upd _ 9 (some (.box [.sl 1 ((tagsCa c.data).map rowSet) false, .sl 1 ((tagsCa c.words).map rowSet) false, .sl 0 ([]) true, .osl 86 0 1 false]))) rfl rfl (rfl) (trivial) ?_
            refine rEnd (n' := 89) rfl ?_
            refine cReg rfl ?_
            have b2 : k + 1 ≤ 1000001 := Nat.add_le_add hkB (Nat.le_refl 1)
            refine rOk (d := 53) (x := vN (k + 1)) rfl rfl (okI (wrapI64 b2 rfl)) ?_
            refine rOk (d := 38) (x := vN (k + 1)) rfl rfl rfl ?_
            refine rEnd (n' := 91) rfl ?_
            refine ⟨(k + 1, 1), fun s => match s with | 70 => 86 | s => s, Weak.of_lists (fun s => match s with | 70 => 86 | s => s) ⟨⟨rfl, rfl⟩, ⟨rfl, rfl⟩, ⟨rfl, rfl⟩, ⟨rfl, rfl⟩, ⟨rfl, rfl⟩, ⟨rfl, rfl⟩, ⟨rfl, rfl⟩, trivial⟩ ⟨⟨rfl, rfl, rfl⟩, ⟨rfl, rfl, rfl⟩, ⟨rfl, rfl, rfl⟩, ⟨rfl, (congrArg (fun z => some (Blk.arr z 1)) (ownR0 pcL (c.retired.drop B) hy0)), rfl⟩, trivial⟩ rfl, ⟨by have q := of_decide_eq_true h3; show 0 + 1 = k + 1 - B; omega, of_decide_eq_true h2⟩, by have := of_decide_eq_true h2; show c.retired.length - (k + 1) < c.retired.length - k; omega⟩
          · skip
            refine cSkip ?_
            refine cReg rfl ?_
            have b3 : k + 1 ≤ 1000001 := Nat.add_le_add hkB (Nat.le_refl 1)
            refine rOk (d := 53) (x := vN (k + 1)) rfl rfl (okI (wrapI64 b3 rfl)) ?_
            refine rOk (d := 38) (x := vN (k + 1)) rfl rfl rfl ?_
            refine rEnd (n' := 83) rfl ?_
            refine ⟨(k + 1, 0), fun s => s, Weak.of_lists (fun s => s) ⟨⟨rfl, rfl⟩, ⟨rfl, rfl⟩, ⟨rfl, rfl⟩, ⟨rfl, rfl⟩, ⟨rfl, rfl⟩, ⟨rfl, rfl⟩, ⟨rfl, rfl⟩, trivial⟩ ⟨⟨rfl, rfl, rfl⟩, ⟨rfl, rfl, rfl⟩, ⟨rfl, rfl, rfl⟩, trivial⟩ rfl, ⟨by have q := of_decide_eq_false h3; show 0 = k + 1 - B; omega, of_decide_eq_true h2⟩, by have := of_decide_eq_true h2; show c.retired.length - (k + 1) < c.retired.length - k; omega⟩
        · skip
          refine cExit ?_
          refine cSeq ?_
          refine cReg rfl ?_
          refine rOk (d := 54) (x := .agg [.sl 1 ((tagsCa c.data).map rowSet) false, .sl 1 ((tagsCa c.words).map rowSet) false, .sl 0 ([]) true, .sl 0 ([]) true]) rfl rfl rfl ?_
          refine rFx0 (h' := upd _ 1 (some (.box [.sl 1 ((tagsCa c.data).map rowSet) false, .sl 1 ((tagsCa c.words).map rowSet) false, .sl 0 ([]) true, .sl 0 ([]) true]))) rfl rfl (rfl) (trivial) ?_
          refine rEnd (n' := 74) rfl ?_
          refine cRet ?_
          have hB2 : (maxI before).toNat = B := by rw [hB]; rfl
          have hb0 : c.bus = [] := List.eq_nil_of_length_eq_zero (by have := of_decide_eq_false h1; omega)
          have hr0 : (c.retired.drop B) = [] := List.drop_of_length_le (by have := of_decide_eq_false h2; omega)
          exact ⟨_, rfl, ⟨trivial, trivial, trivial, trivial, trivial⟩, rfl, Sub.agg ⟨Sub.refl _, Sub.refl _, (by show Sub (.sl 0 [] true) (.sl 4 ((c.bus.map seeR).map rqL) false); rw [hb0]; exact sub_nil 4 false), (by show Sub (.sl 0 [] true) (.sl 1 (((c.retired.drop (maxI before).toNat).map (·.pc)).map rowU) false); rw [hB2, hr0]; exact sub_nil 1 false), trivial⟩⟩
      · skip
        have hk1 : m + 1 = k - B := hk.1
        have hk2 : k ≤ c.retired.length := hk.2
        have hkB : k ≤ 1000000 := by have := hok.ret; omega
        refine cSeq ?_
        refine cReg rfl ?_
        refine rOk (d := 39) (x := vB (decide (k < c.retired.length))) rfl rfl (okB (ltN _ _)) ?_
        refine rEnd (n' := 72) rfl ?_
        refine cSeq ?_
        refine cCond (v := decide (k < c.retired.length)) rfl (fun h4 => ?_) (fun h4 => ?_)
        · skip
          refine cSkip ?_
          refine cSeq ?_
          refine cBlock ?_
          refine cSeq ?_
          refine cReg rfl ?_
          refine rOk (d := 40) (x := vN k) rfl rfl rfl ?_
          obtain ⟨y, hy⟩ : ∃ y, c.retired[k]? = some y := ⟨_, List.getElem?_eq_getElem (of_decide_eq_true h4)⟩
          have hyo := hok.retr y (List.mem_of_getElem? hy)
          refine rIdx (spL y) (d := 41) (x := .dp 9 0 (spL y)) rfl rfl rfl (⟨Int.natCast_nonneg _, getM hy⟩) rfl ?_
          refine rOk (d := 42) (x := .agg (spL y)) rfl rfl rfl ?_
          refine rFx (d := 9) (x := .ptr 75 0) (h' := upd _ 75 (some (.box [.v (.int .u32 0), .v (.int .u32 0), vI 0, .v (.int .u32 0), .v (.int .u32 0), vI 0, vB false, vI 0, vI 0]))) rfl rfl (rfl) (trivial) ?_
          refine rOk (d := 8) (x := vN k) rfl rfl rfl ?_
          refine rFx0 (h' := upd _ 75 (some (.box [vU y.pc, vU y.next, vI y.rd, vU y.value, vU y.addr, vI y.size, vB y.store, vI y.halt, vI y.took]))) rfl rfl (rfl) (trivial) ?_
          refine rEnd (n' := 78) rfl ?_
          refine cSeq ?_
          refine cReg rfl ?_
          refine rOk (d := 43) (x := vN k) rfl rfl rfl ?_
          refine rOk (d := 44) (x := vI before) rfl rfl rfl ?_
          refine rOk (d := 45) (x := vB (decide (((k : Nat) : Int) ≥ before))) rfl rfl rfl ?_
          refine rEnd (n' := 81) rfl ?_
          refine cCond (v := decide (((k : Nat) : Int) ≥ before)) rfl (fun h5 => ?_) (fun h5 => ?_)
          · skip
            refine cReg rfl ?_
            have hge := of_decide_eq_true h5
            have hy0 : (c.retired.drop B)[m + 1]? = some y := by rw [List.getElem?_drop, show B + (m + 1) = k from by omega]; exact hy
            refine rOk (d := 46) (x := .ptr 9 3) rfl rfl rfl ?_
            refine rOk (d := 47) (x := .osl 70 0 (m + 1) false) rfl rfl rfl ?_
            refine rOk (d := 48) (x := .ptr 75 0) rfl rfl rfl ?_
            refine rOk (d := 49) (x := vU y.pc) rfl rfl rfl ?_
            refine rOk (d := 50) (x := .sl 1 ([[vU y.pc]]) true) rfl rfl rfl ?_
            refine rFx (d := 51) (x := .osl 86 0 (m + 1 + 1) false) (h' := upd (upd _ 70 none) 86 (some (.arr (((c.retired.drop B).take (m + 1 + 1)).map pcL) 1))) rfl rfl (app_eq (ownLen _ _ (show m + 1 < (c.retired.drop B).length from by rw [List.length_drop]; have := of_decide_eq_true h4; omega)) (ownR pcL (c.retired.drop B) hy0)) (⟨by rw [ownLen _ _ (show m + 1 < (c.retired.drop B).length from by rw [List.length_drop]; have := of_decide_eq_true h4; omega)]; have := hok.ret; show m + 1 + 1 ≤ 1000000; have := of_decide_eq_true h4; omega, by rw [Nat.zero_add]; simp; have := of_decide_eq_true h4; omega, trivial⟩) ?_
            refine rOk (d := 52) (x := .ptr 9 3) rfl rfl rfl ?_
            refine rFx0 (h' := upd _ 9 (some (.box [.sl 1 ((tagsCa c.data).map rowSet) false, .sl 1 ((tagsCa c.words).map rowSet) false, .sl 0 ([]) true, .osl 86 0 (m + 1 + 1) false]))) rfl rfl (rfl) (trivial) ?_
            refine rEnd (n' := 89) rfl ?_
            refine cReg rfl ?_
            have b4 : k + 1 ≤ 1000001 := Nat.add_le_add hkB (Nat.le_refl 1)
            refine rOk (d := 53) (x := vN (k + 1)) rfl rfl (okI (wrapI64 b4 rfl)) ?_
            refine rOk (d := 38) (x := vN (k + 1)) rfl rfl rfl ?_
            refine rEnd (n' := 91) rfl ?_
            refine ⟨(k + 1, (m + 1) + 1), fun s => match s with | 70 => 86 | s => s, Weak.of_lists (fun s => match s with | 70 => 86 | s => s) ⟨⟨rfl, rfl⟩, ⟨rfl, rfl⟩, ⟨rfl, rfl⟩, ⟨rfl, rfl⟩, ⟨rfl, rfl⟩, ⟨rfl, rfl⟩, ⟨rfl, rfl⟩, trivial⟩ ⟨⟨rfl, rfl, rfl⟩, ⟨rfl, rfl, rfl⟩, ⟨rfl, rfl, rfl⟩, ⟨rfl, rfl, rfl⟩, trivial⟩ rfl, ⟨by have q := of_decide_eq_true h5; show m + 1 + 1 = k + 1 - B; omega, of_decide_eq_true h4⟩, by have := of_decide_eq_true h4; show c.retired.length - (k + 1) < c.retired.length - k; omega⟩
          · skip
            refine cSkip ?_
            refine cReg rfl ?_
            have b5 : k + 1 ≤ 1000001 := Nat.add_le_add hkB (Nat.le_refl 1)
            refine rOk (d := 53) (x := vN (k + 1)) rfl rfl (okI (wrapI64 b5 rfl)) ?_
            refine rOk (d := 38) (x := vN (k + 1)) rfl rfl rfl ?_
            refine rEnd (n' := 83) rfl ?_
            refine ⟨(k + 1, m + 1), fun s => s, Weak.of_lists (fun s => s) ⟨⟨rfl, rfl⟩, ⟨rfl, rfl⟩, ⟨rfl, rfl⟩, ⟨rfl, rfl⟩, ⟨rfl, rfl⟩, ⟨rfl, rfl⟩, ⟨rfl, rfl⟩, trivial⟩ ⟨⟨rfl, rfl, rfl⟩, ⟨rfl, rfl, rfl⟩, ⟨rfl, rfl, rfl⟩, ⟨rfl, rfl, rfl⟩, trivial⟩ rfl, ⟨by have q := of_decide_eq_false h5; show m + 1 = k + 1 - B; omega, of_decide_eq_true h4⟩, by have := of_decide_eq_true h4; show c.retired.length - (k + 1) < c.retired.length - k; omega⟩
        · skip
          refine cExit ?_
          refine cSeq ?_
          refine cReg rfl ?_
          refine rOk (d := 54) (x := .agg [.sl 1 ((tagsCa c.data).map rowSet) false, .sl 1 ((tagsCa c.words).map rowSet) false, .sl 0 ([]) true, .osl 70 0 (m + 1) false]) rfl rfl rfl ?_
          refine rFx0 (h' := upd _ 1 (some (.box [.sl 1 ((tagsCa c.data).map rowSet) false, .sl 1 ((tagsCa c.words).map rowSet) false, .sl 0 ([]) true, .osl 70 0 (m + 1) false]))) rfl rfl (rfl) (trivial) ?_
          refine rEnd (n' := 74) rfl ?_
          refine cRet ?_
          have hB2 : (maxI before).toNat = B := by rw [hB]; rfl
          have hb0 : c.bus = [] := List.eq_nil_of_length_eq_zero (by have := of_decide_eq_false h1; omega)
          have hk3 : m + 1 = (c.retired.drop B).length := by rw [List.length_drop]; have := of_decide_eq_false h4; omega
          exact ⟨_, rfl, ⟨trivial, trivial, trivial, (by show 0 + (m + 1) ≤ (((c.retired.drop B).take (m + 1)).map pcL).length; rw [List.length_map, List.length_take]; omega), trivial⟩, rfl, Sub.agg ⟨Sub.refl _, Sub.refl _, (by show Sub (.sl 0 [] true) (.sl 4 ((c.bus.map seeR).map rqL) false); rw [hb0]; exact sub_nil 4 false), (by show Sub (.sl 1 (List.take (m + 1) (List.drop 0 (((c.retired.drop B).take (m + 1)).map pcL))) false) (.sl 1 (((c.retired.drop (maxI before).toNat).map (·.pc)).map rowU) false); rw [hB2, ownEnd pcL (c.retired.drop B) hk3, List.map_map]; exact Sub.refl _), trivial⟩⟩
  · skip
    have hjB : j + 1 ≤ 1000000 := by have := hok.bus; omega
    refine cSeq ?_
    refine cReg rfl ?_
    refine rOk (d := 21) (x := vB (decide ((j + 1) < c.bus.length))) rfl rfl (okB (ltN _ _)) ?_
    refine rEnd (n' := 62) rfl ?_
    refine cSeq ?_
    refine cCond (v := decide ((j + 1) < c.bus.length)) rfl (fun h6 => ?_) (fun h6 => ?_)
    · skip
      refine cSkip ?_
      refine cSeq ?_
      refine cBlock ?_
      refine cSeq ?_
      refine cReg rfl ?_
      obtain ⟨x, hx⟩ : ∃ x, c.bus[(j + 1)]? = some x := ⟨_, List.getElem?_eq_getElem (of_decide_eq_true h6)⟩
      have hxo := hok.busr x (List.mem_of_getElem? hx)
      refine rIdx (rqL x) (d := 22) (x := .dp 4 0 (rqL x)) rfl rfl rfl (⟨Int.natCast_nonneg _, getM hx⟩) rfl ?_
      refine rOk (d := 23) (x := .agg (rqL x)) rfl rfl rfl ?_
      refine rFx (d := 7) (x := .ptr 64 0) (h' := upd _ 64 (some (.box [vI 0, .v (.int .u32 0), vI 0, .v (.string (⟨#[]⟩))]))) rfl rfl (rfl) (trivial) ?_
      refine rFx0 (h' := upd _ 64 (some (.box [vI x.kind, vU x.line, vI x.left, .v (.string x.data)]))) rfl rfl (rfl) (trivial) ?_
      refine rEnd (n' := 66) rfl ?_
      refine cReg rfl ?_
      refine rOk (d := 24) (x := .ptr 9 2) rfl rfl rfl ?_
      refine rOk (d := 25) (x := .osl 60 0 (j + 1) false) rfl rfl rfl ?_
      refine rOk (d := 26) (x := .ptr 64 0) rfl rfl rfl ?_
      refine rOk (d := 27) (x := vI x.kind) rfl rfl rfl ?_
      refine rOk (d := 28) (x := .ptr 64 1) rfl rfl rfl ?_
      refine rOk (d := 29) (x := vU x.line) rfl rfl rfl ?_
      refine rOk (d := 30) (x := .agg [vI x.kind, vU x.line, vI 0, .v (.string (⟨#[]⟩))]) rfl rfl rfl ?_
      refine rOk (d := 31) (x := .sl 4 ([[vI x.kind, vU x.line, vI 0, .v (.string (⟨#[]⟩))]]) true) rfl rfl rfl ?_
      refine rFx (d := 32) (x := .osl 74 0 (j + 1 + 1) false) (h' := upd (upd _ 60 none) 74 (some (.arr ((c.bus.take (j + 1 + 1)).map seeQ) 4))) rfl rfl (app_eq (ownLen _ _ (of_decide_eq_true h6)) (ownR seeQ c.bus hx)) (⟨by rw [ownLen _ _ (of_decide_eq_true h6)]; have := hok.bus; show j + 1 + 1 ≤ 1000000; have := of_decide_eq_true h6; omega, by rw [Nat.zero_add]; simp; have := of_decide_eq_true h6; omega, trivial⟩) ?_
      refine rOk (d := 33) (x := .ptr 9 2) rfl rfl rfl ?_
      refine rFx0 (h' := upd _ 9 (some (.box [.sl 1 ((tagsCa c.data).map rowSet) false, .sl 1 ((tagsCa c.words).map rowSet) false, .osl 74 0 (j + 1 + 1) false, .sl 0 ([]) true]))) rfl rfl (rfl) (trivial) ?_
      refine rEnd (n' := 77) rfl ?_
      refine cReg rfl ?_
      have b6 : (j + 1) + 1 ≤ 1000001 := Nat.add_le_add hjB (Nat.le_refl 1)
      refine rOk (d := 34) (x := vN ((j + 1) + 1)) rfl rfl (okI (wrapI64 b6 rfl)) ?_
      refine rOk (d := 20) (x := vN ((j + 1) + 1)) rfl rfl rfl ?_
      refine rEnd (n' := 79) rfl ?_
      refine ⟨(j + 1) + 1, fun s => match s with | 60 => 74 | s => s, Weak.of_lists (fun s => match s with | 60 => 74 | s => s) ⟨⟨rfl, rfl⟩, ⟨rfl, rfl⟩, ⟨rfl, rfl⟩, ⟨rfl, rfl⟩, ⟨rfl, rfl⟩, ⟨rfl, rfl⟩, ⟨rfl, rfl⟩, trivial⟩ ⟨⟨rfl, rfl, rfl⟩, ⟨rfl, rfl, rfl⟩, ⟨rfl, rfl, rfl⟩, ⟨rfl, rfl, rfl⟩, trivial⟩ rfl, of_decide_eq_true h6, by have := of_decide_eq_true h6; show c.bus.length - ((j + 1) + 1) < c.bus.length - (j + 1); omega⟩
    · skip
      refine cExit ?_
      refine cSeq ?_
      refine cSeq ?_
      refine cReg rfl ?_
      refine rOk (d := 35) (x := .ptr 0 63) rfl rfl rfl ?_
      refine rOk (d := 36) (x := .sl 9 (c.retired.map spL) false) rfl rfl rfl ?_
      refine rOk (d := 37) (x := vN c.retired.length) rfl rfl (lenMap spL c.retired) ?_
      refine rOk (d := 38) (x := vI 0) rfl rfl rfl ?_
      refine rEnd (n' := 66) rfl ?_
      refine cBlock ?_
      refine cLoop (κ := Nat × Nat) (fun z => match z with | (k, 0) => ⟨slotsF [(1, vI before), (2, .ptr 0 0), (4, .ptr 1 0), (5, .ptr 9 0), (36, .sl 9 (c.retired.map spL) false), (37, vN c.retired.length), (38, vN k)], heapF [(0, .box [vI c.conf.mode, vI c.conf.width, vI c.conf.rob, vI c.conf.queue, vI c.conf.stores, vI c.conf.slots, vI c.conf.sets, vI c.conf.ways, .sl 1 (c.conf.lat.map rowI) false, vB c.conf.tables, .sl 1 (c.conf.tape.map rowU) false, .sl 1 (c.prog.map rowU) false, vI c.cycle, vU (c.r 0), vU (c.r 1), vU (c.r 2), vU (c.r 3), vU (c.r 4), vU (c.r 5), vU (c.r 6), vU (c.r 7), vU (c.r 8), vU (c.r 9), vU (c.r 10), vU (c.r 11), vU (c.r 12), vU (c.r 13), vU (c.r 14), vU (c.r 15), vU (c.r 16), vU (c.r 17), vU (c.r 18), vU (c.r 19), vU (c.r 20), vU (c.r 21), vU (c.r 22), vU (c.r 23), vU (c.r 24), vU (c.r 25), vU (c.r 26), vU (c.r 27), vU (c.r 28), vU (c.r 29), vU (c.r 30), vU (c.r 31), vU c.fetch, vB c.stop, .sl 2 (c.fetched.map ftL) false, .sl 17 (c.rob.map enL) false, vI c.next, .sl 2 (c.stores.map ptL) false, vI c.data.ways, .sl 1 (c.data.sets.map rowSet) false, vI c.words.ways, .sl 1 (c.words.sets.map rowSet) false, .sl 4 (c.bus.map rqL) false, vI c.asked, vI c.guessed, .v (.string c.mem), .sl 2 (c.guess.slots.map gsL) false, vU c.guess.hist, .sl 1 (c.guess.rets.map rowU) false, vI c.halt, .sl 9 (c.retired.map spL) false]), (1, .box [.sl 0 ([]) true, .sl 0 ([]) true, .sl 0 ([]) true, .sl 0 ([]) true]), (9, .box [.sl 1 ((tagsCa c.data).map rowSet) false, .sl 1 ((tagsCa c.words).map rowSet) false, .osl 60 0 (j + 1) false, .sl 0 ([]) true]), (60, .arr ((c.bus.take (j + 1)).map seeQ) 4)], 71⟩ | (k, m + 1) => ⟨slotsF [(1, vI before), (2, .ptr 0 0), (4, .ptr 1 0), (5, .ptr 9 0), (36, .sl 9 (c.retired.map spL) false), (37, vN c.retired.length), (38, vN k)], heapF [(0, .box [vI c.conf.mode, vI c.conf.width, vI c.conf.rob, vI c.conf.queue, vI c.conf.stores, vI c.conf.slots, vI c.conf.sets, vI c.conf.ways, .sl 1 (c.conf.lat.map rowI) false, vB c.conf.tables, .sl 1 (c.conf.tape.map rowU) false, .sl 1 (c.prog.map rowU) false, vI c.cycle, vU (c.r 0), vU (c.r 1), vU (c.r 2), vU (c.r 3), vU (c.r 4), vU (c.r 5), vU (c.r 6), vU (c.r 7), vU (c.r 8), vU (c.r 9), vU (c.r 10), vU (c.r 11), vU (c.r 12), vU (c.r 13), vU (c.r 14), vU (c.r 15), vU (c.r 16), vU (c.r 17), vU (c.r 18), vU (c.r 19), vU (c.r 20), vU (c.r 21), vU (c.r 22), vU (c.r 23), vU (c.r 24), vU (c.r 25), vU (c.r 26), vU (c.r 27), vU (c.r 28), vU (c.r 29), vU (c.r 30), vU (c.r 31), vU c.fetch, vB c.stop, .sl 2 (c.fetched.map ftL) false, .sl 17 (c.rob.map enL) false, vI c.next, .sl 2 (c.stores.map ptL) false, vI c.data.ways, .sl 1 (c.data.sets.map rowSet) false, vI c.words.ways, .sl 1 (c.words.sets.map rowSet) false, .sl 4 (c.bus.map rqL) false, vI c.asked, vI c.guessed, .v (.string c.mem), .sl 2 (c.guess.slots.map gsL) false, vU c.guess.hist, .sl 1 (c.guess.rets.map rowU) false, vI c.halt, .sl 9 (c.retired.map spL) false]), (1, .box [.sl 0 ([]) true, .sl 0 ([]) true, .sl 0 ([]) true, .sl 0 ([]) true]), (9, .box [.sl 1 ((tagsCa c.data).map rowSet) false, .sl 1 ((tagsCa c.words).map rowSet) false, .osl 60 0 (j + 1) false, .osl 70 0 (m + 1) false]), (60, .arr ((c.bus.take (j + 1)).map seeQ) 4), (70, .arr (((c.retired.drop B).take (m + 1)).map pcL) 1)], 71⟩) (fun z => z.2 = z.1 - B ∧ z.1 ≤ c.retired.length) (fun z => c.retired.length - z.1) (0, 0) (fun s => s) (Weak.of_lists (fun s => s) ⟨⟨rfl, rfl⟩, ⟨rfl, rfl⟩, ⟨rfl, rfl⟩, ⟨rfl, rfl⟩, ⟨rfl, rfl⟩, ⟨rfl, rfl⟩, ⟨rfl, rfl⟩, trivial⟩ ⟨⟨rfl, rfl, rfl⟩, ⟨rfl, rfl, rfl⟩, ⟨rfl, rfl, rfl⟩, ⟨rfl, rfl, rfl⟩, trivial⟩ rfl) (⟨(Nat.zero_sub _).symm, Nat.zero_le _⟩) ?_
      intro z hk
      obtain ⟨k, _ | m⟩ := z
      · skip
        have hk1 : 0 = k - B := hk.1
        have hk2 : k ≤ c.retired.length := hk.2
        have hkB : k ≤ 1000000 := by have := hok.ret; omega
        refine cSeq ?_
        refine cReg rfl ?_
        refine rOk (d := 39) (x := vB (decide (k < c.retired.length))) rfl rfl (okB (ltN _ _)) ?_
        refine rEnd (n' := 72) rfl ?_
        refine cSeq ?_
        refine cCond (v := decide (k < c.retired.length)) rfl (fun h7 => ?_) (fun h7 => ?_)
        · skip
          refine cSkip ?_
          refine cSeq ?_
          refine cBlock ?_
          refine cSeq ?_
          refine cReg rfl ?_
          refine rOk (d := 40) (x := vN k) rfl rfl rfl ?_
          obtain ⟨y, hy⟩ : ∃ y, c.retired[k]? = some y := ⟨_, List.getElem?_eq_getElem (of_decide_eq_true h7)⟩
          have hyo := hok.retr y (List.mem_of_getElem? hy)
          refine rIdx (spL y) (d := 41) (x := .dp 9 0 (spL y)) rfl rfl rfl (⟨Int.natCast_nonneg _, getM hy⟩) rfl ?_
          refine rOk (d := 42) (x := .agg (spL y)) rfl rfl rfl ?_
          refine rFx (d := 9) (x := .ptr 75 0) (h' := upd _ 75 (some (.box [.v (.int .u32 0), .v (.int .u32 0), vI 0, .v (.int .u32 0), .v (.int .u32 0), vI 0, vB false, vI 0, vI 0]))) rfl rfl (rfl) (trivial) ?_
          refine rOk (d := 8) (x := vN k) rfl rfl rfl ?_
          refine rFx0 (h' := upd _ 75 (some (.box [vU y.pc, vU y.next, vI y.rd, vU y.value, vU y.addr, vI y.size, vB y.store, vI y.halt, vI y.took]))) rfl rfl (rfl) (trivial) ?_
          refine rEnd (n' := 78) rfl ?_
          refine cSeq ?_
          refine cReg rfl ?_
          refine rOk (d := 43) (x := vN k) rfl rfl rfl ?_
          refine rOk (d := 44) (x := vI before) rfl rfl rfl ?_
          refine rOk (d := 45) (x := vB (decide (((k : Nat) : Int) ≥ before))) rfl rfl rfl ?_
          refine rEnd (n' := 81) rfl ?_
          refine cCond (v := decide (((k : Nat) : Int) ≥ before)) rfl (fun h8 => ?_) (fun h8 => ?_)
          · skip
            refine cReg rfl ?_
            have hge := of_decide_eq_true h8
            have hy0 : (c.retired.drop B)[0]? = some y := by rw [List.getElem?_drop, show B + (0) = k from by omega]; exact hy
            refine rOk (d := 46) (x := .ptr 9 3) rfl rfl rfl ?_
            refine rOk (d := 47) (x := .sl 0 ([]) true) rfl rfl rfl ?_
            refine rOk (d := 48) (x := .ptr 75 0) rfl rfl rfl ?_
            refine rOk (d := 49) (x := vU y.pc) rfl rfl rfl ?_
            refine rOk (d := 50) (x := .sl 1 ([[vU y.pc]]) true) rfl rfl rfl ?_
            refine rFx (d := 51) (x := .osl 86 0 1 false) (h' := upd _ 86 (some (.arr ([[vU y.pc]]) 1))) rfl rfl (rfl) (⟨rfl, by simp [capMax], by simp [capMax], trivial⟩) ?_
            refine rOk (d := 52) (x := .ptr 9 3) rfl rfl rfl ?_
            refine rFx0 (h' := upd _ 9 (some (.box [.sl 1 ((tagsCa c.data).map rowSet) false, .sl 1 ((tagsCa c.words).map rowSet) false, .osl 60 0 (j + 1) false, .osl 86 0 1 false]))) rfl rfl (rfl) (trivial) ?_
            refine rEnd (n' := 89) rfl ?_
            refine cReg rfl ?_
            have b7 : k + 1 ≤ 1000001 := Nat.add_le_add hkB (Nat.le_refl 1)
            refine rOk (d := 53) (x := vN (k + 1)) rfl rfl (okI (wrapI64 b7 rfl)) ?_
            refine rOk (d := 38) (x := vN (k + 1)) rfl rfl rfl ?_
            refine rEnd (n' := 91) rfl ?_
            refine ⟨(k + 1, 1), fun s => match s with | 70 => 86 | s => s, Weak.of_lists (fun s => match s with | 70 => 86 | s => s) ⟨⟨rfl, rfl⟩, ⟨rfl, rfl⟩, ⟨rfl, rfl⟩, ⟨rfl, rfl⟩, ⟨rfl, rfl⟩, ⟨rfl, rfl⟩, ⟨rfl, rfl⟩, trivial⟩ ⟨⟨rfl, rfl, rfl⟩, ⟨rfl, rfl, rfl⟩, ⟨rfl, rfl, rfl⟩, ⟨rfl, rfl, rfl⟩, ⟨rfl, (congrArg (fun z => some (Blk.arr z 1)) (ownR0 pcL (c.retired.drop B) hy0)), rfl⟩, trivial⟩ rfl, ⟨by have q := of_decide_eq_true h8; show 0 + 1 = k + 1 - B; omega, of_decide_eq_true h7⟩, by have := of_decide_eq_true h7; show c.retired.length - (k + 1) < c.retired.length - k; omega⟩
          · skip
            refine cSkip ?_
            refine cReg rfl ?_
            have b8 : k + 1 ≤ 1000001 := Nat.add_le_add hkB (Nat.le_refl 1)
            refine rOk (d := 53) (x := vN (k + 1)) rfl rfl (okI (wrapI64 b8 rfl)) ?_
            refine rOk (d := 38) (x := vN (k + 1)) rfl rfl rfl ?_
            refine rEnd (n' := 83) rfl ?_
            refine ⟨(k + 1, 0), fun s => s, Weak.of_lists (fun s => s) ⟨⟨rfl, rfl⟩, ⟨rfl, rfl⟩, ⟨rfl, rfl⟩, ⟨rfl, rfl⟩, ⟨rfl, rfl⟩, ⟨rfl, rfl⟩, ⟨rfl, rfl⟩, trivial⟩ ⟨⟨rfl, rfl, rfl⟩, ⟨rfl, rfl, rfl⟩, ⟨rfl, rfl, rfl⟩, ⟨rfl, rfl, rfl⟩, trivial⟩ rfl, ⟨by have q := of_decide_eq_false h8; show 0 = k + 1 - B; omega, of_decide_eq_true h7⟩, by have := of_decide_eq_true h7; show c.retired.length - (k + 1) < c.retired.length - k; omega⟩
        · skip
          refine cExit ?_
          refine cSeq ?_
          refine cReg rfl ?_
          refine rOk (d := 54) (x := .agg [.sl 1 ((tagsCa c.data).map rowSet) false, .sl 1 ((tagsCa c.words).map rowSet) false, .osl 60 0 (j + 1) false, .sl 0 ([]) true]) rfl rfl rfl ?_
          refine rFx0 (h' := upd _ 1 (some (.box [.sl 1 ((tagsCa c.data).map rowSet) false, .sl 1 ((tagsCa c.words).map rowSet) false, .osl 60 0 (j + 1) false, .sl 0 ([]) true]))) rfl rfl (rfl) (trivial) ?_
          refine rEnd (n' := 74) rfl ?_
          refine cRet ?_
          have hB2 : (maxI before).toNat = B := by rw [hB]; rfl
          have hj2 : j + 1 = c.bus.length := by have := of_decide_eq_false h6; omega
          have hr0 : (c.retired.drop B) = [] := List.drop_of_length_le (by have := of_decide_eq_false h7; omega)
          exact ⟨_, rfl, ⟨trivial, trivial, (by show 0 + (j + 1) ≤ ((c.bus.take (j + 1)).map seeQ).length; rw [List.length_map, List.length_take]; omega), trivial, trivial⟩, rfl, Sub.agg ⟨Sub.refl _, Sub.refl _, (by show Sub (.sl 4 (List.take (j + 1) (List.drop 0 ((c.bus.take (j + 1)).map seeQ))) false) (.sl 4 ((c.bus.map seeR).map rqL) false); rw [ownEnd seeQ c.bus hj2, List.map_map]; exact Sub.refl _), (by show Sub (.sl 0 [] true) (.sl 1 (((c.retired.drop (maxI before).toNat).map (·.pc)).map rowU) false); rw [hB2, hr0]; exact sub_nil 1 false), trivial⟩⟩
      · skip
        have hk1 : m + 1 = k - B := hk.1
        have hk2 : k ≤ c.retired.length := hk.2
        have hkB : k ≤ 1000000 := by have := hok.ret; omega
        refine cSeq ?_
        refine cReg rfl ?_
        refine rOk (d := 39) (x := vB (decide (k < c.retired.length))) rfl rfl (okB (ltN _ _)) ?_
        refine rEnd (n' := 72) rfl ?_
        refine cSeq ?_
        refine cCond (v := decide (k < c.retired.length)) rfl (fun h9 => ?_) (fun h9 => ?_)
        · skip
          refine cSkip ?_
          refine cSeq ?_
          refine cBlock ?_
          refine cSeq ?_
          refine cReg rfl ?_
          refine rOk (d := 40) (x := vN k) rfl rfl rfl ?_
          obtain ⟨y, hy⟩ : ∃ y, c.retired[k]? = some y := ⟨_, List.getElem?_eq_getElem (of_decide_eq_true h9)⟩
          have hyo := hok.retr y (List.mem_of_getElem? hy)
          refine rIdx (spL y) (d := 41) (x := .dp 9 0 (spL y)) rfl rfl rfl (⟨Int.natCast_nonneg _, getM hy⟩) rfl ?_
          refine rOk (d := 42) (x := .agg (spL y)) rfl rfl rfl ?_
          refine rFx (d := 9) (x := .ptr 75 0) (h' := upd _ 75 (some (.box [.v (.int .u32 0), .v (.int .u32 0), vI 0, .v (.int .u32 0), .v (.int .u32 0), vI 0, vB false, vI 0, vI 0]))) rfl rfl (rfl) (trivial) ?_
          refine rOk (d := 8) (x := vN k) rfl rfl rfl ?_
          refine rFx0 (h' := upd _ 75 (some (.box [vU y.pc, vU y.next, vI y.rd, vU y.value, vU y.addr, vI y.size, vB y.store, vI y.halt, vI y.took]))) rfl rfl (rfl) (trivial) ?_
          refine rEnd (n' := 78) rfl ?_
          refine cSeq ?_
          refine cReg rfl ?_
          refine rOk (d := 43) (x := vN k) rfl rfl rfl ?_
          refine rOk (d := 44) (x := vI before) rfl rfl rfl ?_
          refine rOk (d := 45) (x := vB (decide (((k : Nat) : Int) ≥ before))) rfl rfl rfl ?_
          refine rEnd (n' := 81) rfl ?_
          refine cCond (v := decide (((k : Nat) : Int) ≥ before)) rfl (fun h10 => ?_) (fun h10 => ?_)
          · skip
            refine cReg rfl ?_
            have hge := of_decide_eq_true h10
            have hy0 : (c.retired.drop B)[m + 1]? = some y := by rw [List.getElem?_drop, show B + (m + 1) = k from by omega]; exact hy
            refine rOk (d := 46) (x := .ptr 9 3) rfl rfl rfl ?_
            refine rOk (d := 47) (x := .osl 70 0 (m + 1) false) rfl rfl rfl ?_
            refine rOk (d := 48) (x := .ptr 75 0) rfl rfl rfl ?_
            refine rOk (d := 49) (x := vU y.pc) rfl rfl rfl ?_
            refine rOk (d := 50) (x := .sl 1 ([[vU y.pc]]) true) rfl rfl rfl ?_
            refine rFx (d := 51) (x := .osl 86 0 (m + 1 + 1) false) (h' := upd (upd _ 70 none) 86 (some (.arr (((c.retired.drop B).take (m + 1 + 1)).map pcL) 1))) rfl rfl (app_eq (ownLen _ _ (show m + 1 < (c.retired.drop B).length from by rw [List.length_drop]; have := of_decide_eq_true h9; omega)) (ownR pcL (c.retired.drop B) hy0)) (⟨by rw [ownLen _ _ (show m + 1 < (c.retired.drop B).length from by rw [List.length_drop]; have := of_decide_eq_true h9; omega)]; have := hok.ret; show m + 1 + 1 ≤ 1000000; have := of_decide_eq_true h9; omega, by rw [Nat.zero_add]; simp; have := of_decide_eq_true h9; omega, trivial⟩) ?_
            refine rOk (d := 52) (x := .ptr 9 3) rfl rfl rfl ?_
            refine rFx0 (h' := upd _ 9 (some (.box [.sl 1 ((tagsCa c.data).map rowSet) false, .sl 1 ((tagsCa c.words).map rowSet) false, .osl 60 0 (j + 1) false, .osl 86 0 (m + 1 + 1) false]))) rfl rfl (rfl) (trivial) ?_
            refine rEnd (n' := 89) rfl ?_
            refine cReg rfl ?_
            have b9 : k + 1 ≤ 1000001 := Nat.add_le_add hkB (Nat.le_refl 1)
            refine rOk (d := 53) (x := vN (k + 1)) rfl rfl (okI (wrapI64 b9 rfl)) ?_
            refine rOk (d := 38) (x := vN (k + 1)) rfl rfl rfl ?_
            refine rEnd (n' := 91) rfl ?_
            refine ⟨(k + 1, (m + 1) + 1), fun s => match s with | 70 => 86 | s => s, Weak.of_lists (fun s => match s with | 70 => 86 | s => s) ⟨⟨rfl, rfl⟩, ⟨rfl, rfl⟩, ⟨rfl, rfl⟩, ⟨rfl, rfl⟩, ⟨rfl, rfl⟩, ⟨rfl, rfl⟩, ⟨rfl, rfl⟩, trivial⟩ ⟨⟨rfl, rfl, rfl⟩, ⟨rfl, rfl, rfl⟩, ⟨rfl, rfl, rfl⟩, ⟨rfl, rfl, rfl⟩, ⟨rfl, rfl, rfl⟩, trivial⟩ rfl, ⟨by have q := of_decide_eq_true h10; show m + 1 + 1 = k + 1 - B; omega, of_decide_eq_true h9⟩, by have := of_decide_eq_true h9; show c.retired.length - (k + 1) < c.retired.length - k; omega⟩
          · skip
            refine cSkip ?_
            refine cReg rfl ?_
            have b10 : k + 1 ≤ 1000001 := Nat.add_le_add hkB (Nat.le_refl 1)
            refine rOk (d := 53) (x := vN (k + 1)) rfl rfl (okI (wrapI64 b10 rfl)) ?_
            refine rOk (d := 38) (x := vN (k + 1)) rfl rfl rfl ?_
            refine rEnd (n' := 83) rfl ?_
            refine ⟨(k + 1, m + 1), fun s => s, Weak.of_lists (fun s => s) ⟨⟨rfl, rfl⟩, ⟨rfl, rfl⟩, ⟨rfl, rfl⟩, ⟨rfl, rfl⟩, ⟨rfl, rfl⟩, ⟨rfl, rfl⟩, ⟨rfl, rfl⟩, trivial⟩ ⟨⟨rfl, rfl, rfl⟩, ⟨rfl, rfl, rfl⟩, ⟨rfl, rfl, rfl⟩, ⟨rfl, rfl, rfl⟩, ⟨rfl, rfl, rfl⟩, trivial⟩ rfl, ⟨by have q := of_decide_eq_false h10; show m + 1 = k + 1 - B; omega, of_decide_eq_true h9⟩, by have := of_decide_eq_true h9; show c.retired.length - (k + 1) < c.retired.length - k; omega⟩
        · skip
          refine cExit ?_
          refine cSeq ?_
          refine cReg rfl ?_
          refine rOk (d := 54) (x := .agg [.sl 1 ((tagsCa c.data).map rowSet) false, .sl 1 ((tagsCa c.words).map rowSet) false, .osl 60 0 (j + 1) false, .osl 70 0 (m + 1) false]) rfl rfl rfl ?_
          refine rFx0 (h' := upd _ 1 (some (.box [.sl 1 ((tagsCa c.data).map rowSet) false, .sl 1 ((tagsCa c.words).map rowSet) false, .osl 60 0 (j + 1) false, .osl 70 0 (m + 1) false]))) rfl rfl (rfl) (trivial) ?_
          refine rEnd (n' := 74) rfl ?_
          refine cRet ?_
          have hB2 : (maxI before).toNat = B := by rw [hB]; rfl
          have hj2 : j + 1 = c.bus.length := by have := of_decide_eq_false h6; omega
          have hk3 : m + 1 = (c.retired.drop B).length := by rw [List.length_drop]; have := of_decide_eq_false h9; omega
          exact ⟨_, rfl, ⟨trivial, trivial, (by show 0 + (j + 1) ≤ ((c.bus.take (j + 1)).map seeQ).length; rw [List.length_map, List.length_take]; omega), (by show 0 + (m + 1) ≤ (((c.retired.drop B).take (m + 1)).map pcL).length; rw [List.length_map, List.length_take]; omega), trivial⟩, rfl, Sub.agg ⟨Sub.refl _, Sub.refl _, (by show Sub (.sl 4 (List.take (j + 1) (List.drop 0 ((c.bus.take (j + 1)).map seeQ))) false) (.sl 4 ((c.bus.map seeR).map rqL) false); rw [ownEnd seeQ c.bus hj2, List.map_map]; exact Sub.refl _), (by show Sub (.sl 1 (List.take (m + 1) (List.drop 0 (((c.retired.drop B).take (m + 1)).map pcL))) false) (.sl 1 (((c.retired.drop (maxI before).toNat).map (·.pc)).map rowU) false); rw [hB2, ownEnd pcL (c.retired.drop B) hk3, List.map_map]; exact Sub.refl _), trivial⟩⟩
end Go.Proofs.Ytckjihpdjefpgaa
