/- Packages bus and cache: walks on the second machine. -/
import Derived.Test.YtckjihpdjefpgaaConf
namespace Go.Proofs.Ytckjihpdjefpgaa
open Go.RowKit

abbrev wyL (x : Wy) : List AV := [.v (.int .u32 (x.line : Int)), .v (.bool x.dirty), .v (.string x.data)]
abbrev setA (s : List Wy) : AV := .sl 3 (s.map wyL) false
abbrev rowSet (s : List Wy) : List AV := [setA s]
abbrev caL (c : Ca) (k : Bool) : List AV := [.v (.int .i64 c.ways), .sl 1 (c.sets.map rowSet) k]
abbrev rqL (x : Req) : List AV := [.v (.int .i64 x.kind), .v (.int .u32 (x.line : Int)), .v (.int .i64 x.left), .v (.string x.data)]
def optA (o : Option Nat) : AV := .tup [vN (o.getD 0), vB o.isSome]
structure Wy.ok (x : Wy) : Prop where
  line : x.line ≤ 4294967295
structure Ca.ok (c : Ca) : Prop where
  sets : c.sets.length ≤ 9223372036854775807
  set : ∀ s ∈ c.sets, s.length ≤ 9223372036854775807 ∧ ∀ x ∈ s, x.ok
theorem lineOf_le {a : Nat} (h : a ≤ 4294967295) : lineOf a ≤ 4294967295 := by unfold lineOf; omega
theorem u32N {a b : Nat} (h : a = b) : AV.v (.int .u32 ((a : Nat) : Int)) = .v (.int .u32 ((b : Nat) : Int)) := by rw [h]
theorem i64N {a b : Nat} (h : a = b) : AV.v (.int .i64 ((a : Nat) : Int)) = .v (.int .i64 ((b : Nat) : Int)) := by rw [h]
theorem getM {α : Type} {f : α → List AV} {l : List α} {k : Nat} {x : α} (h : l[k]? = some x) : (l.map f)[k]? = some (f x) := by rw [List.getElem?_map, h]; rfl

set_option maxRecDepth 100000 in
set_option maxHeartbeats 4000000 in
theorem dLineOf (a : Nat) (ha : a ≤ 4294967295) : DCall C0 109 [vU a] (vU (lineOf a)) := by
  refine DCall.intro c0Ok Try.func109 rfl rfl (by kernel_rfl) rfl ?_
  refine cSeq ?_
  refine cReg rfl ?_
  refine rOk (d := 2) (x := .v (.int .u32 0)) rfl rfl rfl ?_
  refine rEnd (n' := 1) rfl ?_
  refine cSeq ?_
  refine cReg rfl ?_
  refine rOk (d := 3) (x := vU a) rfl rfl rfl ?_
  refine rOk (d := 4) (x := vU a) rfl rfl rfl ?_
  have b1 : a % 16 ≤ 15 := Nat.le_of_lt_succ (Nat.mod_lt _ (by decide))
  refine rNeed (d := 5) (x := vU (a % 16)) rfl rfl rfl (by decide) ?_
  have b2 : (a + 4294967296 - (a % 16)) % 4294967296 ≤ 4294967295 := Nat.le_of_lt_succ (Nat.mod_lt _ (by decide))
  refine rOk (d := 6) (x := vU ((a + 4294967296 - (a % 16)) % 4294967296)) rfl rfl (okI (subI32 b1 rfl)) ?_
  refine rOk (d := 2) (x := vU ((a + 4294967296 - (a % 16)) % 4294967296)) rfl rfl rfl ?_
  refine rEnd (n' := 6) rfl ?_
  refine cRet ?_
  exact finTA rfl trivial rfl (u32N (by unfold lineOf; omega))
set_option maxRecDepth 100000 in
set_option maxHeartbeats 4000000 in
theorem dSetOf (c : Ca) (line : Nat) (ck : Bool) (h0 : 0 < c.sets.length) (hl : c.sets.length ≤ 2000000) (hline : line ≤ 4294967295) : DCall C0 110 [.agg (caL c ck), vU line] (vN (setOf c line)) := by
  refine DCall.intro c0Ok Try.func110 rfl rfl (by kernel_rfl) rfl ?_
  refine cSeq ?_
  refine cReg rfl ?_
  refine rFx (d := 2) (x := .ptr 0 0) (h' := upd _ 0 (some (.box [vI c.ways, .sl 1 (c.sets.map rowSet) ck]))) rfl rfl (rfl) (trivial) ?_
  refine rOk (d := 4) (x := vI 0) rfl rfl rfl ?_
  refine rEnd (n' := 2) rfl ?_
  refine cSeq ?_
  refine cReg rfl ?_
  refine rOk (d := 5) (x := vU line) rfl rfl rfl ?_
  have b1 : line / 16 ≤ 268435455 := Nat.div_le_div_right hline
  refine rNeed (d := 6) (x := vU (line / 16)) rfl rfl (needI (modI b1 rfl)) (by decide) ?_
  refine rOk (d := 7) (x := .ptr 0 1) rfl rfl rfl ?_
  refine rOk (d := 8) (x := .sl 1 (c.sets.map rowSet) ck) rfl rfl rfl ?_
  refine rOk (d := 9) (x := vN c.sets.length) rfl rfl (lenMap rowSet c.sets) ?_
  refine rOk (d := 10) (x := vU c.sets.length) rfl rfl (okI (modI hl rfl)) ?_
  have b2 : (line / 16) % c.sets.length ≤ 268435455 := Nat.le_trans (Nat.mod_le _ _) b1
  refine rNeed (d := 11) (x := vU ((line / 16) % c.sets.length)) rfl rfl rfl (by omega) ?_
  refine rOk (d := 12) (x := vN ((line / 16) % c.sets.length)) rfl rfl (okI (wrapI64 b2 rfl)) ?_
  refine rOk (d := 4) (x := vN ((line / 16) % c.sets.length)) rfl rfl rfl ?_
  refine rEnd (n' := 11) rfl ?_
  refine cRet ?_
  exact finTA rfl trivial rfl rfl

theorem place_next {s : List Wy} {line k : Nat} {x : Wy} (hx : s[k]? = some x) (hn : ¬ x.line = line) (h : placeW s line = (placeW (s.drop k) line).map (· + k)) : placeW s line = (placeW (s.drop (k + 1)) line).map (· + (k + 1)) := by
  obtain ⟨hk, hx'⟩ := List.getElem?_eq_some_iff.1 hx
  rw [h, List.drop_eq_getElem_cons hk, hx']
  simp only [placeW, if_neg hn, Option.map_map]
  congr 1
  funext i
  show i + 1 + k = i + (k + 1)
  omega
theorem place_here {s : List Wy} {line k : Nat} {x : Wy} (hx : s[k]? = some x) (hn : x.line = line) (h : placeW s line = (placeW (s.drop k) line).map (· + k)) : placeW s line = some k := by
  obtain ⟨hk, hx'⟩ := List.getElem?_eq_some_iff.1 hx
  rw [h, List.drop_eq_getElem_cons hk, hx']
  simp [placeW, hn]
theorem place_end {s : List Wy} {line k : Nat} (hk : s.length ≤ k) (h : placeW s line = (placeW (s.drop k) line).map (· + k)) : placeW s line = none := by
  rw [h, List.drop_of_length_le hk]; rfl

set_option maxRecDepth 100000 in
set_option maxHeartbeats 4000000 in
theorem dPlace (s : List Wy) (line : Nat) (ck : Bool) (hs : s.length ≤ 2000000) (ho : ∀ x ∈ s, x.ok) (hline : line ≤ 4294967295) : DCall C0 111 [.sl 3 (s.map wyL) ck, vU line] (optA (placeW s line)) := by
  refine DCall.intro c0Ok Try.func111 rfl rfl (by kernel_rfl) rfl ?_
  refine cSeq ?_
  refine cReg rfl ?_
  refine rOk (d := 4) (x := vI 0) rfl rfl rfl ?_
  refine rOk (d := 5) (x := vB false) rfl rfl rfl ?_
  refine rEnd (n' := 2) rfl ?_
  refine cSeq ?_
  refine cSeq ?_
  refine cReg rfl ?_
  refine rOk (d := 8) (x := .sl 3 (s.map wyL) ck) rfl rfl rfl ?_
  refine rOk (d := 9) (x := vN s.length) rfl rfl (lenMap wyL s) ?_
  refine rOk (d := 10) (x := vI 0) rfl rfl rfl ?_
  refine rEnd (n' := 5) rfl ?_
  refine cBlock ?_
  refine cLoop (κ := Nat) (fun k => ⟨slotsF [(1, vU line), (8, .sl 3 (s.map wyL) ck), (9, vN s.length), (10, vN k)], heapF [], 5⟩) (fun k => k ≤ s.length ∧ placeW s line = (placeW (s.drop k) line).map (· + k)) (fun k => s.length - k) 0 (fun s => s) (Weak.of_lists (fun s => s) ⟨⟨rfl, rfl⟩, ⟨rfl, rfl⟩, ⟨rfl, rfl⟩, ⟨rfl, rfl⟩, trivial⟩ trivial rfl) (⟨Nat.zero_le _, by simp⟩) ?_
  intro k hk
  have hkB : k ≤ 2000000 := by have := hk.1; omega
  refine cSeq ?_
  refine cReg rfl ?_
  refine rOk (d := 11) (x := vB (decide (k < s.length))) rfl rfl (okB (ltN _ _)) ?_
  refine rEnd (n' := 6) rfl ?_
  refine cSeq ?_
  refine cCond (v := decide (k < s.length)) rfl (fun h1 => ?_) (fun h1 => ?_)
  · skip
    refine cSkip ?_
    refine cSeq ?_
    refine cBlock ?_
    refine cSeq ?_
    refine cReg rfl ?_
    refine rOk (d := 12) (x := vN k) rfl rfl rfl ?_
    obtain ⟨x, hx⟩ : ∃ x, s[k]? = some x := ⟨_, List.getElem?_eq_getElem (of_decide_eq_true h1)⟩
    have hxo := ho x (List.mem_of_getElem? hx)
    refine rIdx (wyL x) (d := 13) (x := .dp 3 0 (wyL x)) rfl rfl rfl (⟨Int.natCast_nonneg _, getM hx⟩) rfl ?_
    refine rOk (d := 14) (x := .agg (wyL x)) rfl rfl rfl ?_
    refine rFx (d := 7) (x := .ptr 9 0) (h' := upd _ 9 (some (.box [.v (.int .u32 0), vB false, .v (.string (⟨#[]⟩ : ByteArray))]))) rfl rfl (rfl) (trivial) ?_
    refine rOk (d := 6) (x := vN k) rfl rfl rfl ?_
    refine rFx0 (h' := upd _ 9 (some (.box (wyL x)))) rfl rfl (rfl) (trivial) ?_
    refine rEnd (n' := 12) rfl ?_
    refine cSeq ?_
    refine cReg rfl ?_
    refine rOk (d := 15) (x := .ptr 9 0) rfl rfl rfl ?_
    refine rOk (d := 16) (x := vU x.line) rfl rfl rfl ?_
    refine rOk (d := 17) (x := vU line) rfl rfl rfl ?_
    refine rOk (d := 18) (x := vB (x.line == line)) rfl rfl (okB (eqN _ _)) ?_
    refine rEnd (n' := 16) rfl ?_
    refine cCond (v := x.line == line) rfl (fun h2 => ?_) (fun h2 => ?_)
    · skip
      refine cSeq ?_
      refine cReg rfl ?_
      refine rOk (d := 19) (x := vN k) rfl rfl rfl ?_
      refine rOk (d := 4) (x := vN k) rfl rfl rfl ?_
      refine rOk (d := 5) (x := vB true) rfl rfl rfl ?_
      refine rEnd (n' := 19) rfl ?_
      refine cRet ?_
      exact finTA rfl trivial rfl (by rw [place_here hx (by simpa using h2) hk.2]; rfl)
    · skip
      refine cSkip ?_
      refine cReg rfl ?_
      have b1 : k + 1 ≤ 2000001 := Nat.add_le_add hkB (Nat.le_refl 1)
      refine rOk (d := 20) (x := vN (k + 1)) rfl rfl (okI (wrapI64 b1 rfl)) ?_
      refine rOk (d := 10) (x := vN (k + 1)) rfl rfl rfl ?_
      refine rEnd (n' := 18) rfl ?_
      refine ⟨k + 1, fun s => s, Weak.of_lists (fun s => s) ⟨⟨rfl, rfl⟩, ⟨rfl, rfl⟩, ⟨rfl, rfl⟩, ⟨rfl, rfl⟩, trivial⟩ trivial rfl, ⟨of_decide_eq_true h1, place_next hx (by simpa using h2) hk.2⟩, by have := of_decide_eq_true h1; show s.length - (k + 1) < s.length - k; omega⟩
  · skip
    refine cExit ?_
    refine cSeq ?_
    refine cReg rfl ?_
    refine rOk (d := 4) (x := vI 0) rfl rfl rfl ?_
    refine rOk (d := 5) (x := vB false) rfl rfl rfl ?_
    refine rEnd (n' := 8) rfl ?_
    refine cRet ?_
    exact finTA rfl trivial rfl (by rw [place_end (by have := of_decide_eq_false h1; omega) hk.2]; rfl)

/-- May a way stand at a place of a set? -/
def wayOk (c : Ca) (k : Nat) (s : List Wy) (i : Nat) (x : Wy) : Prop := lineOf x.line = x.line ∧ setOf c x.line = k ∧ (x.data.size = 0 ∨ x.data.size = 16) ∧ placeW (s.take i) x.line = none
theorem rightSet_iff (c : Ca) (k : Nat) (s : List Wy) : rightSet c k s = true ↔ (s.length : Int) ≤ c.ways ∧ ∀ i x, s[i]? = some x → wayOk c k s i x := by
  unfold rightSet wayOk
  simp only [Bool.and_eq_true, decide_eq_true_eq, List.all_eq_true, List.mem_range]
  refine and_congr_right fun _ => ⟨fun h i x hx => ?_, fun h i hi => ?_⟩
  · have := h i (List.getElem?_eq_some_iff.1 hx).1
    rw [hx] at this
    simp only [Bool.and_eq_true, Bool.or_eq_true, decide_eq_true_eq, Option.isNone_iff_eq_none] at this
    exact ⟨this.1.1.1, this.1.1.2, this.1.2, this.2⟩
  · rw [List.getElem?_eq_getElem hi]
    have := h i _ (List.getElem?_eq_getElem hi)
    simp only [Bool.and_eq_true, Bool.or_eq_true, decide_eq_true_eq, Option.isNone_iff_eq_none]
    exact ⟨⟨⟨this.1, this.2.1⟩, this.2.2.1⟩, this.2.2.2⟩
theorem rightCa_iff (c : Ca) : rightCa c = true ↔ ((c.sets.length = 1 ∨ c.sets.length = 2 ∨ c.sets.length = 4) ∧ (c.ways = 1 ∨ c.ways = 2)) ∧ ∀ k s, c.sets[k]? = some s → rightSet c k s = true := by
  unfold rightCa
  simp only [Bool.and_eq_true, Bool.or_eq_true, decide_eq_true_eq, List.all_eq_true, List.mem_range]
  refine and_congr ?_ ⟨fun h k s hs => ?_, fun h k hk => ?_⟩
  · rw [or_assoc]
  · have := h k (List.getElem?_eq_some_iff.1 hs).1
    rwa [hs] at this
  · rw [List.getElem?_eq_getElem hk]
    exact h k _ (List.getElem?_eq_getElem hk)
theorem rightCa_no {c : Ca} (h : ¬ rightCa c = true) : rightCa c = false := by simpa using h


theorem cache_head {n : Nat} {w : Int} (h : cond2 (cond2 (cond2 (n != 1) (n != 2) false) (n != 4) false) true (cond2 (w != 1) (w != 2) false) = false) : (n = 1 ∨ n = 2 ∨ n = 4) ∧ (w = 1 ∨ w = 2) := by
  simp only [c2] at h
  constructor
  · by_cases h1 : n = 1 <;> by_cases h2 : n = 2 <;> by_cases h4 : n = 4 <;> simp_all
  · by_cases h1 : w = 1
    · exact .inl h1
    · by_cases h2 : w = 2
      · exact .inr h2
      · simp [h1, h2] at h
        omega
theorem cache_nohead {n : Nat} {w : Int} (h : cond2 (cond2 (cond2 (n != 1) (n != 2) false) (n != 4) false) true (cond2 (w != 1) (w != 2) false) = true) : ¬ ((n = 1 ∨ n = 2 ∨ n = 4) ∧ (w = 1 ∨ w = 2)) := by
  rintro ⟨rfl | rfl | rfl, rfl | rfl⟩ <;> simp [cond2] at h
theorem way_all {c : Ca} {k j : Nat} {s : List Wy} {x : Wy} (h1 : cond2 ((lineOf x.line) != x.line) true ((setOf c x.line) != k) = false) (h2 : cond2 ((x.data.size : Int) != 0) ((x.data.size : Int) != 16) false = false) (h3 : (placeW (s.take j) x.line).isSome = false) : wayOk c k s j x := by
  simp only [c2] at h1 h2
  refine ⟨?_, ?_, ?_, by simpa using h3⟩
  · by_cases h : lineOf x.line = x.line <;> simp_all
  · by_cases h : setOf c x.line = k <;> simp_all
  · by_cases h : x.data.size = 0
    · exact .inl h
    · right; simp_all; omega
theorem way_no_0 {c : Ca} {k j : Nat} {s : List Wy} {x : Wy} (h : cond2 ((lineOf x.line) != x.line) true ((setOf c x.line) != k) = true) : ¬ wayOk c k s j x := fun q => by
  rw [q.1, q.2.1] at h; simp [cond2] at h
theorem way_no_1 {c : Ca} {k j : Nat} {s : List Wy} {x : Wy} (h : cond2 ((x.data.size : Int) != 0) ((x.data.size : Int) != 16) false = true) : ¬ wayOk c k s j x := fun q => by
  rcases q.2.2.1 with e | e <;> rw [e] at h <;> simp [cond2] at h
theorem way_no_2 {c : Ca} {k j : Nat} {s : List Wy} {x : Wy} (h : (placeW (s.take j) x.line).isSome = true) : ¬ wayOk c k s j x := fun q => by
  rw [q.2.2.2] at h; cases h
theorem right_next {c : Ca} {k : Nat} {s : List Wy} (hs : c.sets[k]? = some s) (h : rightSet c k s = true) (hk : ∀ i s, i < k → c.sets[i]? = some s → rightSet c i s = true) : ∀ i s, i < k + 1 → c.sets[i]? = some s → rightSet c i s = true := fun i s' hi hs' => by
  by_cases e : i = k
  · subst e; rw [hs] at hs'; injection hs' with e; exact e ▸ h
  · exact hk i s' (by omega) hs'
theorem way_next {c : Ca} {k j : Nat} {s : List Wy} {x : Wy} (hx : s[j]? = some x) (h : wayOk c k s j x) (hj : ∀ i x, i < j → s[i]? = some x → wayOk c k s i x) : ∀ i x, i < j + 1 → s[i]? = some x → wayOk c k s i x := fun i x' hi hx' => by
  by_cases e : i = j
  · subst e; rw [hx] at hx'; injection hx' with e; exact e ▸ h
  · exact hj i x' (by omega) hx'

set_option maxRecDepth 100000 in
set_option maxHeartbeats 4000000 in
theorem dRightCa (c : Ca) (ck : Bool) (hok : c.ok) : DCall C0 90 [.agg (caL c ck)] (vB (rightCa c)) := by
  refine DCall.intro c0Ok Try.func90 rfl rfl (by kernel_rfl) rfl ?_
  refine cSeq ?_
  refine cReg rfl ?_
  refine rFx (d := 1) (x := .ptr 0 0) (h' := upd _ 0 (some (.box [vI c.ways, .sl 1 (c.sets.map rowSet) ck]))) rfl rfl (rfl) (trivial) ?_
  refine rOk (d := 2) (x := vB false) rfl rfl rfl ?_
  refine rEnd (n' := 2) rfl ?_
  refine cSeq ?_
  refine cReg rfl ?_
  refine rOk (d := 10) (x := .ptr 0 1) rfl rfl rfl ?_
  refine rOk (d := 11) (x := .sl 1 (c.sets.map rowSet) ck) rfl rfl rfl ?_
  refine rOk (d := 12) (x := vN c.sets.length) rfl rfl (lenMap rowSet c.sets) ?_
  refine rOk (d := 3) (x := vN c.sets.length) rfl rfl rfl ?_
  refine rEnd (n' := 6) rfl ?_
  refine cSeq ?_
  refine cSeq ?_
  refine cReg rfl ?_
  refine rOk (d := 13) (x := vN c.sets.length) rfl rfl rfl ?_
  refine rOk (d := 14) (x := vB (c.sets.length != 1)) rfl rfl (okB (neN _ _)) ?_
  refine rOk (d := 15) (x := vB (c.sets.length != 1)) rfl rfl rfl ?_
  refine gOk (d := 16) (x := vN c.sets.length) (g := c.sets.length != 1) rfl rfl rfl rfl rfl rfl ?_
  refine gOkS (d := 17) (x := vB (c.sets.length != 2)) (g := c.sets.length != 1) rfl rfl rfl rfl (fun h => h) rfl (okB (neN _ _)) ?_
  refine rNeed (d := 18) (x := vB (cond2 (c.sets.length != 1) (c.sets.length != 2) false)) rfl rfl rfl (fun h => h) ?_
  refine rOk (d := 19) (x := vB (cond2 (c.sets.length != 1) (c.sets.length != 2) false)) rfl rfl rfl ?_
  refine gOk (d := 20) (x := vN c.sets.length) (g := cond2 (c.sets.length != 1) (c.sets.length != 2) false) rfl rfl rfl rfl rfl rfl ?_
  refine gOkS (d := 21) (x := vB (c.sets.length != 4)) (g := cond2 (c.sets.length != 1) (c.sets.length != 2) false) rfl rfl rfl rfl (fun h => h) rfl (okB (neN _ _)) ?_
  refine rNeed (d := 22) (x := vB (cond2 (cond2 (c.sets.length != 1) (c.sets.length != 2) false) (c.sets.length != 4) false)) rfl rfl rfl (fun h => h) ?_
  refine rOk (d := 23) (x := vB (cond2 (cond2 (c.sets.length != 1) (c.sets.length != 2) false) (c.sets.length != 4) false)) rfl rfl rfl ?_
  refine gOk (d := 24) (x := .ptr 0 0) (g := !(cond2 (cond2 (c.sets.length != 1) (c.sets.length != 2) false) (c.sets.length != 4) false)) rfl rfl rfl rfl rfl rfl ?_
  refine gOkS (d := 25) (x := vI c.ways) (g := !(cond2 (cond2 (c.sets.length != 1) (c.sets.length != 2) false) (c.sets.length != 4) false)) rfl rfl rfl rfl (fun h => h) rfl rfl ?_
  refine gOkS (d := 26) (x := vB (c.ways != 1)) (g := !(cond2 (cond2 (c.sets.length != 1) (c.sets.length != 2) false) (c.sets.length != 4) false)) rfl rfl rfl rfl (fun h => h) rfl rfl ?_
  refine gOkS (d := 27) (x := vB (c.ways != 1)) (g := !(cond2 (cond2 (c.sets.length != 1) (c.sets.length != 2) false) (c.sets.length != 4) false)) rfl rfl rfl rfl (fun h => h) rfl rfl ?_
  refine gOk (d := 28) (x := .ptr 0 0) (g := (!(cond2 (cond2 (c.sets.length != 1) (c.sets.length != 2) false) (c.sets.length != 4) false)) && (c.ways != 1)) rfl rfl rfl rfl rfl rfl ?_
  refine gOkS (d := 29) (x := vI c.ways) (g := (!(cond2 (cond2 (c.sets.length != 1) (c.sets.length != 2) false) (c.sets.length != 4) false)) && (c.ways != 1)) rfl rfl rfl rfl (fun h => h) rfl rfl ?_
  refine gOkS (d := 30) (x := vB (c.ways != 2)) (g := (!(cond2 (cond2 (c.sets.length != 1) (c.sets.length != 2) false) (c.sets.length != 4) false)) && (c.ways != 1)) rfl rfl rfl rfl (fun h => h) rfl rfl ?_
  refine gNeedS (d := 31) (x := vB (cond2 (c.ways != 1) (c.ways != 2) false)) (g := !(cond2 (cond2 (c.sets.length != 1) (c.sets.length != 2) false) (c.sets.length != 4) false)) rfl rfl rfl rfl (fun h => h) rfl rfl (fun hg hc => by first | (rw [hg, hc]; rfl) | simp_all) ?_
  refine rNeed (d := 32) (x := vB (cond2 (cond2 (cond2 (c.sets.length != 1) (c.sets.length != 2) false) (c.sets.length != 4) false) true (cond2 (c.ways != 1) (c.ways != 2) false))) rfl rfl rfl (by simp) ?_
  refine rEnd (n' := 26) rfl ?_
  refine cCond (v := cond2 (cond2 (cond2 (c.sets.length != 1) (c.sets.length != 2) false) (c.sets.length != 4) false) true (cond2 (c.ways != 1) (c.ways != 2) false)) rfl (fun h1 => ?_) (fun h1 => ?_)
  · skip
    refine cSeq ?_
    refine cReg rfl ?_
    refine rOk (d := 2) (x := vB false) rfl rfl rfl ?_
    refine rEnd (n' := 27) rfl ?_
    refine cRet ?_
    exact fB (x := false) rfl (rightCa_no (c := c) (fun q => cache_nohead h1 ((rightCa_iff c).1 q).1)).symm
  · skip
    refine cSkip ?_
    refine cSeq ?_
    refine cSeq ?_
    refine cReg rfl ?_
    refine rOk (d := 33) (x := .ptr 0 1) rfl rfl rfl ?_
    refine rOk (d := 34) (x := .sl 1 (c.sets.map rowSet) ck) rfl rfl rfl ?_
    refine rOk (d := 35) (x := vN c.sets.length) rfl rfl (lenMap rowSet c.sets) ?_
    refine rOk (d := 36) (x := vI 0) rfl rfl rfl ?_
    refine rEnd (n' := 30) rfl ?_
    refine cBlock ?_
    refine cLoop (κ := Nat) (fun k => ⟨slotsF [(1, .ptr 0 0), (3, vN c.sets.length), (34, .sl 1 (c.sets.map rowSet) ck), (35, vN c.sets.length), (36, vN k)], heapF [(0, .box [vI c.ways, .sl 1 (c.sets.map rowSet) ck])], 30⟩) (fun k => k ≤ c.sets.length ∧ ∀ i s, i < k → c.sets[i]? = some s → rightSet c i s = true) (fun k => c.sets.length - k) 0 (fun s => s) (Weak.of_lists (fun s => s) ⟨⟨rfl, rfl⟩, ⟨rfl, rfl⟩, ⟨rfl, rfl⟩, ⟨rfl, rfl⟩, ⟨rfl, rfl⟩, trivial⟩ ⟨⟨rfl, rfl, rfl⟩, trivial⟩ rfl) (⟨Nat.zero_le _, fun i s h => absurd h (Nat.not_lt_zero i)⟩) ?_
    intro k hk
    have hkB : k ≤ 2000000 := by have := hk.1; have := (cache_head h1).1; omega
    refine cSeq ?_
    refine cReg rfl ?_
    refine rOk (d := 37) (x := vB (decide (k < c.sets.length))) rfl rfl (okB (ltN _ _)) ?_
    refine rEnd (n' := 31) rfl ?_
    refine cSeq ?_
    refine cCond (v := decide (k < c.sets.length)) rfl (fun h2 => ?_) (fun h2 => ?_)
    · skip
      refine cSkip ?_
      refine cSeq ?_
      refine cBlock ?_
      refine cSeq ?_
      refine cReg rfl ?_
      refine rOk (d := 38) (x := vN k) rfl rfl rfl ?_
      obtain ⟨s, hs⟩ : ∃ s, c.sets[k]? = some s := ⟨_, List.getElem?_eq_getElem (of_decide_eq_true h2)⟩
      have hso := hok.set s (List.mem_of_getElem? hs)
      refine rIdx (rowSet s) (d := 39) (x := .dp 1 0 (rowSet s)) rfl rfl rfl (⟨Int.natCast_nonneg _, getM hs⟩) rfl ?_
      refine rOk (d := 40) (x := .sl 3 (s.map wyL) false) rfl rfl rfl ?_
      refine rOk (d := 4) (x := vN k) rfl rfl rfl ?_
      refine rOk (d := 5) (x := .sl 3 (s.map wyL) false) rfl rfl rfl ?_
      refine rEnd (n' := 36) rfl ?_
      refine cSeq ?_
      refine cSeq ?_
      refine cReg rfl ?_
      refine rOk (d := 41) (x := .sl 3 (s.map wyL) false) rfl rfl rfl ?_
      refine rOk (d := 42) (x := vN s.length) rfl rfl (lenMap wyL s) ?_
      refine rOk (d := 43) (x := .ptr 0 0) rfl rfl rfl ?_
      refine rOk (d := 44) (x := vI c.ways) rfl rfl rfl ?_
      refine rOk (d := 45) (x := vB (decide (((s.length : Nat) : Int) > c.ways))) rfl rfl rfl ?_
      refine rEnd (n' := 41) rfl ?_
      refine cCond (v := decide (((s.length : Nat) : Int) > c.ways)) rfl (fun h3 => ?_) (fun h3 => ?_)
      · skip
        refine cSeq ?_
        refine cReg rfl ?_
        refine rOk (d := 2) (x := vB false) rfl rfl rfl ?_
        refine rEnd (n' := 42) rfl ?_
        refine cRet ?_
        exact fB (x := false) rfl (rightCa_no (c := c) (fun q => absurd ((rightSet_iff c k s).1 (((rightCa_iff c).1 q).2 k s hs)).1 (by have := of_decide_eq_true h3; omega))).symm
      · skip
        refine cSkip ?_
        refine cSeq ?_
        refine cReg rfl ?_
        refine rOk (d := 46) (x := .sl 3 (s.map wyL) false) rfl rfl rfl ?_
        refine rOk (d := 47) (x := vN s.length) rfl rfl (lenMap wyL s) ?_
        refine rOk (d := 48) (x := vI 0) rfl rfl rfl ?_
        refine rEnd (n' := 44) rfl ?_
        refine cBlock ?_
        refine cLoop (κ := Nat) (fun j => ⟨slotsF [(1, .ptr 0 0), (3, vN c.sets.length), (34, .sl 1 (c.sets.map rowSet) ck), (35, vN c.sets.length), (36, vN k), (4, vN k), (5, .sl 3 (s.map wyL) false), (46, .sl 3 (s.map wyL) false), (47, vN s.length), (48, vN j)], heapF [(0, .box [vI c.ways, .sl 1 (c.sets.map rowSet) ck])], 44⟩) (fun j => j ≤ s.length ∧ ∀ i x, i < j → s[i]? = some x → wayOk c k s i x) (fun j => s.length - j) 0 (fun s => s) (Weak.of_lists (fun s => s) ⟨⟨rfl, rfl⟩, ⟨rfl, rfl⟩, ⟨rfl, rfl⟩, ⟨rfl, rfl⟩, ⟨rfl, rfl⟩, ⟨rfl, rfl⟩, ⟨rfl, rfl⟩, ⟨rfl, rfl⟩, ⟨rfl, rfl⟩, ⟨rfl, rfl⟩, trivial⟩ ⟨⟨rfl, rfl, rfl⟩, trivial⟩ rfl) (⟨Nat.zero_le _, fun i s h => absurd h (Nat.not_lt_zero i)⟩) ?_
        intro j hj
        have hjB : j ≤ 2000000 := by have := hj.1; have := (cache_head h1).2; have := of_decide_eq_false h3; omega
        refine cSeq ?_
        refine cReg rfl ?_
        refine rOk (d := 49) (x := vB (decide (j < s.length))) rfl rfl (okB (ltN _ _)) ?_
        refine rEnd (n' := 45) rfl ?_
        refine cSeq ?_
        refine cCond (v := decide (j < s.length)) rfl (fun h4 => ?_) (fun h4 => ?_)
        · skip
          refine cSkip ?_
          refine cSeq ?_
          refine cBlock ?_
          refine cSeq ?_
          refine cReg rfl ?_
          refine rOk (d := 50) (x := vN j) rfl rfl rfl ?_
          obtain ⟨x, hx⟩ : ∃ x, s[j]? = some x := ⟨_, List.getElem?_eq_getElem (of_decide_eq_true h4)⟩
          have hxo := hso.2 x (List.mem_of_getElem? hx)
          refine rIdx (wyL x) (d := 51) (x := .dp 3 0 (wyL x)) rfl rfl rfl (⟨Int.natCast_nonneg _, getM hx⟩) rfl ?_
          refine rOk (d := 52) (x := .agg (wyL x)) rfl rfl rfl ?_
          refine rFx (d := 7) (x := .ptr 48 0) (h' := upd _ 48 (some (.box [.v (.int .u32 0), vB false, .v (.string (⟨#[]⟩ : ByteArray))]))) rfl rfl (rfl) (trivial) ?_
          refine rOk (d := 6) (x := vN j) rfl rfl rfl ?_
          refine rFx0 (h' := upd _ 48 (some (.box (wyL x)))) rfl rfl (rfl) (trivial) ?_
          refine rEnd (n' := 51) rfl ?_
          refine cSeq ?_
          refine cSeq ?_
          refine cReg rfl ?_
          refine rOk (d := 53) (x := .ptr 48 0) rfl rfl rfl ?_
          refine rOk (d := 54) (x := vU x.line) rfl rfl rfl ?_
          refine rCall (args := [vU x.line]) (d := 55) (x := vU (lineOf x.line)) rfl rfl rfl rfl (.inl rfl) rfl (dLineOf x.line hxo.line) ?_
          refine rOk (d := 56) (x := .ptr 48 0) rfl rfl rfl ?_
          refine rOk (d := 57) (x := vU x.line) rfl rfl rfl ?_
          refine rOk (d := 58) (x := vB ((lineOf x.line) != x.line)) rfl rfl (okB (neN _ _)) ?_
          refine rOk (d := 59) (x := vB ((lineOf x.line) != x.line)) rfl rfl rfl ?_
          refine gOk (d := 60) (x := .agg [vI c.ways, .sl 1 (c.sets.map rowSet) ck]) (g := !((lineOf x.line) != x.line)) rfl rfl rfl rfl rfl rfl ?_
          refine gOk (d := 61) (x := .ptr 48 0) (g := !((lineOf x.line) != x.line)) rfl rfl rfl rfl rfl rfl ?_
          refine gOkS (d := 62) (x := vU x.line) (g := !((lineOf x.line) != x.line)) rfl rfl rfl rfl (fun h => h) rfl rfl ?_
          refine gCallS (args := [.agg [vI c.ways, .sl 1 (c.sets.map rowSet) ck], vU x.line]) (d := 63) (x := vN (setOf c x.line)) (g := !((lineOf x.line) != x.line)) rfl rfl rfl rfl (fun h => by first | (simp_all; done) | exact (Bool.and_eq_true_iff.1 h).1 | exact Bool.and_eq_true_iff.2 ⟨h, h⟩) rfl rfl rfl (.inl rfl) rfl (fun hg => dSetOf c x.line ck (by have := of_decide_eq_true h2; omega) (by have := (cache_head h1).1; omega) hxo.line) ?_
          refine gOk (d := 64) (x := vN k) (g := !((lineOf x.line) != x.line)) rfl rfl rfl rfl rfl rfl ?_
          refine gOkS (d := 65) (x := vB ((setOf c x.line) != k)) (g := !((lineOf x.line) != x.line)) rfl rfl rfl rfl (fun h => by first | (simp_all; done) | exact (Bool.and_eq_true_iff.1 h).1 | exact Bool.and_eq_true_iff.2 ⟨h, h⟩) rfl (okB (neN _ _)) ?_
          refine rNeed (d := 66) (x := vB (cond2 ((lineOf x.line) != x.line) true ((setOf c x.line) != k))) rfl rfl rfl (by simp) ?_
          refine rEnd (n' := 65) rfl ?_
          refine cCond (v := cond2 ((lineOf x.line) != x.line) true ((setOf c x.line) != k)) rfl (fun h5 => ?_) (fun h5 => ?_)
          · skip
            refine cSeq ?_
            refine cReg rfl ?_
            refine rOk (d := 2) (x := vB false) rfl rfl rfl ?_
            refine rEnd (n' := 66) rfl ?_
            refine cRet ?_
            exact fB (x := false) rfl (rightCa_no (c := c) (fun q => way_no_0 h5 (((rightSet_iff c k s).1 (((rightCa_iff c).1 q).2 k s hs)).2 j x hx))).symm
          · skip
            refine cSkip ?_
            refine cSeq ?_
            refine cSeq ?_
            refine cReg rfl ?_
            refine rOk (d := 67) (x := .ptr 48 2) rfl rfl rfl ?_
            refine rOk (d := 68) (x := .v (.string x.data)) rfl rfl rfl ?_
            refine rOk (d := 69) (x := vI (x.data.size : Int)) rfl rfl rfl ?_
            refine rOk (d := 70) (x := vB ((x.data.size : Int) != 0)) rfl rfl rfl ?_
            refine rOk (d := 71) (x := vB ((x.data.size : Int) != 0)) rfl rfl rfl ?_
            refine gOk (d := 72) (x := .ptr 48 2) (g := (x.data.size : Int) != 0) rfl rfl rfl rfl rfl rfl ?_
            refine gOkS (d := 73) (x := .v (.string x.data)) (g := (x.data.size : Int) != 0) rfl rfl rfl rfl (fun h => h) rfl rfl ?_
            refine gOkS (d := 74) (x := vI (x.data.size : Int)) (g := (x.data.size : Int) != 0) rfl rfl rfl rfl (fun h => h) rfl rfl ?_
            refine gOkS (d := 75) (x := vB ((x.data.size : Int) != 16)) (g := (x.data.size : Int) != 0) rfl rfl rfl rfl (fun h => h) rfl rfl ?_
            refine rNeed (d := 76) (x := vB (cond2 ((x.data.size : Int) != 0) ((x.data.size : Int) != 16) false)) rfl rfl rfl (fun h => h) ?_
            refine rEnd (n' := 75) rfl ?_
            refine cCond (v := cond2 ((x.data.size : Int) != 0) ((x.data.size : Int) != 16) false) rfl (fun h6 => ?_) (fun h6 => ?_)
            · skip
              refine cSeq ?_
              refine cReg rfl ?_
              refine rOk (d := 2) (x := vB false) rfl rfl rfl ?_
              refine rEnd (n' := 76) rfl ?_
              refine cRet ?_
              exact fB (x := false) rfl (rightCa_no (c := c) (fun q => way_no_1 h6 (((rightSet_iff c k s).1 (((rightCa_iff c).1 q).2 k s hs)).2 j x hx))).symm
            · skip
              refine cSkip ?_
              refine cSeq ?_
              refine cReg rfl ?_
              refine rOk (d := 78) (x := .sl 3 (s.map wyL) false) rfl rfl rfl ?_
              refine rOk (d := 79) (x := vN j) rfl rfl rfl ?_
              refine rNeed (d := 80) (x := .sl 3 (List.drop 0 (List.take j (s.map wyL))) false) rfl rfl rfl (⟨Int.le_refl _, Int.natCast_nonneg _, by show ((j : Nat) : Int) ≤ (((s.map wyL).length : Nat) : Int); rw [List.length_map]; have := of_decide_eq_true h4; omega⟩) ?_
              refine rOk (d := 81) (x := .ptr 48 0) rfl rfl rfl ?_
              refine rOk (d := 82) (x := vU x.line) rfl rfl rfl ?_
              refine rCall (args := [.sl 3 (List.drop 0 (List.take j (s.map wyL))) false, vU x.line]) (d := 83) (x := .tup [vN ((placeW (s.take j) x.line).getD 0), vB ((placeW (s.take j) x.line).isSome)]) rfl rfl rfl rfl (.inl rfl) rfl (by show DCall C0 _ [.sl 3 (List.drop 0 (List.take j (s.map wyL))) false, _] _; rw [List.drop_zero, ← List.map_take]; exact dPlace (s.take j) x.line false (by rw [List.length_take]; omega) (fun y hy => hso.2 y (List.mem_of_mem_take hy)) hxo.line) ?_
              refine rOk (d := 77) (x := .tup [vN ((placeW (s.take j) x.line).getD 0), vB ((placeW (s.take j) x.line).isSome)]) rfl rfl rfl ?_
              refine rOk (d := 84) (x := vN ((placeW (s.take j) x.line).getD 0)) rfl rfl rfl ?_
              refine rOk (d := 85) (x := vB ((placeW (s.take j) x.line).isSome)) rfl rfl rfl ?_
              refine rOk (d := 8) (x := vN ((placeW (s.take j) x.line).getD 0)) rfl rfl rfl ?_
              refine rOk (d := 9) (x := vB ((placeW (s.take j) x.line).isSome)) rfl rfl rfl ?_
              refine rEnd (n' := 86) rfl ?_
              refine cSeq ?_
              refine cReg rfl ?_
              refine rOk (d := 86) (x := vB ((placeW (s.take j) x.line).isSome)) rfl rfl rfl ?_
              refine rEnd (n' := 87) rfl ?_
              refine cCond (v := (placeW (s.take j) x.line).isSome) rfl (fun h7 => ?_) (fun h7 => ?_)
              · skip
                refine cSeq ?_
                refine cReg rfl ?_
                refine rOk (d := 2) (x := vB false) rfl rfl rfl ?_
                refine rEnd (n' := 88) rfl ?_
                refine cRet ?_
                exact fB (x := false) rfl (rightCa_no (c := c) (fun q => way_no_2 h7 (((rightSet_iff c k s).1 (((rightCa_iff c).1 q).2 k s hs)).2 j x hx))).symm
              · skip
                refine cSkip ?_
                refine cReg rfl ?_
                have b1 : j + 1 ≤ 2000001 := Nat.add_le_add hjB (Nat.le_refl 1)
                refine rOk (d := 87) (x := vN (j + 1)) rfl rfl (okI (wrapI64 b1 rfl)) ?_
                refine rOk (d := 48) (x := vN (j + 1)) rfl rfl rfl ?_
                refine rEnd (n' := 89) rfl ?_
                refine ⟨j + 1, fun s => s, Weak.of_lists (fun s => s) ⟨⟨rfl, rfl⟩, ⟨rfl, rfl⟩, ⟨rfl, rfl⟩, ⟨rfl, rfl⟩, ⟨rfl, rfl⟩, ⟨rfl, rfl⟩, ⟨rfl, rfl⟩, ⟨rfl, rfl⟩, ⟨rfl, rfl⟩, ⟨rfl, rfl⟩, trivial⟩ ⟨⟨rfl, rfl, rfl⟩, trivial⟩ rfl, ⟨of_decide_eq_true h4, way_next hx (way_all h5 h6 h7) hj.2⟩, by have := of_decide_eq_true h4; show s.length - (j + 1) < s.length - j; omega⟩
        · skip
          refine cExit ?_
          refine cReg rfl ?_
          have b2 : k + 1 ≤ 2000001 := Nat.add_le_add hkB (Nat.le_refl 1)
          refine rOk (d := 88) (x := vN (k + 1)) rfl rfl (okI (wrapI64 b2 rfl)) ?_
          refine rOk (d := 36) (x := vN (k + 1)) rfl rfl rfl ?_
          refine rEnd (n' := 47) rfl ?_
          refine ⟨k + 1, fun s => s, Weak.of_lists (fun s => s) ⟨⟨rfl, rfl⟩, ⟨rfl, rfl⟩, ⟨rfl, rfl⟩, ⟨rfl, rfl⟩, ⟨rfl, rfl⟩, trivial⟩ ⟨⟨rfl, rfl, rfl⟩, trivial⟩ rfl, ⟨of_decide_eq_true h2, right_next hs ((rightSet_iff c k s).2 ⟨by have := of_decide_eq_false h3; omega, fun i y hy => hj.2 i y (by have := (List.getElem?_eq_some_iff.1 hy).1; have := of_decide_eq_false h4; omega) hy⟩) hk.2⟩, by have := of_decide_eq_true h2; show c.sets.length - (k + 1) < c.sets.length - k; omega⟩
    · skip
      refine cExit ?_
      refine cSeq ?_
      refine cReg rfl ?_
      refine rOk (d := 2) (x := vB true) rfl rfl rfl ?_
      refine rEnd (n' := 32) rfl ?_
      refine cRet ?_
      exact fB (x := true) rfl ((rightCa_iff c).2 ⟨cache_head h1, fun i s hs => hk.2 i s (by have := (List.getElem?_eq_some_iff.1 hs).1; have := of_decide_eq_false h2; omega) hs⟩).symm

/-! ### cache.Tags -/
def tagW (x : Wy) : Wy := { x with data := noB0 }
def nilS : AV := .sl 0 [] true
/-- The rows of tags, k of them done. -/
def tagR (c : Ca) (k : Nat) : List AV := ((c.sets.take k).map fun s => setA (s.map tagW)) ++ List.replicate (c.sets.length - k) nilS
theorem tagR_len {c : Ca} {k : Nat} (h : k ≤ c.sets.length) : (tagR c k).length = c.sets.length := by unfold tagR; simp; omega
theorem tagR_zero (c : Ca) : tagR c 0 = List.replicate c.sets.length nilS := by unfold tagR; simp
theorem tagR_get {c : Ca} {k : Nat} (h : k < c.sets.length) : (tagR c k)[k]? = some nilS := by
  unfold tagR
  rw [List.getElem?_append_right (by simp; omega), List.length_map, List.length_take_of_le (by omega), Nat.sub_self, List.getElem?_replicate, if_pos (by omega)]
theorem tagR_next {c : Ca} {k : Nat} {s : List Wy} (hs : c.sets[k]? = some s) : (tagR c k).set k (setA (s.map tagW)) = tagR c (k + 1) := by
  obtain ⟨hk, hs'⟩ := List.getElem?_eq_some_iff.1 hs
  unfold tagR
  rw [List.set_append_right _ _ (by simp; omega), List.length_map, List.length_take_of_le (by omega), Nat.sub_self, show c.sets.length - k = (c.sets.length - (k + 1)) + 1 by omega, List.replicate_succ, List.set_cons_zero, List.take_add_one, hs]
  simp
theorem tagR_end {c : Ca} (h : rightCa c = true) : (tagR c c.sets.length).map (fun x => [x]) = (tagsCa c).map rowSet := by
  unfold tagR tagsCa
  rw [if_pos h, Nat.sub_self, List.take_length]
  simp only [List.replicate_zero, List.append_nil, List.map_map]
  rfl
theorem row_get {cells : List AV} {k : Nat} {x : AV} (h : cells[k]? = some x) : 0 ≤ ((0 + k : Nat) : Int) ∧ (cells.map fun x => [x])[((0 + k : Nat) : Int).toNat]? = some [x] :=
  ⟨Int.natCast_nonneg _, by show (cells.map _)[0 + k]? = _; rw [Nat.zero_add, List.getElem?_map, h]; rfl⟩
theorem repRow (fz : Fz) (n : Nat) (x : AV) : LeB fz (.arr (List.replicate n [x]) 1) (.row (List.replicate n x)) := by
  have := LeB.toRow (fz := fz) (List.replicate n x)
  rwa [List.map_replicate] at this
theorem set_row (fz : Fz) {cells : List AV} {k : Nat} {x y : AV} (hk : k < cells.length) (h : LeZ fz x y) : LeB fz (.row (cells.set k x)) (.row (cells.set k y)) := by
  refine .row _ _ (by simp) fun i a d ha hd => ?_
  by_cases e : i = k
  · subst e
    rw [List.getElem?_set_self hk] at ha hd
    injection ha with ha; injection hd with hd; subst ha; subst hd; exact h
  · rw [List.getElem?_set_ne (Ne.symm e)] at ha hd
    rw [ha] at hd; injection hd with hd; subst hd; exact .refl _
theorem mapL_set (σ : Nat → Nat) : ∀ (l : List AV) (k : Nat) (x : AV), mapL σ (l.set k x) = (mapL σ l).set k (mapA σ x)
  | [], _, _ => by simp [mapL]
  | y :: l, 0, x => by simp [mapL]
  | y :: l, k + 1, x => by simp [mapL, mapL_set σ l k x]
theorem belowL_set (n : Nat) : ∀ (l : List AV) (k : Nat) (x : AV), belowL n l = true → belowA n x = true → belowL n (l.set k x) = true
  | [], _, _, h, _ => by simpa using h
  | y :: l, 0, x, h, hx => by
    simp only [belowL] at h
    split at h
    · simp only [List.set_cons_zero, belowL, hx]; exact h
    · cases h
  | y :: l, k + 1, x, h, hx => by
    simp only [belowL] at h
    split at h
    · rename_i hy; simp only [List.set_cons_succ, belowL, hy]; exact belowL_set n l k x h hx
    · cases h
theorem closedL_all : ∀ {l : List AV}, (∀ x ∈ l, closedA x = true) → closedL l = true
  | [], _ => rfl
  | x :: l, h => by simp only [closedL, h x (List.mem_cons_self)]; exact closedL_all fun y hy => h y (List.mem_cons_of_mem _ hy)
theorem closed_tagR (c : Ca) (k : Nat) : closedL (tagR c k) = true := closedL_all fun x hx => by
  unfold tagR at hx
  rcases List.mem_append.1 hx with h | h
  · obtain ⟨s, _, rfl⟩ := List.mem_map.1 h; rfl
  · rw [List.eq_of_mem_replicate h]; rfl
theorem rowM {σ : Nat → Nat} {cells r : List AV} (hc : closedL cells = true) (h : r = cells) : some (Blk.row r) = some (mapB σ (.row cells)) := by simp only [mapB, mapL_closed σ cells hc, h]
theorem rowB {n : Nat} {cells : List AV} (hc : closedL cells = true) : belowB n (.row cells) = true := by simp only [belowB, belowL_closed n cells hc]
theorem rowSM {σ : Nat → Nat} {cells r : List AV} {k : Nat} {x : AV} (hc : closedL cells = true) (h : r = cells.set k (mapA σ x)) : some (Blk.row r) = some (mapB σ (.row (cells.set k x))) := by simp only [mapB, mapL_set, mapL_closed σ cells hc, h]
theorem rowSB {n k : Nat} {cells : List AV} {x : AV} (hc : closedL cells = true) (hx : belowA n x = true) : belowB n (.row (cells.set k x)) = true := by
  simp only [belowB]; exact belowL_set n cells k x (belowL_closed n cells hc) hx
theorem set_same {α : Type} {l : List α} {k : Nat} {x : α} (h : l[k]? = some x) : l.set k x = l := by
  apply List.ext_getElem?
  intro i
  rw [List.getElem?_set]
  split
  · rename_i e; subst e
    rw [h]; simp [(List.getElem?_eq_some_iff.1 h).1]
  · rfl
theorem set_again {α : Type} (l : List α) (k : Nat) (x y : α) : (l.set k x).set (0 + k) y = l.set k y := by rw [Nat.zero_add, List.set_set]
theorem tag_len {s : List Wy} {j : Nat} (h : j + 1 < s.length) : (List.take (j + 1) (List.drop 0 (((s.take (j + 1)).map tagW).map wyL))).length = j + 1 := by simp; omega
theorem app_eq {p : Prop} {H : AH} {s rs m : Nat} {a c r : List (List AV)} (hl : a.length = m) (hr : a ++ c = r) : Res.fx p (.osl s 0 (a.length + c.length) false) (upd H s (some (.arr (a ++ c) rs))) = .fx p (.osl s 0 (m + c.length) false) (upd H s (some (.arr r rs))) := by rw [hl, hr]
theorem sub_nil (rs : Nat) (c : Bool) : Sub (.sl 0 [] true) (.sl rs [] c) := fun S w v h => by
  cases h with
  | sl _ _ _ A c0 b o u hc hm hcl hrs hA hw h1 hr => exact .sl rs [] c A c0 b o u hc hm (fun _ => hcl rfl) (fun _ h => by cases h) (fun h => absurd h (Nat.lt_irrefl 0)) (fun i row j a h => by simp at h) h1 fun i row j a h => by simp at h
theorem tag_row0 (s : List Wy) {x : Wy} (hx : s[0]? = some x) : [wyL (tagW x)] = ((s.take 1).map tagW).map wyL := by
  cases s with
  | nil => cases hx
  | cons y l => injection hx with hx; subst hx; rfl
theorem tag_row (s : List Wy) {x : Wy} {j : Nat} (hx : s[j]? = some x) : List.take j (List.drop 0 (((s.take j).map tagW).map wyL)) ++ [wyL (tagW x)] = ((s.take (j + 1)).map tagW).map wyL := by
  obtain ⟨hj, hx'⟩ := List.getElem?_eq_some_iff.1 hx
  rw [List.drop_zero, List.take_of_length_le (by simp; omega), List.take_add_one, hx]
  simp


theorem tag_frz {s : List Wy} {j b : Nat} (hj : j + 1 = s.length) : LeZ (some (b, 3, ((s.take (j + 1)).map tagW).map wyL)) (.osl b 0 (j + 1) false) (setA (s.map tagW)) := by
  have hl : (((s.take (j + 1)).map tagW).map wyL).length = j + 1 := by simp; omega
  have := LeZ.frz (fz := some (b, 3, ((s.take (j + 1)).map tagW).map wyL)) b 3 0 (j + 1) (((s.take (j + 1)).map tagW).map wyL) false false rfl (by omega) (fun h => h)
  rw [show List.take (j + 1) (List.drop 0 (((s.take (j + 1)).map tagW).map wyL)) = ((s.take (j + 1)).map tagW).map wyL from by rw [List.drop_zero]; exact List.take_of_length_le (by omega)] at this
  have e : setA (s.map tagW) = .sl 3 (((s.take (j + 1)).map tagW).map wyL) false := by rw [hj, List.take_length]
  rw [e]
  exact this


theorem tags_len {c : Ca} (h : rightCa c = true) : (tagsCa c).length = c.sets.length := by unfold tagsCa; rw [if_pos h, List.length_map]
theorem tag_done {fz : Fz} {c : Ca} {k : Nat} (h : decide (k < c.sets.length) = false) (hk : k ≤ c.sets.length) (hr : rightCa c = true) : LeB fz (.row (tagR c k)) (.arr ((tagsCa c).map rowSet) 1) := by
  have : k = c.sets.length := by have := of_decide_eq_false h; omega
  subst this
  rw [← tagR_end hr]
  refine .toArr _ fun x hx => ?_
  unfold tagR at hx
  rw [Nat.sub_self, List.replicate_zero, List.append_nil] at hx
  obtain ⟨s, _, rfl⟩ := List.mem_map.1 hx
  rfl

set_option maxRecDepth 100000 in
set_option maxHeartbeats 4000000 in
theorem dTags (c : Ca) (ck : Bool) (hok : c.ok) : DCall C0 52 [.agg (caL c ck)] (.sl 1 ((tagsCa c).map rowSet) false) := by
  refine DCall.intro c0Ok Try.func52 rfl rfl (by kernel_rfl) rfl ?_
  refine cSeq ?_
  refine cReg rfl ?_
  refine rFx (d := 1) (x := .ptr 0 0) (h' := upd _ 0 (some (.box [vI c.ways, .sl 1 (c.sets.map rowSet) ck]))) rfl rfl (rfl) (trivial) ?_
  refine rOk (d := 2) (x := .sl 0 ([]) true) rfl rfl rfl ?_
  refine rEnd (n' := 2) rfl ?_
  refine cSeq ?_
  refine cSeq ?_
  refine cReg rfl ?_
  refine rOk (d := 8) (x := .agg [vI c.ways, .sl 1 (c.sets.map rowSet) ck]) rfl rfl rfl ?_
  refine rCall (args := [.agg [vI c.ways, .sl 1 (c.sets.map rowSet) ck]]) (d := 9) (x := vB (rightCa c)) rfl rfl rfl rfl (.inl rfl) rfl (dRightCa c ck hok) ?_
  refine rOk (d := 10) (x := vB (!(rightCa c))) rfl rfl rfl ?_
  refine rEnd (n' := 5) rfl ?_
  refine cCond (v := !(rightCa c)) rfl (fun h1 => ?_) (fun h1 => ?_)
  · skip
    refine cSeq ?_
    refine cReg rfl ?_
    refine rOk (d := 2) (x := .sl 0 ([]) true) rfl rfl rfl ?_
    refine rEnd (n' := 6) rfl ?_
    refine cRet ?_
    exact ⟨_, rfl, trivial, rfl, by show Sub _ (.sl 1 ((tagsCa c).map rowSet) false); rw [show tagsCa c = [] from if_neg (by simpa using h1)]; exact sub_nil 1 false⟩
  · skip
    refine cSkip ?_
    refine cSeq ?_
    refine cReg rfl ?_
    refine rOk (d := 11) (x := .ptr 0 1) rfl rfl rfl ?_
    refine rOk (d := 12) (x := .sl 1 (c.sets.map rowSet) ck) rfl rfl rfl ?_
    have hR : rightCa c = true := by simpa using h1
    have hR1 := ((rightCa_iff c).1 hR).1
    have hsl4 : c.sets.length ≤ 2000000 := by have := hR1.1; omega
    refine rOk (d := 13) (x := vN c.sets.length) rfl rfl (lenMap rowSet c.sets) ?_
    refine rFx (d := 14) (x := .osl 8 0 c.sets.length false) (h' := upd _ 8 (some (.arr (List.replicate c.sets.length [.sl 0 ([]) true]) 1))) rfl rfl (rfl) (⟨Int.natCast_nonneg _, Int.le_refl _, by (first | show ((c.sets.length : Nat) : Int) ≤ 2000000 | refine .inl (show ((c.sets.length : Nat) : Int) ≤ 2000000 from ?_)); have := hsl4; omega⟩) ?_
    refine rOk (d := 3) (x := .osl 8 0 c.sets.length false) rfl rfl rfl ?_
    refine rEnd (n' := 10) rfl ?_
    refine cSeqG ?_
    refine cSeqG ?_
    refine cReg rfl ?_
    refine rOk (d := 15) (x := .ptr 0 1) rfl rfl rfl ?_
    refine rOk (d := 16) (x := .sl 1 (c.sets.map rowSet) ck) rfl rfl rfl ?_
    refine rOk (d := 17) (x := vN c.sets.length) rfl rfl (lenMap rowSet c.sets) ?_
    refine rOk (d := 18) (x := vI 0) rfl rfl rfl ?_
    refine rEnd (n' := 14) rfl ?_
    refine .mk _ (.step none (Ghost.of_lists (l := [(3, .osl 8 0 c.sets.length false), (16, .sl 1 (c.sets.map rowSet) ck), (17, vN c.sets.length), (18, vI 0)]) (hp := [(8, .row (tagR c 0))]) trivial ⟨.refl _, .refl _, .refl _, .refl _, trivial⟩ ⟨⟨trivial, _, rfl, (by rw [tagR_zero]; exact repRow _ _ _)⟩, trivial⟩) (.refl _)) ?_
    refine cBlock ?_
    refine cLoop (κ := Nat) (fun k => ⟨slotsF [(3, .osl 8 0 c.sets.length false), (16, .sl 1 (c.sets.map rowSet) ck), (17, vN c.sets.length), (18, vN k)], heapF [(8, .row (tagR c k))], 14⟩) (fun k => k ≤ c.sets.length) (fun k => c.sets.length - k) 0 (fun s => s) (Weak.of_lists (fun s => s) ⟨⟨rfl, rfl⟩, ⟨rfl, rfl⟩, ⟨rfl, rfl⟩, ⟨rfl, rfl⟩, trivial⟩ ⟨⟨rfl, (rowM (closed_tagR c 0) rfl), (rowB (closed_tagR c 0))⟩, trivial⟩ rfl) (Nat.zero_le _) ?_
    intro k hk
    have hkB : k ≤ 2000000 := by omega
    refine cSeq ?_
    refine cReg rfl ?_
    refine rOk (d := 19) (x := vB (decide (k < c.sets.length))) rfl rfl (okB (ltN _ _)) ?_
    refine rEnd (n' := 15) rfl ?_
    refine cSeq ?_
    refine cCond (v := decide (k < c.sets.length)) rfl (fun h2 => ?_) (fun h2 => ?_)
    · skip
      refine cSkip ?_
      refine cJoin (κ := Unit) (fun u_ => ⟨slotsF [(3, .osl 8 0 c.sets.length false), (16, .sl 1 (c.sets.map rowSet) ck), (17, vN c.sets.length), (18, vN k)], heapF [(8, .row (tagR c (k + 1)))], 61⟩) (fun u_ => True) ?_ ?_
      · skip
        refine cBlock ?_
        refine cSeq ?_
        refine cReg rfl ?_
        refine rOk (d := 20) (x := vN k) rfl rfl rfl ?_
        obtain ⟨s, hs⟩ : ∃ s, c.sets[k]? = some s := ⟨_, List.getElem?_eq_getElem (of_decide_eq_true h2)⟩
        have hso := hok.set s (List.mem_of_getElem? hs)
        have hsl : s.length ≤ 2 := by have := ((rightSet_iff c k s).1 (((rightCa_iff c).1 hR).2 k s hs)).1; have := hR1.2; omega
        have hkl : k < c.sets.length := of_decide_eq_true h2
        refine rIdx (rowSet s) (d := 21) (x := .dp 1 0 (rowSet s)) rfl rfl rfl (⟨Int.natCast_nonneg _, getM hs⟩) rfl ?_
        refine rOk (d := 22) (x := .sl 3 (s.map wyL) false) rfl rfl rfl ?_
        refine rOk (d := 4) (x := vN k) rfl rfl rfl ?_
        refine rOk (d := 5) (x := .sl 3 (s.map wyL) false) rfl rfl rfl ?_
        refine rEnd (n' := 20) rfl ?_
        refine cSeq ?_
        refine cReg rfl ?_
        refine rOk (d := 23) (x := .sl 3 (s.map wyL) false) rfl rfl rfl ?_
        refine rOk (d := 24) (x := vN s.length) rfl rfl (lenMap wyL s) ?_
        refine rOk (d := 25) (x := vI 0) rfl rfl rfl ?_
        refine rEnd (n' := 23) rfl ?_
        refine cBlock ?_
        refine cLoop (κ := Nat) (fun j => match j with | 0 => ⟨slotsF [(3, .osl 8 0 c.sets.length false), (16, .sl 1 (c.sets.map rowSet) ck), (17, vN c.sets.length), (18, vN k), (4, vN k), (23, .sl 3 (s.map wyL) false), (24, vN s.length), (25, vN 0)], heapF [(8, .row ((tagR c k).set k (.sl 0 ([]) true)))], 61⟩ | j + 1 => ⟨slotsF [(3, .osl 8 0 c.sets.length false), (16, .sl 1 (c.sets.map rowSet) ck), (17, vN c.sets.length), (18, vN k), (4, vN k), (23, .sl 3 (s.map wyL) false), (24, vN s.length), (25, vN (j + 1))], heapF [(8, .row ((tagR c k).set k (.osl 60 0 (j + 1) false))), (60, .arr (((s.take (j + 1)).map tagW).map wyL) 3)], 61⟩) (fun j => j ≤ s.length) (fun j => s.length - j) 0 (fun s => s) (Weak.of_lists (fun s => s) ⟨⟨rfl, rfl⟩, ⟨rfl, rfl⟩, ⟨rfl, rfl⟩, ⟨rfl, rfl⟩, ⟨rfl, rfl⟩, ⟨rfl, rfl⟩, ⟨rfl, rfl⟩, ⟨rfl, rfl⟩, trivial⟩ ⟨⟨rfl, (rowSM (closed_tagR c k) (set_same (tagR_get hkl)).symm), (rowSB (closed_tagR c k) rfl)⟩, trivial⟩ rfl) (Nat.zero_le _) ?_
        intro j hj
        rcases j with _ | j
        · skip
          refine cSeq ?_
          refine cReg rfl ?_
          refine rOk (d := 26) (x := vB (decide (0 < s.length))) rfl rfl (okB (ltN _ _)) ?_
          refine rEnd (n' := 62) rfl ?_
          refine cSeq ?_
          refine cCond (v := decide (0 < s.length)) rfl (fun h3 => ?_) (fun h3 => ?_)
          · skip
            refine cSkip ?_
            refine cSeq ?_
            refine cBlock ?_
            refine cSeq ?_
            refine cReg rfl ?_
            obtain ⟨x, hx⟩ : ∃ x, s[0]? = some x := ⟨_, List.getElem?_eq_getElem (of_decide_eq_true h3)⟩
            have hxo := hso.2 x (List.mem_of_getElem? hx)
            refine rIdx (wyL x) (d := 27) (x := .dp 3 0 (wyL x)) rfl rfl rfl (⟨Int.natCast_nonneg _, getM hx⟩) rfl ?_
            refine rOk (d := 28) (x := .agg (wyL x)) rfl rfl rfl ?_
            refine rFx (d := 7) (x := .ptr 64 0) (h' := upd _ 64 (some (.box [.v (.int .u32 0), vB false, .v (.string (⟨#[]⟩ : ByteArray))]))) rfl rfl (rfl) (trivial) ?_
            refine rFx0 (h' := upd _ 64 (some (.box (wyL x)))) rfl rfl (rfl) (trivial) ?_
            refine rEnd (n' := 66) rfl ?_
            refine cSeq ?_
            refine cReg rfl ?_
            refine rOk (d := 29) (x := .ptr 64 2) rfl rfl rfl ?_
            refine rFx0 (h' := upd _ 64 (some (.box [vU x.line, vB x.dirty, .v (.string (⟨#[]⟩ : ByteArray))]))) rfl rfl (rfl) (trivial) ?_
            refine rEnd (n' := 68) rfl ?_
            refine cReg rfl ?_
            refine rOk (d := 30) (x := .osl 8 0 c.sets.length false) rfl rfl rfl ?_
            refine rOk (d := 31) (x := vN k) rfl rfl rfl ?_
            refine rOk (d := 32) (x := .osl 8 0 c.sets.length false) rfl rfl rfl ?_
            refine rOk (d := 33) (x := vN k) rfl rfl rfl ?_
            refine rNeed (d := 34) (x := .ptr2 8 (0 + k) 0) rfl rfl rfl (⟨Int.natCast_nonneg _, Int.ofNat_lt.2 (by show k < c.sets.length; omega)⟩) ?_
            refine rIdx ([.sl 0 ([]) true]) (d := 35) (x := .sl 0 ([]) true) rfl rfl rfl (row_get (List.getElem?_set_self (by rw [tagR_len (Nat.le_of_lt hkl)]; exact hkl))) rfl ?_
            refine rOk (d := 36) (x := .agg [vU x.line, vB x.dirty, .v (.string (⟨#[]⟩ : ByteArray))]) rfl rfl rfl ?_
            refine rOk (d := 37) (x := .sl 3 ([[vU x.line, vB x.dirty, .v (.string (⟨#[]⟩ : ByteArray))]]) true) rfl rfl rfl ?_
            refine rFx (d := 38) (x := .osl 76 0 1 false) (h' := upd _ 76 (some (.arr ([[vU x.line, vB x.dirty, .v (.string (⟨#[]⟩ : ByteArray))]]) 3))) rfl rfl (rfl) (⟨rfl, by simp [capMax], by simp [capMax], trivial⟩) ?_
            refine rNeed (d := 39) (x := .ptr2 8 (0 + k) 0) rfl rfl rfl (⟨Int.natCast_nonneg _, Int.ofNat_lt.2 (by show k < c.sets.length; omega)⟩) ?_
            refine rIdxFx ([nilS]) (h' := upd _ 8 (some (.row (((tagR c k).set k nilS).set (0 + k) (.osl 76 0 1 false))))) rfl rfl rfl (row_get (List.getElem?_set_self (by rw [tagR_len (Nat.le_of_lt hkl)]; exact hkl))) rfl ?_
            refine rEnd (n' := 79) rfl ?_
            refine cReg rfl ?_
            have b1 : 0 + 1 ≤ 1 := Nat.add_le_add (Nat.le_refl 0) (Nat.le_refl 1)
            refine rOk (d := 40) (x := vN (0 + 1)) rfl rfl (okI (wrapI64 b1 rfl)) ?_
            refine rOk (d := 25) (x := vN (0 + 1)) rfl rfl rfl ?_
            refine rEnd (n' := 81) rfl ?_
            refine ⟨1, fun s => match s with | 60 => 76 | s => s, Weak.of_lists (fun s => match s with | 60 => 76 | s => s) ⟨⟨rfl, rfl⟩, ⟨rfl, rfl⟩, ⟨rfl, rfl⟩, ⟨rfl, rfl⟩, ⟨rfl, rfl⟩, ⟨rfl, rfl⟩, ⟨rfl, rfl⟩, ⟨rfl, rfl⟩, trivial⟩ ⟨⟨rfl, (rowSM (closed_tagR c k) (set_again ..)), (rowSB (closed_tagR c k) rfl)⟩, ⟨rfl, (congrArg (fun z => some (Blk.arr z 3)) (tag_row0 s hx)), rfl⟩, trivial⟩ rfl, of_decide_eq_true h3, by have := of_decide_eq_true h3; show s.length - 1 < s.length - 0; omega⟩
          · skip
            refine cExit ?_
            have hs0 : s = [] := List.eq_nil_of_length_eq_zero (by have := of_decide_eq_false h3; omega)
            subst hs0
            refine .mk _ (.step none (Ghost.of_lists (l := [(3, .osl 8 0 c.sets.length false), (16, .sl 1 (c.sets.map rowSet) ck), (17, vN c.sets.length), (18, vN k)]) (hp := [(8, .row ((tagR c k).set k (setA (([] : List Wy).map tagW))))]) trivial ⟨.refl _, .refl _, .refl _, .refl _, trivial⟩ ⟨⟨trivial, _, rfl, (set_row none (y := setA (([] : List Wy).map tagW)) (by rw [tagR_len (Nat.le_of_lt hkl)]; exact hkl) (.nil 3 false))⟩, trivial⟩) (.refl _)) ⟨(), fun s => s, Weak.of_lists (fun s => s) ⟨⟨rfl, rfl⟩, ⟨rfl, rfl⟩, ⟨rfl, rfl⟩, ⟨rfl, rfl⟩, trivial⟩ ⟨⟨rfl, (rowM (closed_tagR c (k + 1)) (tagR_next hs)), (rowB (closed_tagR c (k + 1)))⟩, trivial⟩ rfl, rfl, trivial⟩
        · skip
          have hjB : j + 1 ≤ 2000000 := by omega
          refine cSeq ?_
          refine cReg rfl ?_
          refine rOk (d := 26) (x := vB (decide ((j + 1) < s.length))) rfl rfl (okB (ltN _ _)) ?_
          refine rEnd (n' := 62) rfl ?_
          refine cSeq ?_
          refine cCond (v := decide ((j + 1) < s.length)) rfl (fun h4 => ?_) (fun h4 => ?_)
          · skip
            refine cSkip ?_
            refine cSeq ?_
            refine cBlock ?_
            refine cSeq ?_
            refine cReg rfl ?_
            obtain ⟨x, hx⟩ : ∃ x, s[(j + 1)]? = some x := ⟨_, List.getElem?_eq_getElem (of_decide_eq_true h4)⟩
            have hxo := hso.2 x (List.mem_of_getElem? hx)
            refine rIdx (wyL x) (d := 27) (x := .dp 3 0 (wyL x)) rfl rfl rfl (⟨Int.natCast_nonneg _, getM hx⟩) rfl ?_
            refine rOk (d := 28) (x := .agg (wyL x)) rfl rfl rfl ?_
            refine rFx (d := 7) (x := .ptr 64 0) (h' := upd _ 64 (some (.box [.v (.int .u32 0), vB false, .v (.string (⟨#[]⟩ : ByteArray))]))) rfl rfl (rfl) (trivial) ?_
            refine rFx0 (h' := upd _ 64 (some (.box (wyL x)))) rfl rfl (rfl) (trivial) ?_
            refine rEnd (n' := 66) rfl ?_
            refine cSeq ?_
            refine cReg rfl ?_
            refine rOk (d := 29) (x := .ptr 64 2) rfl rfl rfl ?_
            refine rFx0 (h' := upd _ 64 (some (.box [vU x.line, vB x.dirty, .v (.string (⟨#[]⟩ : ByteArray))]))) rfl rfl (rfl) (trivial) ?_
            refine rEnd (n' := 68) rfl ?_
            refine cReg rfl ?_
            refine rOk (d := 30) (x := .osl 8 0 c.sets.length false) rfl rfl rfl ?_
            refine rOk (d := 31) (x := vN k) rfl rfl rfl ?_
            refine rOk (d := 32) (x := .osl 8 0 c.sets.length false) rfl rfl rfl ?_
            refine rOk (d := 33) (x := vN k) rfl rfl rfl ?_
            refine rNeed (d := 34) (x := .ptr2 8 (0 + k) 0) rfl rfl rfl (⟨Int.natCast_nonneg _, Int.ofNat_lt.2 (by show k < c.sets.length; omega)⟩) ?_
            refine rIdx ([.osl 60 0 (j + 1) false]) (d := 35) (x := .osl 60 0 (j + 1) false) rfl rfl rfl (row_get (List.getElem?_set_self (by rw [tagR_len (Nat.le_of_lt hkl)]; exact hkl))) rfl ?_
            refine rOk (d := 36) (x := .agg [vU x.line, vB x.dirty, .v (.string (⟨#[]⟩ : ByteArray))]) rfl rfl rfl ?_
            refine rOk (d := 37) (x := .sl 3 ([[vU x.line, vB x.dirty, .v (.string (⟨#[]⟩ : ByteArray))]]) true) rfl rfl rfl ?_
            refine rFx (d := 38) (x := .osl 76 0 (j + 1 + 1) false) (h' := upd (upd _ 60 none) 76 (some (.arr (((s.take (j + 1 + 1)).map tagW).map wyL) 3))) rfl rfl (app_eq (tag_len (of_decide_eq_true h4)) (tag_row s hx)) (⟨by rw [tag_len (of_decide_eq_true h4)]; have := hsl; (first | show j + 1 + 1 ≤ 2000000 | refine .inl (show j + 1 + 1 ≤ 2000000 from ?_)); have := of_decide_eq_true h4; omega, by rw [Nat.zero_add]; simp; have := of_decide_eq_true h4; omega, trivial⟩) ?_
            refine rNeed (d := 39) (x := .ptr2 8 (0 + k) 0) rfl rfl rfl (⟨Int.natCast_nonneg _, Int.ofNat_lt.2 (by show k < c.sets.length; omega)⟩) ?_
            refine rIdxFx ([.osl 60 0 (j + 1) false]) (h' := upd _ 8 (some (.row (((tagR c k).set k (.osl 60 0 (j + 1) false)).set (0 + k) (.osl 76 0 (j + 1 + 1) false))))) rfl rfl rfl (row_get (List.getElem?_set_self (by rw [tagR_len (Nat.le_of_lt hkl)]; exact hkl))) rfl ?_
            refine rEnd (n' := 79) rfl ?_
            refine cReg rfl ?_
            have b2 : (j + 1) + 1 ≤ 2000001 := Nat.add_le_add hjB (Nat.le_refl 1)
            refine rOk (d := 40) (x := vN ((j + 1) + 1)) rfl rfl (okI (wrapI64 b2 rfl)) ?_
            refine rOk (d := 25) (x := vN ((j + 1) + 1)) rfl rfl rfl ?_
            refine rEnd (n' := 81) rfl ?_
            refine ⟨(j + 1) + 1, fun s => match s with | 60 => 76 | s => s, Weak.of_lists (fun s => match s with | 60 => 76 | s => s) ⟨⟨rfl, rfl⟩, ⟨rfl, rfl⟩, ⟨rfl, rfl⟩, ⟨rfl, rfl⟩, ⟨rfl, rfl⟩, ⟨rfl, rfl⟩, ⟨rfl, rfl⟩, ⟨rfl, rfl⟩, trivial⟩ ⟨⟨rfl, (rowSM (closed_tagR c k) (set_again ..)), (rowSB (closed_tagR c k) rfl)⟩, ⟨rfl, rfl, rfl⟩, trivial⟩ rfl, of_decide_eq_true h4, by have := of_decide_eq_true h4; show s.length - ((j + 1) + 1) < s.length - (j + 1); omega⟩
          · skip
            refine cExit ?_
            have hjl : j + 1 = s.length := by have := of_decide_eq_false h4; omega
            refine .mk _ (.step (some (60, 3, ((s.take (j + 1)).map tagW).map wyL)) (Ghost.of_lists (l := [(3, .osl 8 0 c.sets.length false), (16, .sl 1 (c.sets.map rowSet) ck), (17, vN c.sets.length), (18, vN k)]) (hp := [(8, .row ((tagR c k).set k (setA (s.map tagW))))]) rfl ⟨.refl _, .refl _, .refl _, .refl _, trivial⟩ ⟨⟨rfl, _, rfl, (set_row _ (y := setA (s.map tagW)) (by rw [tagR_len (Nat.le_of_lt hkl)]; exact hkl) (tag_frz hjl))⟩, trivial⟩) (.refl _)) ⟨(), fun s => s, Weak.of_lists (fun s => s) ⟨⟨rfl, rfl⟩, ⟨rfl, rfl⟩, ⟨rfl, rfl⟩, ⟨rfl, rfl⟩, trivial⟩ ⟨⟨rfl, (rowM (closed_tagR c (k + 1)) (tagR_next hs)), (rowB (closed_tagR c (k + 1)))⟩, trivial⟩ rfl, rfl, trivial⟩
      · skip
        intro u_ _
        refine cReg rfl ?_
        have b3 : k + 1 ≤ 2000001 := Nat.add_le_add hkB (Nat.le_refl 1)
        refine rOk (d := 41) (x := vN (k + 1)) rfl rfl (okI (wrapI64 b3 rfl)) ?_
        refine rOk (d := 18) (x := vN (k + 1)) rfl rfl rfl ?_
        refine rEnd (n' := 63) rfl ?_
        refine ⟨k + 1, fun s => s, Weak.of_lists (fun s => s) ⟨⟨rfl, rfl⟩, ⟨rfl, rfl⟩, ⟨rfl, rfl⟩, ⟨rfl, rfl⟩, trivial⟩ ⟨⟨rfl, (rowM (closed_tagR c (k + 1)) rfl), (rowB (closed_tagR c (k + 1)))⟩, trivial⟩ rfl, of_decide_eq_true h2, by have := of_decide_eq_true h2; show c.sets.length - (k + 1) < c.sets.length - k; omega⟩
    · skip
      refine cExit ?_
      refine .mk _ (.step none (Ghost.of_lists (l := [(3, .osl 8 0 c.sets.length false)]) (hp := [(8, .arr ((tagsCa c).map rowSet) 1)]) trivial ⟨.refl _, trivial⟩ ⟨⟨trivial, _, rfl, (tag_done h2 hk (by simpa using h1))⟩, trivial⟩) (.refl _)) ?_
      refine cSeq ?_
      refine cReg rfl ?_
      refine rOk (d := 42) (x := .osl 8 0 c.sets.length false) rfl rfl rfl ?_
      refine rOk (d := 2) (x := .osl 8 0 c.sets.length false) rfl rfl rfl ?_
      refine rEnd (n' := 17) rfl ?_
      refine cRet ?_
      refine finTA rfl (show 0 + c.sets.length ≤ ((tagsCa c).map rowSet).length from by rw [List.length_map, tags_len (by simpa using h1)]; omega) rfl ?_
      show AV.sl 1 (List.take c.sets.length (List.drop 0 ((tagsCa c).map rowSet))) false = _
      rw [List.drop_zero, List.take_of_length_le (by rw [List.length_map, tags_len (by simpa using h1)]; omega)]
end Go.Proofs.Ytckjihpdjefpgaa
