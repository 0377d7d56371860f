/- The reference's functions that have a loop, on the second machine. -/
import Derived.Test.YtckjihpdjefpgaaQ9
import Derived.Test.YtckjihpdjefpgaaRefW
namespace Go.Proofs.Ytckjihpdjefpgaa
open Go.RowKit

abbrev rowB (b : UInt8) : List AV := [.v (.int .u8 (b.toNat : Int))]
section
variable {α : Type} {g : Nat → α} {row : α → List AV} {k : Nat}
theorem gT : List.take (k + 1) (List.drop 0 ((upto g (k + 1)).map row)) = (upto g (k + 1)).map row := by
  rw [List.drop_zero, List.take_of_length_le (by rw [List.length_map, upto_len]; exact Nat.le_refl _)]
theorem gC {r : List AV} (h : k + 2 ≤ 1000000) : (List.take (k + 1) (List.drop 0 ((upto g (k + 1)).map row))).length + ([r] : List (List AV)).length ≤ capMax := by
  rw [gT, List.length_map, upto_len]; exact h
theorem gF : 0 + (k + 1) = ((upto g (k + 1)).map row).length := by rw [List.length_map, upto_len]; omega
theorem gL {r : List AV} : (List.take (k + 1) (List.drop 0 ((upto g (k + 1)).map row))).length + ([r] : List (List AV)).length = k + 1 + 1 := by rw [gT, List.length_map, upto_len]; rfl
theorem grow0 {x : α} (h : x = g 0) : [row x] = (upto g (0 + 1)).map row := by rw [h]; rfl
theorem growS {x : α} (h : x = g (k + 1)) : List.take (k + 1) (List.drop 0 ((upto g (k + 1)).map row)) ++ [row x] = (upto g (k + 1 + 1)).map row := by
  rw [gT, h, upto_succ g (k + 1), List.map_append]; rfl
end
theorem okN {x y : Int} {k : IntKind} (h : x = y) : Res.ok (.v (.int k x)) = .ok (.v (.int k y)) := by rw [h]

set_option maxRecDepth 100000 in
set_option maxHeartbeats 4000000 in
theorem rBit (a i : Nat) (ha : a ≤ 4294967295) (hi : i ≤ 1000) : DCall C0 99 [vU a, vN i] (.v (.int .u32 ((a / 2 ^ i % 2 : Nat) : Int))) := by
  refine DCall.intro c0Ok Try.func99 rfl rfl (by kernel_rfl) rfl ?_
  refine cSeq ?_
  refine cR ?_
  refine rO 4 (.v (.int .u32 0)) ?_
  refine rE 1 ?_
  refine cSeq ?_
  refine cR ?_
  refine rO 5 (vU a) ?_
  refine rO 6 (vN i) ?_
  refine rX 7 (.v (.int .u64 ((i : Nat) : Int))) (okI (modI hi rfl)) ?_
  have b1 : a / 2 ^ i ≤ 4294967295 := Nat.le_trans (Nat.div_le_self _ _) ha
  refine rNeed (d := 8) (x := vU (a / 2 ^ i)) rfl rfl (needI (shrI32 i ha rfl)) (Int.natCast_nonneg _) ?_
  have b2 : (a / 2 ^ i) % 2 ≤ 1 := Nat.le_of_lt_succ (Nat.mod_lt _ (by decide))
  refine rNeed (d := 9) (x := vU ((a / 2 ^ i) % 2)) rfl rfl rfl (by decide) ?_
  refine rO 4 (vU ((a / 2 ^ i) % 2)) ?_
  refine rE 7 ?_
  refine cRet ?_
  exact finTA rfl trivial rfl rfl
theorem drop_step (l : List Nat) (k : Nat) (hk : k < l.length) : l.drop (l.length - (k + 1)) = l.getD (l.length - 1 - k) 0 :: l.drop (l.length - k) := by
  have h1 : l.length - (k + 1) < l.length := by omega
  rw [List.drop_eq_getElem_cons h1, show l.length - (k + 1) + 1 = l.length - k by omega, show l.length - 1 - k = l.length - (k + 1) by omega, List.getD_eq_getElem?_getD, List.getElem?_eq_getElem h1]
  rfl
theorem getD_le {l : List Nat} {B : Nat} (h : ∀ n ∈ l, n ≤ B) (i : Nat) : l.getD i 0 ≤ B := by
  rw [List.getD_eq_getElem?_getD]
  rcases Nat.lt_or_ge i l.length with k | k
  · rw [List.getElem?_eq_getElem k]; exact h _ (List.getElem_mem k)
  · rw [List.getElem?_eq_none k]; exact Nat.zero_le _
set_option maxRecDepth 100000 in
set_option maxHeartbeats 4000000 in
theorem rOf (l : List Nat) (hb : ∀ n ∈ l, n ≤ 4294967295) (hl : l.length ≤ 1000000) : DCall C0 100 [.sl 1 (l.map rowU) false] (.v (.int .u32 ((ofB l : Nat) : Int))) := by
  refine DCall.intro c0Ok Try.func100 rfl rfl (by kernel_rfl) rfl ?_
  refine cSeq ?_
  refine cR ?_
  refine rO 2 (.v (.int .u32 0)) ?_
  refine rE 1 ?_
  refine cSeq ?_
  refine cR ?_
  refine rO 3 (.v (.int .u32 0)) ?_
  refine rE 2 ?_
  refine cSeq ?_
  refine cSeq ?_
  refine cR ?_
  refine rO 5 (.sl 1 (l.map rowU) false) ?_
  refine rO 6 (vI ((l.map rowU).length : Int)) ?_
  refine rO 7 (vI (IntKind.wrap .i64 (((l.map rowU).length : Int) - 1))) ?_
  refine rO 4 (vI (IntKind.wrap .i64 (((l.map rowU).length : Int) - 1))) ?_
  refine rE 6 ?_
  refine cBlock ?_
  refine cLoop (κ := Nat) (fun k => ⟨slotsF [(0, .sl 1 (l.map rowU) false), (3, vU (ofB (l.drop (l.length - k)))), (4, vI ((l.length : Int) - 1 - (k : Int)))], heapF [], 6⟩) (fun k => k ≤ l.length) (fun k => l.length - k) 0 (fun s => s) (Weak.of_lists (fun s => s) ⟨⟨rfl, rfl⟩, ⟨by show AV.v (.int .u32 0) = .v (.int .u32 ((ofB (l.drop (l.length - 0)) : Nat) : Int)); simp [ofB], rfl⟩, ⟨by show AV.v (.int .i64 (IntKind.wrap .i64 (((l.map rowU).length : Int) - 1))) = .v (.int .i64 ((l.length : Int) - 1 - ((0 : Nat) : Int))); rw [List.length_map, wrap_i64 (by omega) (by omega)]; simp, rfl⟩, trivial⟩ trivial rfl) (Nat.zero_le _) ?_
  intro k hk
  have hg : l.getD (l.length - 1 - k) 0 ≤ 4294967295 := getD_le hb _
  refine cSeq ?_
  refine cSeq ?_
  refine cR ?_
  refine rO 8 (vI ((l.length : Int) - 1 - (k : Int))) ?_
  refine rO 9 (vB (decide (((l.length : Int) - 1 - (k : Int)) ≥ 0))) ?_
  refine rE 8 ?_
  refine cPr (((l.length : Int) - 1 - (k : Int)) ≥ 0) pDec (fun h1 => ?_) (fun h1 => ?_)
  · skip
    refine cSkip ?_
    refine cSeq ?_
    refine cBlock ?_
    refine cR ?_
    refine rO 12 (vU (ofB (l.drop (l.length - k)))) ?_
    have b1 : (2 * (ofB (l.drop (l.length - k)))) % 4294967296 ≤ 4294967295 := Nat.le_of_lt_succ (Nat.mod_lt _ (by decide))
    refine rO 13 (vU ((2 * (ofB (l.drop (l.length - k)))) % 4294967296)) ?_
    refine rO 14 (.sl 1 (l.map rowU) false) ?_
    refine rO 15 (vI ((l.length : Int) - 1 - (k : Int))) ?_
    refine rIdx (rowU (l.getD (l.length - 1 - k) 0)) (d := 16) (x := .dp 1 0 (rowU (l.getD (l.length - 1 - k) 0))) rfl rfl rfl (⟨by omega, by rw [show ((l.length : Int) - 1 - (k : Int)).toNat = l.length - 1 - k by omega, List.getElem?_map, List.getElem?_eq_getElem (by omega), List.getD_eq_getElem?_getD, List.getElem?_eq_getElem (by omega)]; rfl⟩) rfl ?_
    refine rO 17 (vU (l.getD (l.length - 1 - k) 0)) ?_
    have b2 : (((2 * (ofB (l.drop (l.length - k)))) % 4294967296) + (l.getD (l.length - 1 - k) 0)) % 4294967296 ≤ 4294967295 := Nat.le_of_lt_succ (Nat.mod_lt _ (by decide))
    refine rO 18 (vU ((((2 * (ofB (l.drop (l.length - k)))) % 4294967296) + (l.getD (l.length - 1 - k) 0)) % 4294967296)) ?_
    refine rO 3 (vU ((((2 * (ofB (l.drop (l.length - k)))) % 4294967296) + (l.getD (l.length - 1 - k) 0)) % 4294967296)) ?_
    refine rE 16 ?_
    refine cR ?_
    refine rO 10 (vI ((l.length : Int) - 1 - (k : Int))) ?_
    refine rO 11 (vI (IntKind.wrap .i64 (((l.length : Int) - 1 - (k : Int)) - 1))) ?_
    refine rO 4 (vI (IntKind.wrap .i64 (((l.length : Int) - 1 - (k : Int)) - 1))) ?_
    refine rE 19 ?_
    refine ⟨k + 1, fun s => s, Weak.of_lists (fun s => s) ⟨⟨rfl, rfl⟩, ⟨u32N (by rw [drop_step l k (by omega)]; simp only [ofB]; omega), rfl⟩, ⟨by show AV.v (.int .i64 (IntKind.wrap .i64 ((l.length : Int) - 1 - (k : Int) - 1))) = .v (.int .i64 ((l.length : Int) - 1 - ((k + 1 : Nat) : Int))); rw [wrap_i64 (by omega) (by omega)]; congr 2; omega, rfl⟩, trivial⟩ trivial rfl, (by omega), (by omega)⟩
  · skip
    refine cExit ?_
    refine cSeq ?_
    refine cR ?_
    refine rO 19 (vU (ofB (l.drop (l.length - k)))) ?_
    refine rO 2 (vU (ofB (l.drop (l.length - k)))) ?_
    refine rE 10 ?_
    refine cRet ?_
    exact fI rfl (congrArg Int.ofNat (by rw [show l.length - k = 0 by omega]; simp))
theorem rBitZ (a : Nat) (z : Int) (ha : a ≤ 4294967295) (h0 : 0 ≤ z) (h1 : z ≤ 31) : DCall C0 99 [.v (.int .u32 (a : Int)), .v (.int .i64 z)] (.v (.int .u32 ((a / 2 ^ z.toNat % 2 : Nat) : Int))) := by
  have e : ((z.toNat : Nat) : Int) = z := Int.toNat_of_nonneg h0
  have : DCall C0 99 [.v (.int .u32 (a : Int)), .v (.int .i64 ((z.toNat : Nat) : Int))] (.v (.int .u32 ((a / 2 ^ z.toNat % 2 : Nat) : Int))) := rBit a z.toNat ha (by omega)
  rwa [e] at this
theorem rOfG {g : Nat → Nat} {k : Nat} (hg : ∀ i, g i ≤ 4294967295) (hk : k + 1 = 32) : DCall C0 100 [.sl 1 (List.take (k + 1) (List.drop 0 ((upto g (k + 1)).map rowU))) false] (.v (.int .u32 ((ofB (upto g 32) : Nat) : Int))) := by
  rw [gT, hk]
  exact rOf _ (upto_mem fun i _ => hg i) (by rw [upto_len]; decide)
theorem ofl {h : AH} {k : Nat} {g : Nat → Nat} (e : h 0 = some (.arr ((upto g (k + 1)).map rowU) 1)) : lenOkL h [.osl 0 0 (k + 1) false] := by
  show (match h 0 with | some (.arr rows _) => 0 + (k + 1) ≤ rows.length | _ => False) ∧ True
  rw [e]
  exact ⟨Nat.le_of_eq gF, trivial⟩
theorem rSext (w n : Nat) (h1 : 1 ≤ n) (h2 : n ≤ 32) : DCall C0 76 [.v (.int .u32 (w : Int)), .v (.int .i64 (n : Int))] (.v (.int .u32 ((sext w n : Nat) : Int))) :=
  .of_flat Try.func76 rfl rfl rfl rfl fun wd => rsext_any w n wd h1 h2
theorem rField (w a n : Nat) (h1 : 1 ≤ n) (h2 : a + n ≤ 32) : DCall C0 77 [.v (.int .u32 (w : Int)), .v (.int .i64 (a : Int)), .v (.int .i64 (n : Int))] (.v (.int .u32 ((field w a n : Nat) : Int))) :=
  .of_flat Try.func77 rfl rfl rfl rfl fun wd => rfield_any w a n wd h1 h2
theorem bothG_le (rule : Int) (a b i : Nat) : bothG rule a b i ≤ 4294967295 := by have := bothG_lt rule a b i; omega
theorem movedG_le (a : Nat) (n : Int) {fill : Nat} (hf : fill < 2) (i : Nat) : movedG a n fill i ≤ 4294967295 := by have := movedG_lt a n hf i; omega

set_option maxRecDepth 100000 in
set_option maxHeartbeats 4000000 in
theorem rBoth (rule : Int) (a b : Nat) (ha : a ≤ 4294967295) (hb : b ≤ 4294967295) : DCall C0 105 [vI rule, vU a, vU b] (.v (.int .u32 ((ofB (upto (bothG rule a b) 32) : Nat) : Int))) := by
  refine DCall.intro c0Ok Try.func105 rfl rfl (by kernel_rfl) rfl ?_
  refine cSeq ?_
  refine cR ?_
  refine rO 6 (.v (.int .u32 0)) ?_
  refine rE 1 ?_
  refine cSeq ?_
  refine cR ?_
  refine rO 11 (.sl 1 ([]) true) ?_
  refine rO 7 (.sl 1 ([]) true) ?_
  refine rE 3 ?_
  refine cSeq ?_
  refine cSeq ?_
  refine cR ?_
  refine rO 8 (vI 0) ?_
  refine rE 4 ?_
  refine cBlock ?_
  refine cLoop (κ := Nat) (fun k => match k with | 0 => ⟨slotsF [(0, vI rule), (1, vU a), (2, vU b), (7, .sl 1 ([]) true), (8, vN 0)], heapF [], 4⟩ | k + 1 => ⟨slotsF [(0, vI rule), (1, vU a), (2, vU b), (7, .osl 0 0 (k + 1) false), (8, vN (k + 1))], heapF [(0, .arr ((upto (bothG rule a b) (k + 1)).map rowU) 1)], 4⟩) (fun k => k ≤ 32) (fun k => 32 - k) 0 (fun s => s) (Weak.of_lists (fun s => s) ⟨⟨rfl, rfl⟩, ⟨rfl, rfl⟩, ⟨rfl, rfl⟩, ⟨rfl, rfl⟩, ⟨rfl, rfl⟩, trivial⟩ trivial rfl) (Nat.zero_le _) ?_
  intro k hk
  rcases k with _ | k
  · skip
    have hkB : 0 ≤ 1000000 := by decide
    refine cSeq ?_
    refine cSeq ?_
    refine cR ?_
    refine rO 12 (vN 0) ?_
    refine rX 13 (vB (decide (0 < 32))) (okB (ltN _ _)) ?_
    refine rE 6 ?_
    refine cPr (0 < 32) pDec (fun h1 => ?_) (fun h1 => by omega)
    refine cSkip ?_
    refine cSeq ?_
    refine cBlock ?_
    refine cSeq ?_
    refine cR ?_
    refine rO 16 (vU a) ?_
    refine rO 17 (vN 0) ?_
    refine rCall (args := [vU a, vN 0]) (d := 18) (x := vU (a / 2 ^ 0 % 2)) rfl rfl rfl rfl (.inl rfl) rfl (rBit a 0 ha (by omega)) ?_
    refine rO 19 (vU b) ?_
    refine rO 20 (vN 0) ?_
    refine rCall (args := [vU b, vN 0]) (d := 21) (x := vU (b / 2 ^ 0 % 2)) rfl rfl rfl rfl (.inl rfl) rfl (rBit b 0 hb (by omega)) ?_
    have b1 : (a / 2 ^ 0 % 2) + (b / 2 ^ 0 % 2) ≤ 2 := Nat.add_le_add (Nat.le_of_lt_succ (Nat.mod_lt _ (by decide))) (Nat.le_of_lt_succ (Nat.mod_lt _ (by decide)))
    refine rX 22 (vU ((a / 2 ^ 0 % 2) + (b / 2 ^ 0 % 2))) (okI (modI b1 rfl)) ?_
    refine rO 9 (vU ((a / 2 ^ 0 % 2) + (b / 2 ^ 0 % 2))) ?_
    refine rE 14 ?_
    refine cSeq ?_
    refine cR ?_
    refine rO 23 (vI rule) ?_
    refine rO 24 (vB (rule == 1)) ?_
    refine rO 25 (vB (rule == 1)) ?_
    refine gO 26 (rule == 1) (vU ((a / 2 ^ 0 % 2) + (b / 2 ^ 0 % 2))) ?_
    refine gOkS (d := 27) (x := vB (((a / 2 ^ 0 % 2) + (b / 2 ^ 0 % 2)) == 2)) (g := rule == 1) rfl rfl rfl rfl (fun h => h) rfl (okB (eqN _ _)) ?_
    refine rNeed (d := 28) (x := vB (cond2 (rule == 1) (((a / 2 ^ 0 % 2) + (b / 2 ^ 0 % 2)) == 2) false)) rfl rfl rfl (fun h => h) ?_
    refine rO 29 (vB (cond2 (rule == 1) (((a / 2 ^ 0 % 2) + (b / 2 ^ 0 % 2)) == 2) false)) ?_
    refine gO 30 (!(cond2 (rule == 1) (((a / 2 ^ 0 % 2) + (b / 2 ^ 0 % 2)) == 2) false)) (vI rule) ?_
    refine gOkS (d := 31) (x := vB (rule == 2)) (g := !(cond2 (rule == 1) (((a / 2 ^ 0 % 2) + (b / 2 ^ 0 % 2)) == 2) false)) rfl rfl rfl rfl (fun h => h) rfl rfl ?_
    refine gOkS (d := 32) (x := vB (rule == 2)) (g := !(cond2 (rule == 1) (((a / 2 ^ 0 % 2) + (b / 2 ^ 0 % 2)) == 2) false)) rfl rfl rfl rfl (fun h => h) rfl rfl ?_
    refine gO 33 ((!(cond2 (rule == 1) (((a / 2 ^ 0 % 2) + (b / 2 ^ 0 % 2)) == 2) false)) && (rule == 2)) (vU ((a / 2 ^ 0 % 2) + (b / 2 ^ 0 % 2))) ?_
    refine gOkS (d := 34) (x := vB (decide (((a / 2 ^ 0 % 2) + (b / 2 ^ 0 % 2)) > 0))) (g := (!(cond2 (rule == 1) (((a / 2 ^ 0 % 2) + (b / 2 ^ 0 % 2)) == 2) false)) && (rule == 2)) rfl rfl rfl rfl (fun h => h) rfl (okB (gtN _ _)) ?_
    refine gNeedS (d := 35) (x := vB (cond2 (rule == 2) (decide (((a / 2 ^ 0 % 2) + (b / 2 ^ 0 % 2)) > 0)) false)) (g := !(cond2 (rule == 1) (((a / 2 ^ 0 % 2) + (b / 2 ^ 0 % 2)) == 2) false)) rfl rfl rfl rfl (fun h => h) rfl rfl (fun hg hc => by first | (rw [hg, hc]; rfl) | simp_all) ?_
    refine rNeed (d := 36) (x := vB (cond2 (cond2 (rule == 1) (((a / 2 ^ 0 % 2) + (b / 2 ^ 0 % 2)) == 2) false) true (cond2 (rule == 2) (decide (((a / 2 ^ 0 % 2) + (b / 2 ^ 0 % 2)) > 0)) false))) rfl rfl rfl (by simp) ?_
    refine rO 37 (vB (cond2 (cond2 (rule == 1) (((a / 2 ^ 0 % 2) + (b / 2 ^ 0 % 2)) == 2) false) true (cond2 (rule == 2) (decide (((a / 2 ^ 0 % 2) + (b / 2 ^ 0 % 2)) > 0)) false))) ?_
    refine gO 38 (!(cond2 (cond2 (rule == 1) (((a / 2 ^ 0 % 2) + (b / 2 ^ 0 % 2)) == 2) false) true (cond2 (rule == 2) (decide (((a / 2 ^ 0 % 2) + (b / 2 ^ 0 % 2)) > 0)) false))) (vI rule) ?_
    refine gOkS (d := 39) (x := vB (rule == 3)) (g := !(cond2 (cond2 (rule == 1) (((a / 2 ^ 0 % 2) + (b / 2 ^ 0 % 2)) == 2) false) true (cond2 (rule == 2) (decide (((a / 2 ^ 0 % 2) + (b / 2 ^ 0 % 2)) > 0)) false))) rfl rfl rfl rfl (fun h => h) rfl rfl ?_
    refine gOkS (d := 40) (x := vB (rule == 3)) (g := !(cond2 (cond2 (rule == 1) (((a / 2 ^ 0 % 2) + (b / 2 ^ 0 % 2)) == 2) false) true (cond2 (rule == 2) (decide (((a / 2 ^ 0 % 2) + (b / 2 ^ 0 % 2)) > 0)) false))) rfl rfl rfl rfl (fun h => h) rfl rfl ?_
    refine gO 41 ((!(cond2 (cond2 (rule == 1) (((a / 2 ^ 0 % 2) + (b / 2 ^ 0 % 2)) == 2) false) true (cond2 (rule == 2) (decide (((a / 2 ^ 0 % 2) + (b / 2 ^ 0 % 2)) > 0)) false))) && (rule == 3)) (vU ((a / 2 ^ 0 % 2) + (b / 2 ^ 0 % 2))) ?_
    refine gOkS (d := 42) (x := vB (((a / 2 ^ 0 % 2) + (b / 2 ^ 0 % 2)) == 1)) (g := (!(cond2 (cond2 (rule == 1) (((a / 2 ^ 0 % 2) + (b / 2 ^ 0 % 2)) == 2) false) true (cond2 (rule == 2) (decide (((a / 2 ^ 0 % 2) + (b / 2 ^ 0 % 2)) > 0)) false))) && (rule == 3)) rfl rfl rfl rfl (fun h => h) rfl (okB (eqN _ _)) ?_
    refine gNeedS (d := 43) (x := vB (cond2 (rule == 3) (((a / 2 ^ 0 % 2) + (b / 2 ^ 0 % 2)) == 1) false)) (g := !(cond2 (cond2 (rule == 1) (((a / 2 ^ 0 % 2) + (b / 2 ^ 0 % 2)) == 2) false) true (cond2 (rule == 2) (decide (((a / 2 ^ 0 % 2) + (b / 2 ^ 0 % 2)) > 0)) false))) rfl rfl rfl rfl (fun h => h) rfl rfl (fun hg hc => by first | (rw [hg, hc]; rfl) | simp_all) ?_
    refine rNeed (d := 44) (x := vB (cond2 (cond2 (cond2 (rule == 1) (((a / 2 ^ 0 % 2) + (b / 2 ^ 0 % 2)) == 2) false) true (cond2 (rule == 2) (decide (((a / 2 ^ 0 % 2) + (b / 2 ^ 0 % 2)) > 0)) false)) true (cond2 (rule == 3) (((a / 2 ^ 0 % 2) + (b / 2 ^ 0 % 2)) == 1) false))) rfl rfl rfl (by simp) ?_
    refine rO 10 (vB (cond2 (cond2 (cond2 (rule == 1) (((a / 2 ^ 0 % 2) + (b / 2 ^ 0 % 2)) == 2) false) true (cond2 (rule == 2) (decide (((a / 2 ^ 0 % 2) + (b / 2 ^ 0 % 2)) > 0)) false)) true (cond2 (rule == 3) (((a / 2 ^ 0 % 2) + (b / 2 ^ 0 % 2)) == 1) false))) ?_
    refine rE 37 ?_
    refine cSeq ?_
    refine cR ?_
    refine rO 45 (vB (cond2 (cond2 (cond2 (rule == 1) (((a / 2 ^ 0 % 2) + (b / 2 ^ 0 % 2)) == 2) false) true (cond2 (rule == 2) (decide (((a / 2 ^ 0 % 2) + (b / 2 ^ 0 % 2)) > 0)) false)) true (cond2 (rule == 3) (((a / 2 ^ 0 % 2) + (b / 2 ^ 0 % 2)) == 1) false))) ?_
    refine rE 38 ?_
    refine cPr (((rule = 1 ∧ ((a / 2 ^ 0 % 2) + (b / 2 ^ 0 % 2)) = 2) ∨ (rule = 2 ∧ ((a / 2 ^ 0 % 2) + (b / 2 ^ 0 % 2)) > 0)) ∨ (rule = 3 ∧ ((a / 2 ^ 0 % 2) + (b / 2 ^ 0 % 2)) = 1)) (c2or _ _ (c2or _ _ (c2and _ _ pEq pEq) (c2and _ _ pEq pDec)) (c2and _ _ pEq pEq)) (fun h2 => ?_) (fun h2 => ?_)
    · skip
      refine cR ?_
      refine rO 46 (.sl 1 ([]) true) ?_
      refine rO 47 (.sl 1 ([[.v (.int .u32 1)]]) true) ?_
      refine rFx (d := 48) (x := .osl 40 0 1 false) (h' := upd _ 40 (some (.arr (([]) ++ ([[.v (.int .u32 1)]])) 1))) rfl rfl (rfl) (⟨by decide, by decide, trivial, trivial⟩) ?_
      refine rO 7 (.osl 40 0 1 false) ?_
      refine rE 42 ?_
      refine cR ?_
      refine rO 14 (vN 0) ?_
      have b2 : 0 + 1 ≤ 1000001 := Nat.add_le_add hkB (Nat.le_refl 1)
      refine rX 15 (vN (0 + 1)) (okI (wrapI64 b2 rfl)) ?_
      refine rO 8 (vN (0 + 1)) ?_
      refine rE 45 ?_
      refine ⟨0 + 1, fun s => match s with | 0 => 40 | s => s, Weak.of_lists (fun s => match s with | 0 => 40 | s => s) ⟨⟨rfl, rfl⟩, ⟨rfl, rfl⟩, ⟨rfl, rfl⟩, ⟨rfl, rfl⟩, ⟨rfl, rfl⟩, trivial⟩ ⟨⟨rfl, congrArg (fun z => some (Blk.arr z 1)) (grow0 (g := bothG rule a b) (row := rowU) (x := 1) (by unfold bothG; rw [if_pos h2])), rfl⟩, trivial⟩ rfl, (by omega), (by omega)⟩
    · skip
      refine cR ?_
      refine rO 49 (.sl 1 ([]) true) ?_
      refine rO 50 (.sl 1 ([[.v (.int .u32 0)]]) true) ?_
      refine rFx (d := 51) (x := .osl 40 0 1 false) (h' := upd _ 40 (some (.arr (([]) ++ ([[.v (.int .u32 0)]])) 1))) rfl rfl (rfl) (⟨by decide, by decide, trivial, trivial⟩) ?_
      refine rO 7 (.osl 40 0 1 false) ?_
      refine rE 42 ?_
      refine cR ?_
      refine rO 14 (vN 0) ?_
      have b3 : 0 + 1 ≤ 1000001 := Nat.add_le_add hkB (Nat.le_refl 1)
      refine rX 15 (vN (0 + 1)) (okI (wrapI64 b3 rfl)) ?_
      refine rO 8 (vN (0 + 1)) ?_
      refine rE 45 ?_
      refine ⟨0 + 1, fun s => match s with | 0 => 40 | s => s, Weak.of_lists (fun s => match s with | 0 => 40 | s => s) ⟨⟨rfl, rfl⟩, ⟨rfl, rfl⟩, ⟨rfl, rfl⟩, ⟨rfl, rfl⟩, ⟨rfl, rfl⟩, trivial⟩ ⟨⟨rfl, congrArg (fun z => some (Blk.arr z 1)) (grow0 (g := bothG rule a b) (row := rowU) (x := 0) (by unfold bothG; rw [if_neg h2])), rfl⟩, trivial⟩ rfl, (by omega), (by omega)⟩
  · skip
    have hkB : k + 1 ≤ 1000000 := by omega
    refine cSeq ?_
    refine cSeq ?_
    refine cR ?_
    refine rO 12 (vN (k + 1)) ?_
    refine rX 13 (vB (decide ((k + 1) < 32))) (okB (ltN _ _)) ?_
    refine rE 6 ?_
    refine cPr ((k + 1) < 32) pDec (fun h3 => ?_) (fun h3 => ?_)
    · skip
      refine cSkip ?_
      refine cSeq ?_
      refine cBlock ?_
      refine cSeq ?_
      refine cR ?_
      refine rO 16 (vU a) ?_
      refine rO 17 (vN (k + 1)) ?_
      refine rCall (args := [vU a, vN (k + 1)]) (d := 18) (x := vU (a / 2 ^ (k + 1) % 2)) rfl rfl rfl rfl (.inl rfl) rfl (rBit a (k + 1) ha (by omega)) ?_
      refine rO 19 (vU b) ?_
      refine rO 20 (vN (k + 1)) ?_
      refine rCall (args := [vU b, vN (k + 1)]) (d := 21) (x := vU (b / 2 ^ (k + 1) % 2)) rfl rfl rfl rfl (.inl rfl) rfl (rBit b (k + 1) hb (by omega)) ?_
      have b4 : (a / 2 ^ (k + 1) % 2) + (b / 2 ^ (k + 1) % 2) ≤ 2 := Nat.add_le_add (Nat.le_of_lt_succ (Nat.mod_lt _ (by decide))) (Nat.le_of_lt_succ (Nat.mod_lt _ (by decide)))
      refine rX 22 (vU ((a / 2 ^ (k + 1) % 2) + (b / 2 ^ (k + 1) % 2))) (okI (modI b4 rfl)) ?_
      refine rO 9 (vU ((a / 2 ^ (k + 1) % 2) + (b / 2 ^ (k + 1) % 2))) ?_
      refine rE 14 ?_
      refine cSeq ?_
      refine cR ?_
      refine rO 23 (vI rule) ?_
      refine rO 24 (vB (rule == 1)) ?_
      refine rO 25 (vB (rule == 1)) ?_
      refine gO 26 (rule == 1) (vU ((a / 2 ^ (k + 1) % 2) + (b / 2 ^ (k + 1) % 2))) ?_
      refine gOkS (d := 27) (x := vB (((a / 2 ^ (k + 1) % 2) + (b / 2 ^ (k + 1) % 2)) == 2)) (g := rule == 1) rfl rfl rfl rfl (fun h => h) rfl (okB (eqN _ _)) ?_
      refine rNeed (d := 28) (x := vB (cond2 (rule == 1) (((a / 2 ^ (k + 1) % 2) + (b / 2 ^ (k + 1) % 2)) == 2) false)) rfl rfl rfl (fun h => h) ?_
      refine rO 29 (vB (cond2 (rule == 1) (((a / 2 ^ (k + 1) % 2) + (b / 2 ^ (k + 1) % 2)) == 2) false)) ?_
      refine gO 30 (!(cond2 (rule == 1) (((a / 2 ^ (k + 1) % 2) + (b / 2 ^ (k + 1) % 2)) == 2) false)) (vI rule) ?_
      refine gOkS (d := 31) (x := vB (rule == 2)) (g := !(cond2 (rule == 1) (((a / 2 ^ (k + 1) % 2) + (b / 2 ^ (k + 1) % 2)) == 2) false)) rfl rfl rfl rfl (fun h => h) rfl rfl ?_
      refine gOkS (d := 32) (x := vB (rule == 2)) (g := !(cond2 (rule == 1) (((a / 2 ^ (k + 1) % 2) + (b / 2 ^ (k + 1) % 2)) == 2) false)) rfl rfl rfl rfl (fun h => h) rfl rfl ?_
      refine gO 33 ((!(cond2 (rule == 1) (((a / 2 ^ (k + 1) % 2) + (b / 2 ^ (k + 1) % 2)) == 2) false)) && (rule == 2)) (vU ((a / 2 ^ (k + 1) % 2) + (b / 2 ^ (k + 1) % 2))) ?_
      refine gOkS (d := 34) (x := vB (decide (((a / 2 ^ (k + 1) % 2) + (b / 2 ^ (k + 1) % 2)) > 0))) (g := (!(cond2 (rule == 1) (((a / 2 ^ (k + 1) % 2) + (b / 2 ^ (k + 1) % 2)) == 2) false)) && (rule == 2)) rfl rfl rfl rfl (fun h => h) rfl (okB (gtN _ _)) ?_
      refine gNeedS (d := 35) (x := vB (cond2 (rule == 2) (decide (((a / 2 ^ (k + 1) % 2) + (b / 2 ^ (k + 1) % 2)) > 0)) false)) (g := !(cond2 (rule == 1) (((a / 2 ^ (k + 1) % 2) + (b / 2 ^ (k + 1) % 2)) == 2) false)) rfl rfl rfl rfl (fun h => h) rfl rfl (fun hg hc => by first | (rw [hg, hc]; rfl) | simp_all) ?_
      refine rNeed (d := 36) (x := vB (cond2 (cond2 (rule == 1) (((a / 2 ^ (k + 1) % 2) + (b / 2 ^ (k + 1) % 2)) == 2) false) true (cond2 (rule == 2) (decide (((a / 2 ^ (k + 1) % 2) + (b / 2 ^ (k + 1) % 2)) > 0)) false))) rfl rfl rfl (by simp) ?_
      refine rO 37 (vB (cond2 (cond2 (rule == 1) (((a / 2 ^ (k + 1) % 2) + (b / 2 ^ (k + 1) % 2)) == 2) false) true (cond2 (rule == 2) (decide (((a / 2 ^ (k + 1) % 2) + (b / 2 ^ (k + 1) % 2)) > 0)) false))) ?_
      refine gO 38 (!(cond2 (cond2 (rule == 1) (((a / 2 ^ (k + 1) % 2) + (b / 2 ^ (k + 1) % 2)) == 2) false) true (cond2 (rule == 2) (decide (((a / 2 ^ (k + 1) % 2) + (b / 2 ^ (k + 1) % 2)) > 0)) false))) (vI rule) ?_
      refine gOkS (d := 39) (x := vB (rule == 3)) (g := !(cond2 (cond2 (rule == 1) (((a / 2 ^ (k + 1) % 2) + (b / 2 ^ (k + 1) % 2)) == 2) false) true (cond2 (rule == 2) (decide (((a / 2 ^ (k + 1) % 2) + (b / 2 ^ (k + 1) % 2)) > 0)) false))) rfl rfl rfl rfl (fun h => h) rfl rfl ?_
      refine gOkS (d := 40) (x := vB (rule == 3)) (g := !(cond2 (cond2 (rule == 1) (((a / 2 ^ (k + 1) % 2) + (b / 2 ^ (k + 1) % 2)) == 2) false) true (cond2 (rule == 2) (decide (((a / 2 ^ (k + 1) % 2) + (b / 2 ^ (k + 1) % 2)) > 0)) false))) rfl rfl rfl rfl (fun h => h) rfl rfl ?_
      refine gO 41 ((!(cond2 (cond2 (rule == 1) (((a / 2 ^ (k + 1) % 2) + (b / 2 ^ (k + 1) % 2)) == 2) false) true (cond2 (rule == 2) (decide (((a / 2 ^ (k + 1) % 2) + (b / 2 ^ (k + 1) % 2)) > 0)) false))) && (rule == 3)) (vU ((a / 2 ^ (k + 1) % 2) + (b / 2 ^ (k + 1) % 2))) ?_
      refine gOkS (d := 42) (x := vB (((a / 2 ^ (k + 1) % 2) + (b / 2 ^ (k + 1) % 2)) == 1)) (g := (!(cond2 (cond2 (rule == 1) (((a / 2 ^ (k + 1) % 2) + (b / 2 ^ (k + 1) % 2)) == 2) false) true (cond2 (rule == 2) (decide (((a / 2 ^ (k + 1) % 2) + (b / 2 ^ (k + 1) % 2)) > 0)) false))) && (rule == 3)) rfl rfl rfl rfl (fun h => h) rfl (okB (eqN _ _)) ?_
      refine gNeedS (d := 43) (x := vB (cond2 (rule == 3) (((a / 2 ^ (k + 1) % 2) + (b / 2 ^ (k + 1) % 2)) == 1) false)) (g := !(cond2 (cond2 (rule == 1) (((a / 2 ^ (k + 1) % 2) + (b / 2 ^ (k + 1) % 2)) == 2) false) true (cond2 (rule == 2) (decide (((a / 2 ^ (k + 1) % 2) + (b / 2 ^ (k + 1) % 2)) > 0)) false))) rfl rfl rfl rfl (fun h => h) rfl rfl (fun hg hc => by first | (rw [hg, hc]; rfl) | simp_all) ?_
      refine rNeed (d := 44) (x := vB (cond2 (cond2 (cond2 (rule == 1) (((a / 2 ^ (k + 1) % 2) + (b / 2 ^ (k + 1) % 2)) == 2) false) true (cond2 (rule == 2) (decide (((a / 2 ^ (k + 1) % 2) + (b / 2 ^ (k + 1) % 2)) > 0)) false)) true (cond2 (rule == 3) (((a / 2 ^ (k + 1) % 2) + (b / 2 ^ (k + 1) % 2)) == 1) false))) rfl rfl rfl (by simp) ?_
      refine rO 10 (vB (cond2 (cond2 (cond2 (rule == 1) (((a / 2 ^ (k + 1) % 2) + (b / 2 ^ (k + 1) % 2)) == 2) false) true (cond2 (rule == 2) (decide (((a / 2 ^ (k + 1) % 2) + (b / 2 ^ (k + 1) % 2)) > 0)) false)) true (cond2 (rule == 3) (((a / 2 ^ (k + 1) % 2) + (b / 2 ^ (k + 1) % 2)) == 1) false))) ?_
      refine rE 37 ?_
      refine cSeq ?_
      refine cR ?_
      refine rO 45 (vB (cond2 (cond2 (cond2 (rule == 1) (((a / 2 ^ (k + 1) % 2) + (b / 2 ^ (k + 1) % 2)) == 2) false) true (cond2 (rule == 2) (decide (((a / 2 ^ (k + 1) % 2) + (b / 2 ^ (k + 1) % 2)) > 0)) false)) true (cond2 (rule == 3) (((a / 2 ^ (k + 1) % 2) + (b / 2 ^ (k + 1) % 2)) == 1) false))) ?_
      refine rE 38 ?_
      refine cPr (((rule = 1 ∧ ((a / 2 ^ (k + 1) % 2) + (b / 2 ^ (k + 1) % 2)) = 2) ∨ (rule = 2 ∧ ((a / 2 ^ (k + 1) % 2) + (b / 2 ^ (k + 1) % 2)) > 0)) ∨ (rule = 3 ∧ ((a / 2 ^ (k + 1) % 2) + (b / 2 ^ (k + 1) % 2)) = 1)) (c2or _ _ (c2or _ _ (c2and _ _ pEq pEq) (c2and _ _ pEq pDec)) (c2and _ _ pEq pEq)) (fun h4 => ?_) (fun h4 => ?_)
      · skip
        refine cR ?_
        refine rO 46 (.osl 0 0 (k + 1) false) ?_
        refine rO 47 (.sl 1 ([[.v (.int .u32 1)]]) true) ?_
        refine rFx (d := 48) (x := .osl 40 0 ((List.take (k + 1) (List.drop 0 ((upto (bothG rule a b) (k + 1)).map rowU))).length + ([[.v (.int .u32 1)]] : List (List AV)).length) false) (h' := upd (upd _ 0 none) 40 (some (.arr (List.take (k + 1) (List.drop 0 ((upto (bothG rule a b) (k + 1)).map rowU)) ++ [[.v (.int .u32 1)]]) 1))) rfl rfl (rfl) (⟨gC (by omega), gF, trivial⟩) ?_
        refine rO 7 (.osl 40 0 ((List.take (k + 1) (List.drop 0 ((upto (bothG rule a b) (k + 1)).map rowU))).length + ([[.v (.int .u32 1)]] : List (List AV)).length) false) ?_
        refine rE 42 ?_
        refine cR ?_
        refine rO 14 (vN (k + 1)) ?_
        have b5 : (k + 1) + 1 ≤ 1000001 := Nat.add_le_add hkB (Nat.le_refl 1)
        refine rX 15 (vN ((k + 1) + 1)) (okI (wrapI64 b5 rfl)) ?_
        refine rO 8 (vN ((k + 1) + 1)) ?_
        refine rE 45 ?_
        refine ⟨(k + 1) + 1, fun s => match s with | 0 => 40 | s => s, Weak.of_lists (fun s => match s with | 0 => 40 | s => s) ⟨⟨rfl, rfl⟩, ⟨rfl, rfl⟩, ⟨rfl, rfl⟩, ⟨congrArg (fun z => AV.osl 40 0 z false) gL, rfl⟩, ⟨rfl, rfl⟩, trivial⟩ ⟨⟨rfl, congrArg (fun z => some (Blk.arr z 1)) (growS (g := bothG rule a b) (row := rowU) (x := 1) (by unfold bothG; rw [if_pos h4])), rfl⟩, trivial⟩ rfl, (by omega), (by omega)⟩
      · skip
        refine cR ?_
        refine rO 49 (.osl 0 0 (k + 1) false) ?_
        refine rO 50 (.sl 1 ([[.v (.int .u32 0)]]) true) ?_
        refine rFx (d := 51) (x := .osl 40 0 ((List.take (k + 1) (List.drop 0 ((upto (bothG rule a b) (k + 1)).map rowU))).length + ([[.v (.int .u32 0)]] : List (List AV)).length) false) (h' := upd (upd _ 0 none) 40 (some (.arr (List.take (k + 1) (List.drop 0 ((upto (bothG rule a b) (k + 1)).map rowU)) ++ [[.v (.int .u32 0)]]) 1))) rfl rfl (rfl) (⟨gC (by omega), gF, trivial⟩) ?_
        refine rO 7 (.osl 40 0 ((List.take (k + 1) (List.drop 0 ((upto (bothG rule a b) (k + 1)).map rowU))).length + ([[.v (.int .u32 0)]] : List (List AV)).length) false) ?_
        refine rE 42 ?_
        refine cR ?_
        refine rO 14 (vN (k + 1)) ?_
        have b6 : (k + 1) + 1 ≤ 1000001 := Nat.add_le_add hkB (Nat.le_refl 1)
        refine rX 15 (vN ((k + 1) + 1)) (okI (wrapI64 b6 rfl)) ?_
        refine rO 8 (vN ((k + 1) + 1)) ?_
        refine rE 45 ?_
        refine ⟨(k + 1) + 1, fun s => match s with | 0 => 40 | s => s, Weak.of_lists (fun s => match s with | 0 => 40 | s => s) ⟨⟨rfl, rfl⟩, ⟨rfl, rfl⟩, ⟨rfl, rfl⟩, ⟨congrArg (fun z => AV.osl 40 0 z false) gL, rfl⟩, ⟨rfl, rfl⟩, trivial⟩ ⟨⟨rfl, congrArg (fun z => some (Blk.arr z 1)) (growS (g := bothG rule a b) (row := rowU) (x := 0) (by unfold bothG; rw [if_neg h4])), rfl⟩, trivial⟩ rfl, (by omega), (by omega)⟩
    · skip
      refine cExit ?_
      refine cSeq ?_
      refine cR ?_
      refine rO 52 (.osl 0 0 (k + 1) false) ?_
      refine rCall (args := [.osl 0 0 (k + 1) false]) (d := 53) (x := vU (ofB (upto (bothG rule a b) 32))) rfl rfl rfl rfl (.inr ⟨rfl, ofl (g := bothG rule a b) rfl⟩) rfl (rOfG (g := bothG rule a b) (bothG_le rule a b) (by omega)) ?_
      refine rO 6 (vU (ofB (upto (bothG rule a b) 32))) ?_
      refine rE 9 ?_
      refine cRet ?_
      exact finTA rfl trivial rfl rfl
set_option maxRecDepth 100000 in
set_option maxHeartbeats 4000000 in
theorem rMoved (a : Nat) (n : Int) (fill : Nat) (ha : a ≤ 4294967295) (hn1 : -32 ≤ n) (hn2 : n ≤ 32) (hf : fill < 2) : DCall C0 106 [vU a, vI n, vU fill] (.v (.int .u32 ((ofB (upto (movedG a n fill) 32) : Nat) : Int))) := by
  refine DCall.intro c0Ok Try.func106 rfl rfl (by kernel_rfl) rfl ?_
  refine cSeq ?_
  refine cR ?_
  refine rO 6 (.v (.int .u32 0)) ?_
  refine rE 1 ?_
  refine cSeq ?_
  refine cR ?_
  refine rO 9 (.sl 1 ([]) true) ?_
  refine rO 7 (.sl 1 ([]) true) ?_
  refine rE 3 ?_
  refine cSeq ?_
  refine cSeq ?_
  refine cR ?_
  refine rO 8 (vI 0) ?_
  refine rE 4 ?_
  refine cBlock ?_
  refine cLoop (κ := Nat) (fun k => match k with | 0 => ⟨slotsF [(0, vU a), (1, vI n), (2, vU fill), (7, .sl 1 ([]) true), (8, vN 0)], heapF [], 4⟩ | k + 1 => ⟨slotsF [(0, vU a), (1, vI n), (2, vU fill), (7, .osl 0 0 (k + 1) false), (8, vN (k + 1))], heapF [(0, .arr ((upto (movedG a n fill) (k + 1)).map rowU) 1)], 4⟩) (fun k => k ≤ 32) (fun k => 32 - k) 0 (fun s => s) (Weak.of_lists (fun s => s) ⟨⟨rfl, rfl⟩, ⟨rfl, rfl⟩, ⟨rfl, rfl⟩, ⟨rfl, rfl⟩, ⟨rfl, rfl⟩, trivial⟩ trivial rfl) (Nat.zero_le _) ?_
  intro k hk
  rcases k with _ | k
  · skip
    have hkB : 0 ≤ 1000000 := by decide
    refine cSeq ?_
    refine cSeq ?_
    refine cR ?_
    refine rO 10 (vN 0) ?_
    refine rX 11 (vB (decide (0 < 32))) (okB (ltN _ _)) ?_
    refine rE 6 ?_
    refine cPr (0 < 32) pDec (fun h1 => ?_) (fun h1 => by omega)
    refine cSkip ?_
    refine cSeq ?_
    refine cBlock ?_
    refine cSeq ?_
    refine cR ?_
    refine rO 14 (vN 0) ?_
    refine rO 15 (vI n) ?_
    refine rOk (d := 16) (x := vI (((0 : Nat) : Int) - n)) rfl rfl (okN (wrap_i64 (by omega) (by omega))) ?_
    refine rO 17 (vB (decide ((((0 : Nat) : Int) - n) < 0))) ?_
    refine rO 18 (vB (decide ((((0 : Nat) : Int) - n) < 0))) ?_
    refine gO 19 (!(decide ((((0 : Nat) : Int) - n) < 0))) (vN 0) ?_
    refine gO 20 (!(decide ((((0 : Nat) : Int) - n) < 0))) (vI n) ?_
    refine gOkS (d := 21) (x := vI (((0 : Nat) : Int) - n)) (g := !(decide ((((0 : Nat) : Int) - n) < 0))) rfl rfl rfl rfl (fun h => by simp_all) rfl (okN (wrap_i64 (by omega) (by omega))) ?_
    refine gOkS (d := 22) (x := vB (decide ((((0 : Nat) : Int) - n) > 31))) (g := !(decide ((((0 : Nat) : Int) - n) < 0))) rfl rfl rfl rfl (fun h => h) rfl rfl ?_
    refine rNeed (d := 23) (x := vB (cond2 (decide ((((0 : Nat) : Int) - n) < 0)) true (decide ((((0 : Nat) : Int) - n) > 31)))) rfl rfl rfl (by simp) ?_
    refine rE 16 ?_
    refine cPr ((((0 : Nat) : Int) - n) < 0 ∨ (((0 : Nat) : Int) - n) > 31) (c2or _ _ pDec pDec) (fun h2 => ?_) (fun h2 => ?_)
    · skip
      refine cR ?_
      refine rO 24 (.sl 1 ([]) true) ?_
      refine rO 25 (vU fill) ?_
      refine rO 26 (.sl 1 ([[vU fill]]) true) ?_
      refine rFx (d := 27) (x := .osl 19 0 1 false) (h' := upd _ 19 (some (.arr (([]) ++ ([[vU fill]])) 1))) rfl rfl (rfl) (⟨by exact Nat.le_of_ble_eq_true rfl, by exact Nat.le_of_ble_eq_true rfl, trivial, trivial⟩) ?_
      refine rO 7 (.osl 19 0 1 false) ?_
      refine rE 21 ?_
      refine cR ?_
      refine rO 12 (vN 0) ?_
      have b1 : 0 + 1 ≤ 1000001 := Nat.add_le_add hkB (Nat.le_refl 1)
      refine rX 13 (vN (0 + 1)) (okI (wrapI64 b1 rfl)) ?_
      refine rO 8 (vN (0 + 1)) ?_
      refine rE 24 ?_
      refine ⟨0 + 1, fun s => match s with | 0 => 19 | s => s, Weak.of_lists (fun s => match s with | 0 => 19 | s => s) ⟨⟨rfl, rfl⟩, ⟨rfl, rfl⟩, ⟨rfl, rfl⟩, ⟨rfl, rfl⟩, ⟨rfl, rfl⟩, trivial⟩ ⟨⟨rfl, congrArg (fun z => some (Blk.arr z 1)) (grow0 (g := movedG a n fill) (row := rowU) (x := fill) (by unfold movedG; rw [if_pos h2])), rfl⟩, trivial⟩ rfl, (by omega), (by omega)⟩
    · skip
      refine cR ?_
      refine rO 28 (.sl 1 ([]) true) ?_
      refine rO 29 (vU a) ?_
      refine rO 30 (vN 0) ?_
      refine rO 31 (vI n) ?_
      refine rOk (d := 32) (x := vI (((0 : Nat) : Int) - n)) rfl rfl (okN (wrap_i64 (by omega) (by omega))) ?_
      refine rCall (args := [vU a, vI (((0 : Nat) : Int) - n)]) (d := 33) (x := vU (a / 2 ^ (((0 : Nat) : Int) - n).toNat % 2)) rfl rfl rfl rfl (.inl rfl) rfl (rBitZ a _ ha (by omega) (by omega)) ?_
      refine rO 34 (.sl 1 ([[vU (a / 2 ^ (((0 : Nat) : Int) - n).toNat % 2)]]) true) ?_
      refine rFx (d := 35) (x := .osl 23 0 1 false) (h' := upd _ 23 (some (.arr (([]) ++ ([[vU (a / 2 ^ (((0 : Nat) : Int) - n).toNat % 2)]])) 1))) rfl rfl (rfl) (⟨by exact Nat.le_of_ble_eq_true rfl, by exact Nat.le_of_ble_eq_true rfl, trivial, trivial⟩) ?_
      refine rO 7 (.osl 23 0 1 false) ?_
      refine rE 25 ?_
      refine cR ?_
      refine rO 12 (vN 0) ?_
      have b2 : 0 + 1 ≤ 1000001 := Nat.add_le_add hkB (Nat.le_refl 1)
      refine rX 13 (vN (0 + 1)) (okI (wrapI64 b2 rfl)) ?_
      refine rO 8 (vN (0 + 1)) ?_
      refine rE 28 ?_
      refine ⟨0 + 1, fun s => match s with | 0 => 23 | s => s, Weak.of_lists (fun s => match s with | 0 => 23 | s => s) ⟨⟨rfl, rfl⟩, ⟨rfl, rfl⟩, ⟨rfl, rfl⟩, ⟨rfl, rfl⟩, ⟨rfl, rfl⟩, trivial⟩ ⟨⟨rfl, congrArg (fun z => some (Blk.arr z 1)) (grow0 (g := movedG a n fill) (row := rowU) (x := a / 2 ^ (((0 : Nat) : Int) - n).toNat % 2) (by unfold movedG; rw [if_neg h2])), rfl⟩, trivial⟩ rfl, (by omega), (by omega)⟩
  · skip
    have hkB : k + 1 ≤ 1000000 := by omega
    refine cSeq ?_
    refine cSeq ?_
    refine cR ?_
    refine rO 10 (vN (k + 1)) ?_
    refine rX 11 (vB (decide ((k + 1) < 32))) (okB (ltN _ _)) ?_
    refine rE 6 ?_
    refine cPr ((k + 1) < 32) pDec (fun h3 => ?_) (fun h3 => ?_)
    · skip
      refine cSkip ?_
      refine cSeq ?_
      refine cBlock ?_
      refine cSeq ?_
      refine cR ?_
      refine rO 14 (vN (k + 1)) ?_
      refine rO 15 (vI n) ?_
      refine rOk (d := 16) (x := vI ((((k + 1) : Nat) : Int) - n)) rfl rfl (okN (wrap_i64 (by omega) (by omega))) ?_
      refine rO 17 (vB (decide (((((k + 1) : Nat) : Int) - n) < 0))) ?_
      refine rO 18 (vB (decide (((((k + 1) : Nat) : Int) - n) < 0))) ?_
      refine gO 19 (!(decide (((((k + 1) : Nat) : Int) - n) < 0))) (vN (k + 1)) ?_
      refine gO 20 (!(decide (((((k + 1) : Nat) : Int) - n) < 0))) (vI n) ?_
      refine gOkS (d := 21) (x := vI ((((k + 1) : Nat) : Int) - n)) (g := !(decide (((((k + 1) : Nat) : Int) - n) < 0))) rfl rfl rfl rfl (fun h => by simp_all) rfl (okN (wrap_i64 (by omega) (by omega))) ?_
      refine gOkS (d := 22) (x := vB (decide (((((k + 1) : Nat) : Int) - n) > 31))) (g := !(decide (((((k + 1) : Nat) : Int) - n) < 0))) rfl rfl rfl rfl (fun h => h) rfl rfl ?_
      refine rNeed (d := 23) (x := vB (cond2 (decide (((((k + 1) : Nat) : Int) - n) < 0)) true (decide (((((k + 1) : Nat) : Int) - n) > 31)))) rfl rfl rfl (by simp) ?_
      refine rE 16 ?_
      refine cPr (((((k + 1) : Nat) : Int) - n) < 0 ∨ ((((k + 1) : Nat) : Int) - n) > 31) (c2or _ _ pDec pDec) (fun h4 => ?_) (fun h4 => ?_)
      · skip
        refine cR ?_
        refine rO 24 (.osl 0 0 (k + 1) false) ?_
        refine rO 25 (vU fill) ?_
        refine rO 26 (.sl 1 ([[vU fill]]) true) ?_
        refine rFx (d := 27) (x := .osl 19 0 ((List.take (k + 1) (List.drop 0 ((upto (movedG a n fill) (k + 1)).map rowU))).length + ([[vU fill]] : List (List AV)).length) false) (h' := upd (upd _ 0 none) 19 (some (.arr (List.take (k + 1) (List.drop 0 ((upto (movedG a n fill) (k + 1)).map rowU)) ++ [[vU fill]]) 1))) rfl rfl (rfl) (⟨gC (by omega), gF, trivial⟩) ?_
        refine rO 7 (.osl 19 0 ((List.take (k + 1) (List.drop 0 ((upto (movedG a n fill) (k + 1)).map rowU))).length + ([[vU fill]] : List (List AV)).length) false) ?_
        refine rE 21 ?_
        refine cR ?_
        refine rO 12 (vN (k + 1)) ?_
        have b3 : (k + 1) + 1 ≤ 1000001 := Nat.add_le_add hkB (Nat.le_refl 1)
        refine rX 13 (vN ((k + 1) + 1)) (okI (wrapI64 b3 rfl)) ?_
        refine rO 8 (vN ((k + 1) + 1)) ?_
        refine rE 24 ?_
        refine ⟨(k + 1) + 1, fun s => match s with | 0 => 19 | s => s, Weak.of_lists (fun s => match s with | 0 => 19 | s => s) ⟨⟨rfl, rfl⟩, ⟨rfl, rfl⟩, ⟨rfl, rfl⟩, ⟨congrArg (fun z => AV.osl 19 0 z false) gL, rfl⟩, ⟨rfl, rfl⟩, trivial⟩ ⟨⟨rfl, congrArg (fun z => some (Blk.arr z 1)) (growS (g := movedG a n fill) (row := rowU) (x := fill) (by unfold movedG; rw [if_pos h4])), rfl⟩, trivial⟩ rfl, (by omega), (by omega)⟩
      · skip
        refine cR ?_
        refine rO 28 (.osl 0 0 (k + 1) false) ?_
        refine rO 29 (vU a) ?_
        refine rO 30 (vN (k + 1)) ?_
        refine rO 31 (vI n) ?_
        refine rOk (d := 32) (x := vI ((((k + 1) : Nat) : Int) - n)) rfl rfl (okN (wrap_i64 (by omega) (by omega))) ?_
        refine rCall (args := [vU a, vI ((((k + 1) : Nat) : Int) - n)]) (d := 33) (x := vU (a / 2 ^ ((((k + 1) : Nat) : Int) - n).toNat % 2)) rfl rfl rfl rfl (.inl rfl) rfl (rBitZ a _ ha (by omega) (by omega)) ?_
        refine rO 34 (.sl 1 ([[vU (a / 2 ^ ((((k + 1) : Nat) : Int) - n).toNat % 2)]]) true) ?_
        refine rFx (d := 35) (x := .osl 23 0 ((List.take (k + 1) (List.drop 0 ((upto (movedG a n fill) (k + 1)).map rowU))).length + ([[vU (a / 2 ^ ((((k + 1) : Nat) : Int) - n).toNat % 2)]] : List (List AV)).length) false) (h' := upd (upd _ 0 none) 23 (some (.arr (List.take (k + 1) (List.drop 0 ((upto (movedG a n fill) (k + 1)).map rowU)) ++ [[vU (a / 2 ^ ((((k + 1) : Nat) : Int) - n).toNat % 2)]]) 1))) rfl rfl (rfl) (⟨gC (by omega), gF, trivial⟩) ?_
        refine rO 7 (.osl 23 0 ((List.take (k + 1) (List.drop 0 ((upto (movedG a n fill) (k + 1)).map rowU))).length + ([[vU (a / 2 ^ ((((k + 1) : Nat) : Int) - n).toNat % 2)]] : List (List AV)).length) false) ?_
        refine rE 25 ?_
        refine cR ?_
        refine rO 12 (vN (k + 1)) ?_
        have b4 : (k + 1) + 1 ≤ 1000001 := Nat.add_le_add hkB (Nat.le_refl 1)
        refine rX 13 (vN ((k + 1) + 1)) (okI (wrapI64 b4 rfl)) ?_
        refine rO 8 (vN ((k + 1) + 1)) ?_
        refine rE 28 ?_
        refine ⟨(k + 1) + 1, fun s => match s with | 0 => 23 | s => s, Weak.of_lists (fun s => match s with | 0 => 23 | s => s) ⟨⟨rfl, rfl⟩, ⟨rfl, rfl⟩, ⟨rfl, rfl⟩, ⟨congrArg (fun z => AV.osl 23 0 z false) gL, rfl⟩, ⟨rfl, rfl⟩, trivial⟩ ⟨⟨rfl, congrArg (fun z => some (Blk.arr z 1)) (growS (g := movedG a n fill) (row := rowU) (x := a / 2 ^ ((((k + 1) : Nat) : Int) - n).toNat % 2) (by unfold movedG; rw [if_neg h4])), rfl⟩, trivial⟩ rfl, (by omega), (by omega)⟩
    · skip
      refine cExit ?_
      refine cSeq ?_
      refine cR ?_
      refine rO 36 (.osl 0 0 (k + 1) false) ?_
      refine rCall (args := [.osl 0 0 (k + 1) false]) (d := 37) (x := vU (ofB (upto (movedG a n fill) 32))) rfl rfl rfl rfl (.inr ⟨rfl, ofl (g := movedG a n fill) rfl⟩) rfl (rOfG (g := movedG a n fill) (movedG_le a n hf) (by omega)) ?_
      refine rO 6 (vU (ofB (upto (movedG a n fill) 32))) ?_
      refine rE 9 ?_
      refine cRet ?_
      exact finTA rfl trivial rfl rfl
theorem byteW (x i : Nat) : IntKind.wrap .u8 ((field x (8 * i) 8 : Nat) : Int) = (((byteG x i).toNat : Nat) : Int) := by
  simp only [IntKind.wrap, IntKind.signed, IntKind.bits, byteG, field]
  simp
set_option maxRecDepth 100000 in
set_option maxHeartbeats 4000000 in
theorem rBytes (x n : Nat) (hx : x ≤ 4294967295) (hn : n ≤ 4) : DCall C0 45 [vU x, vN n] (.tup [.v (.string (bytesP x n)), .v (.int .i64 0)]) := by
  refine DCall.intro c0Ok Try.func45 rfl rfl (by kernel_rfl) rfl ?_
  refine cSeq ?_
  refine cR ?_
  refine rO 4 (.v (.string (⟨#[]⟩))) ?_
  refine rO 5 (vI 0) ?_
  refine rE 2 ?_
  refine cSeq ?_
  refine cSeq ?_
  refine cR ?_
  refine rO 8 (vN n) ?_
  refine rX 9 (vB (decide (n < 0))) (okB (ltN _ _)) ?_
  refine rO 10 (vB (decide (n < 0))) ?_
  refine gO 11 (!(decide (n < 0))) (vN n) ?_
  refine gOkS (d := 12) (x := vB (decide (n > 4))) (g := !(decide (n < 0))) rfl rfl rfl rfl (fun h => h) rfl (okB (gtN _ _)) ?_
  refine rNeed (d := 13) (x := vB (cond2 (decide (n < 0)) true (decide (n > 4)))) rfl rfl rfl (by simp) ?_
  refine rE 8 ?_
  refine cPr (n < 0 ∨ n > 4) (c2or _ _ pDec pDec) (fun h1 => by omega) (fun h1 => ?_)
  refine cSkip ?_
  refine cSeq ?_
  refine cR ?_
  refine rO 14 (.sl 1 ([]) true) ?_
  refine rO 6 (.sl 1 ([]) true) ?_
  refine rE 10 ?_
  refine cSeq ?_
  refine cSeq ?_
  refine cR ?_
  refine rO 7 (vI 0) ?_
  refine rE 11 ?_
  refine cBlock ?_
  refine cLoop (κ := Nat) (fun k => match k with | 0 => ⟨slotsF [(0, vU x), (1, vN n), (6, .sl 1 ([]) true), (7, vN 0)], heapF [], 11⟩ | k + 1 => ⟨slotsF [(0, vU x), (1, vN n), (6, .osl 0 0 (k + 1) false), (7, vN (k + 1))], heapF [(0, .arr ((upto (byteG x) (k + 1)).map rowB) 1)], 11⟩) (fun k => k ≤ n) (fun k => n - k) 0 (fun s => s) (Weak.of_lists (fun s => s) ⟨⟨rfl, rfl⟩, ⟨rfl, rfl⟩, ⟨rfl, rfl⟩, ⟨rfl, rfl⟩, trivial⟩ trivial rfl) (Nat.zero_le _) ?_
  intro k hk
  rcases k with _ | k
  · skip
    have hkB : 0 ≤ 1000000 := by decide
    refine cSeq ?_
    refine cSeq ?_
    refine cR ?_
    refine rO 15 (vN 0) ?_
    refine rO 16 (vN n) ?_
    refine rX 17 (vB (decide (0 < n))) (okB (ltN _ _)) ?_
    refine rE 14 ?_
    refine cPr (0 < n) pDec (fun h2 => ?_) (fun h2 => ?_)
    · skip
      refine cSkip ?_
      refine cSeq ?_
      refine cBlock ?_
      refine cR ?_
      refine rO 20 (.sl 1 ([]) true) ?_
      refine rO 21 (vU x) ?_
      refine rO 22 (vN 0) ?_
      have b1 : 8 * 0 ≤ 8000000 := Nat.mul_le_mul (Nat.le_refl 8) hkB
      refine rX 23 (vN (8 * 0)) (okI (wrapI64 b1 rfl)) ?_
      refine rCall (args := [vU x, vN (8 * 0), vI 8]) (d := 24) (x := vU (field x (8 * 0) 8)) rfl rfl rfl rfl (.inl rfl) rfl (rField x (8 * 0) 8 (by decide) (by omega)) ?_
      refine rOk (d := 25) (x := .v (.int .u8 (((byteG x 0).toNat : Nat) : Int))) rfl rfl (okN (byteW x 0)) ?_
      refine rO 26 (.sl 1 ([[.v (.int .u8 (((byteG x 0).toNat : Nat) : Int))]]) true) ?_
      refine rFx (d := 27) (x := .osl 21 0 1 false) (h' := upd _ 21 (some (.arr (([]) ++ ([[.v (.int .u8 (((byteG x 0).toNat : Nat) : Int))]])) 1))) rfl rfl (rfl) (⟨by exact Nat.le_of_ble_eq_true rfl, by exact Nat.le_of_ble_eq_true rfl, trivial, trivial⟩) ?_
      refine rO 6 (.osl 21 0 1 false) ?_
      refine rE 23 ?_
      refine cR ?_
      refine rO 18 (vN 0) ?_
      have b2 : 0 + 1 ≤ 1000001 := Nat.add_le_add hkB (Nat.le_refl 1)
      refine rX 19 (vN (0 + 1)) (okI (wrapI64 b2 rfl)) ?_
      refine rO 7 (vN (0 + 1)) ?_
      refine rE 26 ?_
      refine ⟨0 + 1, fun s => match s with | 0 => 21 | s => s, Weak.of_lists (fun s => match s with | 0 => 21 | s => s) ⟨⟨rfl, rfl⟩, ⟨rfl, rfl⟩, ⟨rfl, rfl⟩, ⟨rfl, rfl⟩, trivial⟩ ⟨⟨rfl, congrArg (fun z => some (Blk.arr z 1)) (grow0 (g := byteG x) (row := rowB) (x := byteG x 0) (rfl)), rfl⟩, trivial⟩ rfl, (by omega), (by omega)⟩
    · skip
      refine cExit ?_
      refine cSeq ?_
      refine cR ?_
      refine rO 28 (.sl 1 ([]) true) ?_
      refine rStr (([] : List UInt8)) (d := 29) rfl rfl rfl (trivial) (rfl) ?_
      refine rO 4 (.v (.string (⟨([] : List UInt8).toArray⟩ : ByteArray))) ?_
      refine rO 5 (vI 0) ?_
      refine rE 18 ?_
      refine cRet ?_
      exact finTA rfl trivial rfl (by rw [show n = 0 by omega]; rfl)
  · skip
    have hkB : k + 1 ≤ 1000000 := by omega
    refine cSeq ?_
    refine cSeq ?_
    refine cR ?_
    refine rO 15 (vN (k + 1)) ?_
    refine rO 16 (vN n) ?_
    refine rX 17 (vB (decide ((k + 1) < n))) (okB (ltN _ _)) ?_
    refine rE 14 ?_
    refine cPr ((k + 1) < n) pDec (fun h3 => ?_) (fun h3 => ?_)
    · skip
      refine cSkip ?_
      refine cSeq ?_
      refine cBlock ?_
      refine cR ?_
      refine rO 20 (.osl 0 0 (k + 1) false) ?_
      refine rO 21 (vU x) ?_
      refine rO 22 (vN (k + 1)) ?_
      have b3 : 8 * (k + 1) ≤ 8000000 := Nat.mul_le_mul (Nat.le_refl 8) hkB
      refine rX 23 (vN (8 * (k + 1))) (okI (wrapI64 b3 rfl)) ?_
      refine rCall (args := [vU x, vN (8 * (k + 1)), vI 8]) (d := 24) (x := vU (field x (8 * (k + 1)) 8)) rfl rfl rfl rfl (.inl rfl) rfl (rField x (8 * (k + 1)) 8 (by decide) (by omega)) ?_
      refine rOk (d := 25) (x := .v (.int .u8 (((byteG x (k + 1)).toNat : Nat) : Int))) rfl rfl (okN (byteW x (k + 1))) ?_
      refine rO 26 (.sl 1 ([[.v (.int .u8 (((byteG x (k + 1)).toNat : Nat) : Int))]]) true) ?_
      refine rFx (d := 27) (x := .osl 21 0 ((List.take (k + 1) (List.drop 0 ((upto (byteG x) (k + 1)).map rowB))).length + ([[.v (.int .u8 (((byteG x (k + 1)).toNat : Nat) : Int))]] : List (List AV)).length) false) (h' := upd (upd _ 0 none) 21 (some (.arr (List.take (k + 1) (List.drop 0 ((upto (byteG x) (k + 1)).map rowB)) ++ [[.v (.int .u8 (((byteG x (k + 1)).toNat : Nat) : Int))]]) 1))) rfl rfl (rfl) (⟨gC (by omega), gF, trivial⟩) ?_
      refine rO 6 (.osl 21 0 ((List.take (k + 1) (List.drop 0 ((upto (byteG x) (k + 1)).map rowB))).length + ([[.v (.int .u8 (((byteG x (k + 1)).toNat : Nat) : Int))]] : List (List AV)).length) false) ?_
      refine rE 23 ?_
      refine cR ?_
      refine rO 18 (vN (k + 1)) ?_
      have b4 : (k + 1) + 1 ≤ 1000001 := Nat.add_le_add hkB (Nat.le_refl 1)
      refine rX 19 (vN ((k + 1) + 1)) (okI (wrapI64 b4 rfl)) ?_
      refine rO 7 (vN ((k + 1) + 1)) ?_
      refine rE 26 ?_
      refine ⟨(k + 1) + 1, fun s => match s with | 0 => 21 | s => s, Weak.of_lists (fun s => match s with | 0 => 21 | s => s) ⟨⟨rfl, rfl⟩, ⟨rfl, rfl⟩, ⟨congrArg (fun z => AV.osl 21 0 z false) gL, rfl⟩, ⟨rfl, rfl⟩, trivial⟩ ⟨⟨rfl, congrArg (fun z => some (Blk.arr z 1)) (growS (g := byteG x) (row := rowB) (x := byteG x (k + 1)) (rfl)), rfl⟩, trivial⟩ rfl, (by omega), (by omega)⟩
    · skip
      refine cExit ?_
      refine cSeq ?_
      refine cR ?_
      refine rO 28 (.osl 0 0 (k + 1) false) ?_
      refine rStr (upto (byteG x) (k + 1)) (d := 29) rfl rfl rfl (Nat.le_of_eq gF) (by rw [gT]; exact bytesOfRows_map _) ?_
      refine rO 4 (.v (.string (⟨(upto (byteG x) (k + 1)).toArray⟩ : ByteArray))) ?_
      refine rO 5 (vI 0) ?_
      refine rE 18 ?_
      refine cRet ?_
      exact finTA rfl trivial rfl (by rw [show bytesP x n = (⟨(upto (byteG x) (k + 1)).toArray⟩ : ByteArray) by rw [show k + 1 = n by omega]; exact (bytesG_eq x n).symm]; rfl)
end Go.Proofs.Ytckjihpdjefpgaa
