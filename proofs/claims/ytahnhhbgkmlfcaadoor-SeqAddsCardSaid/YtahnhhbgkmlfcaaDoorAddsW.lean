/- The law SeqAdds: its walk. -/
import Derived.Test.YtahnhhbgkmlfcaaDoorAddsM
import Derived.Test.YtahnhhbgkmlfcaaDoorAbsN
namespace Go.Proofs.YtahnhhbgkmlfcaaDoor
open Go.RowKit

def adR (q : List Nat) (k : Nat) : List (List AV) := (((q.take k).map (· &&& 2047)).map addW).map rowU
def adS (q : List Nat) (k : Nat) : Nat := sumU 0 ((q.take k).map (· &&& 2047))
def adP (q : List Nat) : List Nat := (q.map (· &&& 2047)).map addW
theorem take_min60 (l : List Nat) : l.take (min l.length 60) = l.take 60 := by
  rcases Nat.le_total l.length 60 with h | h
  · rw [Nat.min_eq_left h, List.take_of_length_le (Nat.le_refl _), List.take_of_length_le h]
  · rw [Nat.min_eq_right h]
theorem adR_len {q : List Nat} {k : Nat} (h : k ≤ q.length) : (adR q k).length = k := by unfold adR; simp; omega
theorem take_one {q : List Nat} {k x : Nat} (hx : q[k]? = some x) : q.take (k + 1) = q.take k ++ [x] := by
  rw [List.take_add_one, hx]; rfl
theorem adR_succ {q : List Nat} {k x : Nat} (hx : q[k]? = some x) : adR q (k + 1) = adR q k ++ [rowU (addW (x &&& 2047))] := by
  unfold adR; rw [take_one hx]; simp
theorem adS_succ {q : List Nat} {k x : Nat} (hx : q[k]? = some x) : adS q (k + 1) = (adS q k + (x &&& 2047)) % 4294967296 := by
  unfold adS; rw [take_one hx, List.map_append, List.map_cons, List.map_nil, sumU_snoc]
theorem adR_all {q : List Nat} {k : Nat} (h : k = q.length) : adR q k = (adP q).map rowU := by unfold adR adP; rw [h, List.take_length]
theorem adS_all {q : List Nat} {k : Nat} (h : k = q.length) : adS q k = sumU 0 (q.map (· &&& 2047)) := by unfold adS; rw [h, List.take_length]
theorem adS_lt (q : List Nat) (k : Nat) : adS q k ≤ 4294967295 := sumU_lt _ _ (by omega)
theorem mask_lt (x : Nat) : x &&& 2047 < 2048 := Nat.lt_succ_of_le Nat.and_le_right
theorem adP_lt (q : List Nat) : ∀ x ∈ adP q, x ≤ 4294967295 := fun x h => by
  unfold adP at h
  obtain ⟨y, hy, rfl⟩ := List.mem_map.1 h
  obtain ⟨z, _, rfl⟩ := List.mem_map.1 hy
  exact (addW_dec _ (mask_lt z)).2
theorem adP_len (q : List Nat) : (adP q).length = q.length := by unfold adP; simp
theorem DCall.nil0 {C : Ctx} {f : FuncId} {rs : Nat} {clip : Bool} {rest : List AV} {r : AV} (h : DCall C f (.sl rs [] clip :: rest) r) : DCall C f (.sl 0 [] true :: rest) r :=
  ⟨h.1, fun S w vs hS hG ha => h.2 S w vs hS hG ⟨ha.1, fun i a u p q => by
    cases i with
    | zero =>
      simp at p; subst p
      have := ha.2 0 _ u rfl q
      cases this with
      | sl _ _ _ A c b o u hc hm hcl hrs hA hw h1 hr => exact .sl rs [] clip A c b o u hc hm (fun _ => hcl rfl) (fun row h => by cases h) (fun h => absurd h (Nat.lt_irrefl 0)) (fun i row j a h => by simp at h) h1 fun i row j a h => by simp at h
    | succ i => exact ha.2 (i + 1) a u p q⟩⟩
theorem adds_facts (q : List Nat) (hq : q.length ≤ 60) : (runL (adP q) ⟨#[]⟩ 100).length = q.length + 1 ∧ (lastOf (newS ⟨#[]⟩) (runL (adP q) ⟨#[]⟩ 100)).pc = 4 * q.length ∧ (lastOf (newS ⟨#[]⟩) (runL (adP q) ⟨#[]⟩ 100)).halt = 1 ∧ (lastOf (newS ⟨#[]⟩) (runL (adP q) ⟨#[]⟩ 100)).r 1 = sumU 0 (q.map (· &&& 2047)) := by
  have h := adds_run (q.map (· &&& 2047)) [] 100 (newS ⟨#[]⟩) (fun m hm => by obtain ⟨z, _, rfl⟩ := List.mem_map.1 hm; exact mask_lt z) rfl rfl (by simp; omega) (by simp; omega)
  have e : runL (adP q) ⟨#[]⟩ 100 = stepsL (([] ++ q.map (· &&& 2047)).map addW) 100 (newS ⟨#[]⟩) := rfl
  rw [e]
  obtain ⟨h1, h2, h3, h4⟩ := h
  refine ⟨by rw [h1, List.length_map], by rw [h2, List.length_map]; simp, h3, h4⟩

set_option maxRecDepth 100000 in
set_option maxHeartbeats 4000000 in
theorem dSeqAdds (l : List Nat) (hp : ∀ x ∈ l, x ≤ 4294967295) (hl : l.length ≤ maxLen) : DCall C0 7 [.sl 1 (l.map rowU) false] (.v (.bool true)) := by
  refine DCall.introN 5 c0Ok Tryd.func7 rfl rfl (by kernel_rfl) rfl ?_
  obtain ⟨q, hq⟩ : ∃ q, l.take 60 = q := ⟨_, rfl⟩
  have hql : q.length ≤ 60 := by rw [← hq, List.length_take]; omega
  have hqm : ∀ x ∈ q, x ≤ 4294967295 := fun x h => hp x (by rw [← hq] at h; exact List.mem_of_mem_take h)
  have hqe : List.drop 0 (List.take (min l.length 60) (l.map rowU)) = q.map rowU := by rw [List.drop_zero, ← List.map_take, ← hq, take_min60]
  have hrun := dRun (adP q) ⟨#[]⟩ 100 false (adP_lt q) (by rw [adP_len]; omega)
  obtain ⟨f1, f2, f3, f4⟩ := adds_facts q hql
  obtain ⟨L1, hL1⟩ : ∃ L, runL (adP q) ⟨#[]⟩ 100 = L := ⟨_, rfl⟩
  obtain ⟨S1, hS1⟩ : ∃ s, lastOf (newS ⟨#[]⟩) (runL (adP q) ⟨#[]⟩ 100) = s := ⟨_, rfl⟩
  have hok1 : S1.ok := by rw [← hS1]; exact lastOf_ok _ _ (newS_ok _)
  rw [hS1, hL1] at hrun
  rw [hS1] at f2 f3 f4
  rw [hL1] at f1
  refine nSeq ?_
  refine cReg rfl ?_
  refine rOk (d := 2) (x := .v (.bool false)) rfl rfl rfl ?_
  refine rEnd (n' := 1) rfl ?_
  refine nSeq ?_
  refine cReg rfl ?_
  refine rOk (d := 9) (x := .sl 1 (l.map rowU) false) rfl rfl rfl ?_
  refine rOk (d := 10) (x := .sl 1 (l.map rowU) false) rfl rfl rfl ?_
  refine rOk (d := 11) (x := .v (.int .i64 ((l.length : Nat) : Int))) rfl rfl (congrArg (fun n : Nat => Res.ok (.v (.int .i64 (n : Int)))) (List.length_map ..)) ?_
  refine rOk (d := 12) (x := .v (.int .i64 ((min l.length 60 : Nat) : Int))) rfl rfl (by show Res.ok (.v (.int .i64 (if (60 : Int) < (l.length : Int) then 60 else (l.length : Int)))) = _; congr 3; split <;> omega) ?_
  refine rNeed (d := 13) (x := .sl 1 (q.map rowU) (false && false)) rfl rfl (congrArg (fun z => Res.need _ (AV.sl 1 z (false && false))) hqe) (⟨Int.le_refl _, Int.natCast_nonneg _, by show ((min l.length 60 : Nat) : Int) ≤ (((l.map rowU).length : Nat) : Int); rw [List.length_map]; omega⟩) ?_
  refine rOk (d := 0) (x := .sl 1 (q.map rowU) (false && false)) rfl rfl rfl ?_
  refine rEnd (n' := 7) rfl ?_
  refine nSeq ?_
  refine cReg rfl ?_
  refine rOk (d := 3) (x := .sl 0 ([]) true) rfl rfl rfl ?_
  refine rEnd (n' := 8) rfl ?_
  refine nSeq ?_
  refine cReg rfl ?_
  refine rOk (d := 4) (x := .v (.int .u32 0)) rfl rfl rfl ?_
  refine rEnd (n' := 9) rfl ?_
  refine nFrz ?_
  refine cSeq ?_
  refine cReg rfl ?_
  refine rOk (d := 14) (x := .sl 1 (q.map rowU) (false && false)) rfl rfl rfl ?_
  refine rOk (d := 15) (x := .v (.int .i64 ((q.length : Nat) : Int))) rfl rfl (congrArg (fun n : Nat => Res.ok (.v (.int .i64 (n : Int)))) (List.length_map ..)) ?_
  refine rOk (d := 16) (x := .v (.int .i64 0)) rfl rfl rfl ?_
  refine rEnd (n' := 12) rfl ?_
  refine cBlock ?_
  refine cLoop (κ := Nat) (fun k => match k with | 0 => ⟨slotsF [(0, .sl 1 (q.map rowU) (false && false)), (2, .v (.bool false)), (14, .sl 1 (q.map rowU) (false && false)), (15, .v (.int .i64 ((q.length : Nat) : Int))), (3, .sl 0 ([]) true), (4, .v (.int .u32 ((adS q 0 : Nat) : Int))), (16, .v (.int .i64 ((0 : Nat) : Int)))], heapF [], 12⟩ | k + 1 => ⟨slotsF [(0, .sl 1 (q.map rowU) (false && false)), (2, .v (.bool false)), (14, .sl 1 (q.map rowU) (false && false)), (15, .v (.int .i64 ((q.length : Nat) : Int))), (3, .osl 0 0 (k + 1) false), (4, .v (.int .u32 ((adS q (k + 1) : Nat) : Int))), (16, .v (.int .i64 (((k + 1) : Nat) : Int)))], heapF [(0, .arr (adR q (k + 1)) 1)], 12⟩) (fun k => k ≤ q.length) (fun k => q.length - k) 0 (fun s => s) (Weak.of_lists (fun s => s) ⟨⟨rfl, rfl⟩, ⟨rfl, rfl⟩, ⟨rfl, rfl⟩, ⟨rfl, rfl⟩, ⟨rfl, rfl⟩, ⟨rfl, rfl⟩, ⟨rfl, rfl⟩, trivial⟩ trivial rfl) (Nat.zero_le _) ?_
  intro k hk
  rcases k with _ | k
  · skip
    refine cSeq ?_
    refine cReg rfl ?_
    refine rOk (d := 17) (x := .v (.bool (decide (0 < q.length)))) rfl rfl (okB (ltN _ _)) ?_
    refine rEnd (n' := 13) rfl ?_
    refine cSeq ?_
    refine cCond (v := decide (0 < q.length)) rfl (fun h1 => ?_) (fun h1 => ?_)
    · skip
      refine cSkip ?_
      refine cSeq ?_
      refine cBlock ?_
      refine cSeq ?_
      refine cReg rfl ?_
      obtain ⟨x, hx⟩ : ∃ x, q[0]? = some x := ⟨_, List.getElem?_eq_getElem ((of_decide_eq_true h1))⟩
      have hxm := hqm x (List.mem_of_getElem? hx)
      refine rIdx (rowU x) (d := 18) (x := .dp 1 0 (rowU x)) rfl rfl rfl (⟨Int.natCast_nonneg _, by rw [Int.toNat_natCast, List.getElem?_map, hx]; rfl⟩) rfl ?_
      refine rOk (d := 19) (x := .v (.int .u32 ((x : Nat) : Int))) rfl rfl rfl ?_
      refine rOk (d := 6) (x := .v (.int .u32 ((x : Nat) : Int))) rfl rfl rfl ?_
      refine rEnd (n' := 16) rfl ?_
      refine cSeq ?_
      refine cReg rfl ?_
      refine rOk (d := 20) (x := .v (.int .u32 ((x : Nat) : Int))) rfl rfl rfl ?_
      have b1 : x &&& 2047 ≤ 2047 := Nat.le_trans Nat.and_le_right (Nat.le_refl 2047)
      refine rOk (d := 21) (x := .v (.int .u32 ((x &&& 2047 : Nat) : Int))) rfl rfl (okI (andI32 hxm (Nat.le_refl 2047) rfl rfl)) ?_
      refine rOk (d := 6) (x := .v (.int .u32 ((x &&& 2047 : Nat) : Int))) rfl rfl rfl ?_
      refine rEnd (n' := 19) rfl ?_
      refine cSeq ?_
      refine cReg rfl ?_
      refine rOk (d := 22) (x := .v (.int .u32 ((adS q 0 : Nat) : Int))) rfl rfl rfl ?_
      refine rOk (d := 23) (x := .v (.int .u32 ((x &&& 2047 : Nat) : Int))) rfl rfl rfl ?_
      have b2 : ((adS q 0) + (x &&& 2047)) % 4294967296 ≤ 4294967295 := Nat.le_of_lt_succ (Nat.mod_lt _ (by decide))
      refine rOk (d := 24) (x := .v (.int .u32 ((((adS q 0) + (x &&& 2047)) % 4294967296 : Nat) : Int))) rfl rfl rfl ?_
      refine rOk (d := 4) (x := .v (.int .u32 ((((adS q 0) + (x &&& 2047)) % 4294967296 : Nat) : Int))) rfl rfl rfl ?_
      refine rEnd (n' := 23) rfl ?_
      refine cReg rfl ?_
      refine rOk (d := 25) (x := .sl 0 ([]) true) rfl rfl rfl ?_
      refine rOk (d := 26) (x := .v (.int .u32 ((x &&& 2047 : Nat) : Int))) rfl rfl rfl ?_
      refine rNeed (d := 27) (x := .v (.int .u32 (((x &&& 2047) * 1048576 % 4294967296 : Nat) : Int))) rfl rfl (rfl) (by decide) ?_
      have b3 : ((x &&& 2047) * 1048576 % 4294967296) ||| 32768 ≤ 4294967295 := orLe32 (Nat.le_of_lt_succ (Nat.mod_lt _ (by decide))) (Nat.le_refl 32768) rfl rfl
      refine rOk (d := 28) (x := .v (.int .u32 ((((x &&& 2047) * 1048576 % 4294967296) ||| 32768 : Nat) : Int))) rfl rfl (okI (orI32 (Nat.le_of_lt_succ (Nat.mod_lt _ (by decide))) (Nat.le_refl 32768) rfl rfl)) ?_
      have b4 : (((x &&& 2047) * 1048576 % 4294967296) ||| 32768) ||| 128 ≤ 4294967295 := orLe32 b3 (Nat.le_refl 128) rfl rfl
      refine rOk (d := 29) (x := .v (.int .u32 (((((x &&& 2047) * 1048576 % 4294967296) ||| 32768) ||| 128 : Nat) : Int))) rfl rfl (okI (orI32 b3 (Nat.le_refl 128) rfl rfl)) ?_
      have b5 : ((((x &&& 2047) * 1048576 % 4294967296) ||| 32768) ||| 128) ||| 19 ≤ 4294967295 := orLe32 b4 (Nat.le_refl 19) rfl rfl
      refine rOk (d := 30) (x := .v (.int .u32 ((addW (x &&& 2047) : Nat) : Int))) rfl rfl (okI (orI32 b4 (Nat.le_refl 19) rfl rfl)) ?_
      refine rOk (d := 31) (x := .sl 1 ([[.v (.int .u32 ((addW (x &&& 2047) : Nat) : Int))]]) true) rfl rfl rfl ?_
      refine rFx (d := 32) (x := .osl 30 0 1 false) (h' := upd _ 30 (some (.arr ([[.v (.int .u32 ((addW (x &&& 2047) : Nat) : Int))]]) 1))) rfl rfl (rfl) (⟨rfl, by first | (simp [capMax]; done) | (simp only [List.drop_zero, List.length_take, adR_len hk, List.length_cons, List.length_nil, capMax]; omega), by first | (simp [capMax]; done) | (simp only [List.drop_zero, List.length_take, adR_len hk, List.length_cons, List.length_nil, capMax]; omega), trivial⟩) ?_
      refine rOk (d := 3) (x := .osl 30 0 1 false) rfl rfl rfl ?_
      refine rEnd (n' := 32) rfl ?_
      refine cReg rfl ?_
      refine rOk (d := 33) (x := .v (.int .i64 (IntKind.wrap .i64 (((0 : Nat) : Int) + 1)))) rfl rfl rfl ?_
      refine rOk (d := 16) (x := .v (.int .i64 (IntKind.wrap .i64 (((0 : Nat) : Int) + 1)))) rfl rfl rfl ?_
      refine rEnd (n' := 34) rfl ?_
      refine ⟨0 + 1, fun s => match s with | 0 => 30 | s => s, Weak.of_lists (fun s => match s with | 0 => 30 | s => s) ⟨⟨rfl, rfl⟩, ⟨rfl, rfl⟩, ⟨rfl, rfl⟩, ⟨rfl, rfl⟩, ⟨rfl, rfl⟩, ⟨congrArg (fun n : Nat => AV.v (.int .u32 (n : Int))) (adS_succ hx).symm, rfl⟩, ⟨slot_inc 0 (by have := (of_decide_eq_true h1); omega), rfl⟩, trivial⟩ ⟨⟨rfl, congrArg (fun z => some (Blk.arr z 1)) (show [rowU (addW (x &&& 2047))] = adR q (0 + 1) from by rw [adR_succ hx]; rfl), rfl⟩, trivial⟩ rfl, (of_decide_eq_true h1), by have := (of_decide_eq_true h1); show q.length - (0 + 1) < q.length - 0; omega⟩
    · skip
      refine cExit ?_
      have hke : 0 = q.length := by have := of_decide_eq_false h1; omega
      have hrun0 : DCall C0 11 [.sl 0 [] true, .v (.string ⟨#[]⟩), .v (.int .i64 100)] (.tup [stA S1, .sl 9 (L1.map rowS) false]) := by have h0 := hrun; rw [show adP q = [] from by rw [List.eq_nil_of_length_eq_zero hke.symm]; rfl] at h0; exact h0.nil0
      refine .mk 3 (.sl 0 ([]) true) (rfl) (trivial) ?_
      refine cSeq ?_
      refine cReg rfl ?_
      refine rOk (d := 35) (x := .sl 0 ([]) true) rfl rfl rfl ?_
      refine rCall (args := [.sl 0 ([]) true, .v (.string (⟨#[]⟩)), .v (.int .i64 100)]) (d := 36) (x := .tup [.agg (stL S1.pc S1.r S1.mem S1.halt), .sl 9 (L1.map rowS) false]) rfl rfl rfl rfl (.inl rfl) rfl (hrun0) ?_
      refine rOk (d := 34) (x := .tup [.agg (stL S1.pc S1.r S1.mem S1.halt), .sl 9 (L1.map rowS) false]) rfl rfl rfl ?_
      refine rOk (d := 37) (x := .agg (stL S1.pc S1.r S1.mem S1.halt)) rfl rfl rfl ?_
      refine rOk (d := 38) (x := .sl 9 (L1.map rowS) false) rfl rfl rfl ?_
      refine rFx (d := 7) (x := .ptr 18 0) (h' := upd _ 18 (some (.box (stL 0 (fun _ => 0) (⟨#[]⟩) 0)))) rfl rfl (rfl) (trivial) ?_
      refine rFx0 (h' := upd _ 18 (some (.box (stL S1.pc S1.r S1.mem S1.halt)))) rfl rfl (rfl) (trivial) ?_
      refine rOk (d := 8) (x := .sl 9 (L1.map rowS) false) rfl rfl rfl ?_
      refine rEnd (n' := 21) rfl ?_
      refine cSeq ?_
      refine cReg rfl ?_
      refine rCall (args := []) (d := 39) (x := .v (.bool true)) rfl rfl rfl rfl (.inl rfl) rfl (dAlive6) ?_
      refine rOk (d := 40) (x := .v (.bool true)) rfl rfl rfl ?_
      refine gOk (d := 41) (x := .ptr 18 1) (g := true) rfl rfl rfl rfl rfl rfl ?_
      refine gNeedS (d := 42) (x := .ptr 18 2) (g := true) rfl rfl rfl rfl (fun h => h) rfl rfl (fun _ => ⟨by decide, by decide⟩) ?_
      refine gOkS (d := 43) (x := .v (.int .u32 ((S1.r 1 : Nat) : Int))) (g := true) rfl rfl rfl rfl (fun h => h) rfl rfl ?_
      refine gOk (d := 44) (x := .v (.int .u32 ((adS q 0 : Nat) : Int))) (g := true) rfl rfl rfl rfl rfl rfl ?_
      refine gOkS (d := 45) (x := .v (.bool true)) (g := true) rfl rfl rfl rfl (fun h => by simp_all) rfl (okB (beq_iff_eq.2 (congrArg (fun n : Nat => (n : Int)) (by rw [f4, adS_all hke])))) ?_
      refine rNeed (d := 46) (x := .v (.bool (cond2 true true false))) rfl rfl rfl (fun h => h) ?_
      refine rOk (d := 47) (x := .v (.bool (cond2 true true false))) rfl rfl rfl ?_
      refine gOk (d := 48) (x := .ptr 18 34) (g := cond2 true true false) rfl rfl rfl rfl rfl rfl ?_
      refine gOkS (d := 49) (x := .v (.int .i64 S1.halt)) (g := cond2 true true false) rfl rfl rfl rfl (fun h => h) rfl rfl ?_
      refine gOkS (d := 50) (x := .v (.bool true)) (g := cond2 true true false) rfl rfl rfl rfl (fun h => h) rfl (okB (beq_iff_eq.2 f3)) ?_
      refine rNeed (d := 51) (x := .v (.bool (cond2 (cond2 true true false) true false))) rfl rfl rfl (fun h => h) ?_
      refine rOk (d := 52) (x := .v (.bool (cond2 (cond2 true true false) true false))) rfl rfl rfl ?_
      refine gOk (d := 53) (x := .sl 9 (L1.map rowS) false) (g := cond2 (cond2 true true false) true false) rfl rfl rfl rfl rfl rfl ?_
      refine gOkS (d := 54) (x := .v (.int .i64 ((L1.length : Nat) : Int))) (g := cond2 (cond2 true true false) true false) rfl rfl rfl rfl (fun h => h) rfl (congrArg (fun n : Nat => Res.ok (.v (.int .i64 (n : Int)))) (List.length_map ..)) ?_
      refine gOk (d := 55) (x := .sl 1 (q.map rowU) (false && false)) (g := cond2 (cond2 true true false) true false) rfl rfl rfl rfl rfl rfl ?_
      refine gOkS (d := 56) (x := .v (.int .i64 ((q.length : Nat) : Int))) (g := cond2 (cond2 true true false) true false) rfl rfl rfl rfl (fun h => h) rfl (congrArg (fun n : Nat => Res.ok (.v (.int .i64 (n : Int)))) (List.length_map ..)) ?_
      have b6 : q.length + 1 ≤ 61 := Nat.add_le_add hql (Nat.le_refl 1)
      refine gOkS (d := 57) (x := .v (.int .i64 ((q.length + 1 : Nat) : Int))) (g := cond2 (cond2 true true false) true false) rfl rfl rfl rfl (fun h => h) rfl (okI (wrapI64 b6 rfl)) ?_
      refine gOkS (d := 58) (x := .v (.bool true)) (g := cond2 (cond2 true true false) true false) rfl rfl rfl rfl (fun h => by simp_all) rfl (okB (beq_iff_eq.2 (congrArg (fun n : Nat => (n : Int)) (f1)))) ?_
      refine rNeed (d := 59) (x := .v (.bool (cond2 (cond2 (cond2 true true false) true false) true false))) rfl rfl rfl (fun h => h) ?_
      refine rOk (d := 60) (x := .v (.bool (cond2 (cond2 (cond2 true true false) true false) true false))) rfl rfl rfl ?_
      refine gOk (d := 61) (x := .ptr 18 0) (g := cond2 (cond2 (cond2 true true false) true false) true false) rfl rfl rfl rfl rfl rfl ?_
      refine gOkS (d := 62) (x := .v (.int .u32 ((S1.pc : Nat) : Int))) (g := cond2 (cond2 (cond2 true true false) true false) true false) rfl rfl rfl rfl (fun h => h) rfl rfl ?_
      refine gOk (d := 63) (x := .sl 1 (q.map rowU) (false && false)) (g := cond2 (cond2 (cond2 true true false) true false) true false) rfl rfl rfl rfl rfl rfl ?_
      refine gOkS (d := 64) (x := .v (.int .i64 ((q.length : Nat) : Int))) (g := cond2 (cond2 (cond2 true true false) true false) true false) rfl rfl rfl rfl (fun h => h) rfl (congrArg (fun n : Nat => Res.ok (.v (.int .i64 (n : Int)))) (List.length_map ..)) ?_
      have b7 : 4 * q.length ≤ 240 := Nat.mul_le_mul (Nat.le_refl 4) hql
      refine gOkS (d := 65) (x := .v (.int .i64 ((4 * q.length : Nat) : Int))) (g := cond2 (cond2 (cond2 true true false) true false) true false) rfl rfl rfl rfl (fun h => h) rfl (okI (wrapI64 b7 rfl)) ?_
      refine gOkS (d := 66) (x := .v (.int .u32 ((4 * q.length : Nat) : Int))) (g := cond2 (cond2 (cond2 true true false) true false) true false) rfl rfl rfl rfl (fun h => h) rfl (okI (modI b7 rfl)) ?_
      refine gOkS (d := 67) (x := .v (.bool true)) (g := cond2 (cond2 (cond2 true true false) true false) true false) rfl rfl rfl rfl (fun h => by simp_all) rfl (okB (beq_iff_eq.2 (congrArg (fun n : Nat => (n : Int)) (f2)))) ?_
      refine rNeed (d := 68) (x := .v (.bool (cond2 (cond2 (cond2 (cond2 true true false) true false) true false) true false))) rfl rfl rfl (fun h => h) ?_
      refine rOk (d := 2) (x := .v (.bool (cond2 (cond2 (cond2 (cond2 true true false) true false) true false) true false))) rfl rfl rfl ?_
      refine rEnd (n' := 52) rfl ?_
      refine cRet ?_
      exact retA_eq rfl trivial rfl rfl
  · skip
    refine cSeq ?_
    refine cReg rfl ?_
    refine rOk (d := 17) (x := .v (.bool (decide ((k + 1) < q.length)))) rfl rfl (okB (ltN _ _)) ?_
    refine rEnd (n' := 13) rfl ?_
    refine cSeq ?_
    refine cCond (v := decide ((k + 1) < q.length)) rfl (fun h2 => ?_) (fun h2 => ?_)
    · skip
      refine cSkip ?_
      refine cSeq ?_
      refine cBlock ?_
      refine cSeq ?_
      refine cReg rfl ?_
      obtain ⟨x, hx⟩ : ∃ x, q[(k + 1)]? = some x := ⟨_, List.getElem?_eq_getElem ((of_decide_eq_true h2))⟩
      have hxm := hqm x (List.mem_of_getElem? hx)
      refine rIdx (rowU x) (d := 18) (x := .dp 1 0 (rowU x)) rfl rfl rfl (⟨Int.natCast_nonneg _, by rw [Int.toNat_natCast, List.getElem?_map, hx]; rfl⟩) rfl ?_
      refine rOk (d := 19) (x := .v (.int .u32 ((x : Nat) : Int))) rfl rfl rfl ?_
      refine rOk (d := 6) (x := .v (.int .u32 ((x : Nat) : Int))) rfl rfl rfl ?_
      refine rEnd (n' := 16) rfl ?_
      refine cSeq ?_
      refine cReg rfl ?_
      refine rOk (d := 20) (x := .v (.int .u32 ((x : Nat) : Int))) rfl rfl rfl ?_
      have b8 : x &&& 2047 ≤ 2047 := Nat.le_trans Nat.and_le_right (Nat.le_refl 2047)
      refine rOk (d := 21) (x := .v (.int .u32 ((x &&& 2047 : Nat) : Int))) rfl rfl (okI (andI32 hxm (Nat.le_refl 2047) rfl rfl)) ?_
      refine rOk (d := 6) (x := .v (.int .u32 ((x &&& 2047 : Nat) : Int))) rfl rfl rfl ?_
      refine rEnd (n' := 19) rfl ?_
      refine cSeq ?_
      refine cReg rfl ?_
      refine rOk (d := 22) (x := .v (.int .u32 ((adS q (k + 1) : Nat) : Int))) rfl rfl rfl ?_
      refine rOk (d := 23) (x := .v (.int .u32 ((x &&& 2047 : Nat) : Int))) rfl rfl rfl ?_
      have b9 : ((adS q (k + 1)) + (x &&& 2047)) % 4294967296 ≤ 4294967295 := Nat.le_of_lt_succ (Nat.mod_lt _ (by decide))
      refine rOk (d := 24) (x := .v (.int .u32 ((((adS q (k + 1)) + (x &&& 2047)) % 4294967296 : Nat) : Int))) rfl rfl rfl ?_
      refine rOk (d := 4) (x := .v (.int .u32 ((((adS q (k + 1)) + (x &&& 2047)) % 4294967296 : Nat) : Int))) rfl rfl rfl ?_
      refine rEnd (n' := 23) rfl ?_
      refine cReg rfl ?_
      refine rOk (d := 25) (x := .osl 0 0 (k + 1) false) rfl rfl rfl ?_
      refine rOk (d := 26) (x := .v (.int .u32 ((x &&& 2047 : Nat) : Int))) rfl rfl rfl ?_
      refine rNeed (d := 27) (x := .v (.int .u32 (((x &&& 2047) * 1048576 % 4294967296 : Nat) : Int))) rfl rfl (rfl) (by decide) ?_
      have b10 : ((x &&& 2047) * 1048576 % 4294967296) ||| 32768 ≤ 4294967295 := orLe32 (Nat.le_of_lt_succ (Nat.mod_lt _ (by decide))) (Nat.le_refl 32768) rfl rfl
      refine rOk (d := 28) (x := .v (.int .u32 ((((x &&& 2047) * 1048576 % 4294967296) ||| 32768 : Nat) : Int))) rfl rfl (okI (orI32 (Nat.le_of_lt_succ (Nat.mod_lt _ (by decide))) (Nat.le_refl 32768) rfl rfl)) ?_
      have b11 : (((x &&& 2047) * 1048576 % 4294967296) ||| 32768) ||| 128 ≤ 4294967295 := orLe32 b10 (Nat.le_refl 128) rfl rfl
      refine rOk (d := 29) (x := .v (.int .u32 (((((x &&& 2047) * 1048576 % 4294967296) ||| 32768) ||| 128 : Nat) : Int))) rfl rfl (okI (orI32 b10 (Nat.le_refl 128) rfl rfl)) ?_
      have b12 : ((((x &&& 2047) * 1048576 % 4294967296) ||| 32768) ||| 128) ||| 19 ≤ 4294967295 := orLe32 b11 (Nat.le_refl 19) rfl rfl
      refine rOk (d := 30) (x := .v (.int .u32 ((addW (x &&& 2047) : Nat) : Int))) rfl rfl (okI (orI32 b11 (Nat.le_refl 19) rfl rfl)) ?_
      refine rOk (d := 31) (x := .sl 1 ([[.v (.int .u32 ((addW (x &&& 2047) : Nat) : Int))]]) true) rfl rfl rfl ?_
      refine rFx (d := 32) (x := .osl 30 0 ((List.take (k + 1) (List.drop 0 (adR q (k + 1)))).length + ([rowU (addW (x &&& 2047))] : List (List AV)).length) false) (h' := upd (upd _ 0 none) 30 (some (.arr (List.take (k + 1) (List.drop 0 (adR q (k + 1))) ++ [rowU (addW (x &&& 2047))]) 1))) rfl rfl (rfl) (⟨by show (List.take (k + 1) (List.drop 0 (adR q (k + 1)))).length + 1 ≤ 1000000; rw [List.drop_zero, List.take_of_length_le (by rw [adR_len hk]; exact Nat.le_refl _), adR_len hk]; omega, by show 0 + (k + 1) = (adR q (k + 1)).length; rw [adR_len hk]; omega, trivial⟩) ?_
      refine rOk (d := 3) (x := .osl 30 0 ((List.take (k + 1) (List.drop 0 (adR q (k + 1)))).length + ([rowU (addW (x &&& 2047))] : List (List AV)).length) false) rfl rfl rfl ?_
      refine rEnd (n' := 32) rfl ?_
      refine cReg rfl ?_
      refine rOk (d := 33) (x := .v (.int .i64 (IntKind.wrap .i64 ((((k + 1) : Nat) : Int) + 1)))) rfl rfl rfl ?_
      refine rOk (d := 16) (x := .v (.int .i64 (IntKind.wrap .i64 ((((k + 1) : Nat) : Int) + 1)))) rfl rfl rfl ?_
      refine rEnd (n' := 34) rfl ?_
      refine ⟨(k + 1) + 1, fun s => match s with | 0 => 30 | s => s, Weak.of_lists (fun s => match s with | 0 => 30 | s => s) ⟨⟨rfl, rfl⟩, ⟨rfl, rfl⟩, ⟨rfl, rfl⟩, ⟨rfl, rfl⟩, ⟨congrArg (fun z => AV.osl 30 0 z false) (show (List.take (k + 1) (List.drop 0 (adR q (k + 1)))).length + 1 = k + 1 + 1 from by rw [List.drop_zero, List.take_of_length_le (by rw [adR_len hk]; exact Nat.le_refl _), adR_len hk]), rfl⟩, ⟨congrArg (fun n : Nat => AV.v (.int .u32 (n : Int))) (adS_succ hx).symm, rfl⟩, ⟨slot_inc (k + 1) (by have := (of_decide_eq_true h2); omega), rfl⟩, trivial⟩ ⟨⟨rfl, congrArg (fun z => some (Blk.arr z 1)) (show List.take (k + 1) (List.drop 0 (adR q (k + 1))) ++ [rowU (addW (x &&& 2047))] = adR q (k + 1 + 1) from by rw [List.drop_zero, List.take_of_length_le (by rw [adR_len hk]; exact Nat.le_refl _), adR_succ hx]), rfl⟩, trivial⟩ rfl, (of_decide_eq_true h2), by have := (of_decide_eq_true h2); show q.length - ((k + 1) + 1) < q.length - (k + 1); omega⟩
    · skip
      refine cExit ?_
      have hke : k + 1 = q.length := by have := of_decide_eq_false h2; omega
      refine .mk 3 (.sl 1 ((adP q).map rowU) false) (by show AV.sl 1 (List.take (k + 1) (List.drop 0 (adR q (k + 1)))) false = _; rw [List.drop_zero, List.take_of_length_le (by rw [adR_len hk]; exact Nat.le_refl _), adR_all hke]) (by show 0 + (k + 1) ≤ (adR q (k + 1)).length; rw [adR_len hk]; omega) ?_
      refine cSeq ?_
      refine cReg rfl ?_
      refine rOk (d := 35) (x := .sl 1 ((adP q).map rowU) false) rfl rfl rfl ?_
      refine rCall (args := [.sl 1 ((adP q).map rowU) false, .v (.string (⟨#[]⟩)), .v (.int .i64 100)]) (d := 36) (x := .tup [.agg (stL S1.pc S1.r S1.mem S1.halt), .sl 9 (L1.map rowS) false]) rfl rfl rfl rfl (.inl rfl) rfl (hrun) ?_
      refine rOk (d := 34) (x := .tup [.agg (stL S1.pc S1.r S1.mem S1.halt), .sl 9 (L1.map rowS) false]) rfl rfl rfl ?_
      refine rOk (d := 37) (x := .agg (stL S1.pc S1.r S1.mem S1.halt)) rfl rfl rfl ?_
      refine rOk (d := 38) (x := .sl 9 (L1.map rowS) false) rfl rfl rfl ?_
      refine rFx (d := 7) (x := .ptr 18 0) (h' := upd _ 18 (some (.box (stL 0 (fun _ => 0) (⟨#[]⟩) 0)))) rfl rfl (rfl) (trivial) ?_
      refine rFx0 (h' := upd _ 18 (some (.box (stL S1.pc S1.r S1.mem S1.halt)))) rfl rfl (rfl) (trivial) ?_
      refine rOk (d := 8) (x := .sl 9 (L1.map rowS) false) rfl rfl rfl ?_
      refine rEnd (n' := 21) rfl ?_
      refine cSeq ?_
      refine cReg rfl ?_
      refine rCall (args := []) (d := 39) (x := .v (.bool true)) rfl rfl rfl rfl (.inl rfl) rfl (dAlive6) ?_
      refine rOk (d := 40) (x := .v (.bool true)) rfl rfl rfl ?_
      refine gOk (d := 41) (x := .ptr 18 1) (g := true) rfl rfl rfl rfl rfl rfl ?_
      refine gNeedS (d := 42) (x := .ptr 18 2) (g := true) rfl rfl rfl rfl (fun h => h) rfl rfl (fun _ => ⟨by decide, by decide⟩) ?_
      refine gOkS (d := 43) (x := .v (.int .u32 ((S1.r 1 : Nat) : Int))) (g := true) rfl rfl rfl rfl (fun h => h) rfl rfl ?_
      refine gOk (d := 44) (x := .v (.int .u32 ((adS q (k + 1) : Nat) : Int))) (g := true) rfl rfl rfl rfl rfl rfl ?_
      refine gOkS (d := 45) (x := .v (.bool true)) (g := true) rfl rfl rfl rfl (fun h => by simp_all) rfl (okB (beq_iff_eq.2 (congrArg (fun n : Nat => (n : Int)) (by rw [f4, adS_all hke])))) ?_
      refine rNeed (d := 46) (x := .v (.bool (cond2 true true false))) rfl rfl rfl (fun h => h) ?_
      refine rOk (d := 47) (x := .v (.bool (cond2 true true false))) rfl rfl rfl ?_
      refine gOk (d := 48) (x := .ptr 18 34) (g := cond2 true true false) rfl rfl rfl rfl rfl rfl ?_
      refine gOkS (d := 49) (x := .v (.int .i64 S1.halt)) (g := cond2 true true false) rfl rfl rfl rfl (fun h => h) rfl rfl ?_
      refine gOkS (d := 50) (x := .v (.bool true)) (g := cond2 true true false) rfl rfl rfl rfl (fun h => h) rfl (okB (beq_iff_eq.2 f3)) ?_
      refine rNeed (d := 51) (x := .v (.bool (cond2 (cond2 true true false) true false))) rfl rfl rfl (fun h => h) ?_
      refine rOk (d := 52) (x := .v (.bool (cond2 (cond2 true true false) true false))) rfl rfl rfl ?_
      refine gOk (d := 53) (x := .sl 9 (L1.map rowS) false) (g := cond2 (cond2 true true false) true false) rfl rfl rfl rfl rfl rfl ?_
      refine gOkS (d := 54) (x := .v (.int .i64 ((L1.length : Nat) : Int))) (g := cond2 (cond2 true true false) true false) rfl rfl rfl rfl (fun h => h) rfl (congrArg (fun n : Nat => Res.ok (.v (.int .i64 (n : Int)))) (List.length_map ..)) ?_
      refine gOk (d := 55) (x := .sl 1 (q.map rowU) (false && false)) (g := cond2 (cond2 true true false) true false) rfl rfl rfl rfl rfl rfl ?_
      refine gOkS (d := 56) (x := .v (.int .i64 ((q.length : Nat) : Int))) (g := cond2 (cond2 true true false) true false) rfl rfl rfl rfl (fun h => h) rfl (congrArg (fun n : Nat => Res.ok (.v (.int .i64 (n : Int)))) (List.length_map ..)) ?_
      have b13 : q.length + 1 ≤ 61 := Nat.add_le_add hql (Nat.le_refl 1)
      refine gOkS (d := 57) (x := .v (.int .i64 ((q.length + 1 : Nat) : Int))) (g := cond2 (cond2 true true false) true false) rfl rfl rfl rfl (fun h => h) rfl (okI (wrapI64 b13 rfl)) ?_
      refine gOkS (d := 58) (x := .v (.bool true)) (g := cond2 (cond2 true true false) true false) rfl rfl rfl rfl (fun h => by simp_all) rfl (okB (beq_iff_eq.2 (congrArg (fun n : Nat => (n : Int)) (f1)))) ?_
      refine rNeed (d := 59) (x := .v (.bool (cond2 (cond2 (cond2 true true false) true false) true false))) rfl rfl rfl (fun h => h) ?_
      refine rOk (d := 60) (x := .v (.bool (cond2 (cond2 (cond2 true true false) true false) true false))) rfl rfl rfl ?_
      refine gOk (d := 61) (x := .ptr 18 0) (g := cond2 (cond2 (cond2 true true false) true false) true false) rfl rfl rfl rfl rfl rfl ?_
      refine gOkS (d := 62) (x := .v (.int .u32 ((S1.pc : Nat) : Int))) (g := cond2 (cond2 (cond2 true true false) true false) true false) rfl rfl rfl rfl (fun h => h) rfl rfl ?_
      refine gOk (d := 63) (x := .sl 1 (q.map rowU) (false && false)) (g := cond2 (cond2 (cond2 true true false) true false) true false) rfl rfl rfl rfl rfl rfl ?_
      refine gOkS (d := 64) (x := .v (.int .i64 ((q.length : Nat) : Int))) (g := cond2 (cond2 (cond2 true true false) true false) true false) rfl rfl rfl rfl (fun h => h) rfl (congrArg (fun n : Nat => Res.ok (.v (.int .i64 (n : Int)))) (List.length_map ..)) ?_
      have b14 : 4 * q.length ≤ 240 := Nat.mul_le_mul (Nat.le_refl 4) hql
      refine gOkS (d := 65) (x := .v (.int .i64 ((4 * q.length : Nat) : Int))) (g := cond2 (cond2 (cond2 true true false) true false) true false) rfl rfl rfl rfl (fun h => h) rfl (okI (wrapI64 b14 rfl)) ?_
      refine gOkS (d := 66) (x := .v (.int .u32 ((4 * q.length : Nat) : Int))) (g := cond2 (cond2 (cond2 true true false) true false) true false) rfl rfl rfl rfl (fun h => h) rfl (okI (modI b14 rfl)) ?_
      refine gOkS (d := 67) (x := .v (.bool true)) (g := cond2 (cond2 (cond2 true true false) true false) true false) rfl rfl rfl rfl (fun h => by simp_all) rfl (okB (beq_iff_eq.2 (congrArg (fun n : Nat => (n : Int)) (f2)))) ?_
      refine rNeed (d := 68) (x := .v (.bool (cond2 (cond2 (cond2 (cond2 true true false) true false) true false) true false))) rfl rfl rfl (fun h => h) ?_
      refine rOk (d := 2) (x := .v (.bool (cond2 (cond2 (cond2 (cond2 true true false) true false) true false) true false))) rfl rfl rfl ?_
      refine rEnd (n' := 52) rfl ?_
      refine cRet ?_
      exact retA_eq rfl trivial rfl rfl
end Go.Proofs.YtahnhhbgkmlfcaaDoor
