/- The law SeqReads: its walk. -/
import Derived.Test.YtahnhhbgkmlfcaaDoorReadsH
namespace Go.Proofs.YtahnhhbgkmlfcaaDoor
open Go.RowKit

set_option maxRecDepth 100000 in
set_option maxHeartbeats 4000000 in
theorem dLike6 (l : List Sp) (c1 c2 : Bool) (hl : l.length ≤ 1000000) : DCall C0 14 [.sl 9 (l.map spL) c1, .sl 9 (l.map spL) c2] (.v (.bool true)) := by
  refine DCall.intro c0Ok Tryd.func14 rfl rfl (by kernel_rfl) rfl ?_
  refine cSeq ?_
  refine cReg rfl ?_
  refine rOk (d := 4) (x := .v (.bool false)) rfl rfl rfl ?_
  refine rEnd (n' := 1) rfl ?_
  refine cSeq ?_
  refine cSeq ?_
  refine cReg rfl ?_
  refine rOk (d := 6) (x := .sl 9 (l.map spL) c1) rfl rfl rfl ?_
  refine rOk (d := 7) (x := .v (.int .i64 ((l.length : Nat) : Int))) rfl rfl (congrArg (fun n : Nat => Res.ok (.v (.int .i64 (n : Int)))) (List.length_map ..)) ?_
  refine rOk (d := 8) (x := .sl 9 (l.map spL) c2) rfl rfl rfl ?_
  refine rOk (d := 9) (x := .v (.int .i64 ((l.length : Nat) : Int))) rfl rfl (congrArg (fun n : Nat => Res.ok (.v (.int .i64 (n : Int)))) (List.length_map ..)) ?_
  refine rOk (d := 10) (x := .v (.bool (l.length != l.length))) rfl rfl (okB (neN _ _)) ?_
  refine rEnd (n' := 6) rfl ?_
  refine cCond (v := l.length != l.length) rfl (fun h1 => by simp at h1) (fun _ => ?_)
  refine cSkip ?_
  refine cSeq ?_
  refine cSeq ?_
  refine cReg rfl ?_
  refine rOk (d := 11) (x := .sl 9 (l.map spL) c1) rfl rfl rfl ?_
  refine rOk (d := 12) (x := .v (.int .i64 ((l.length : Nat) : Int))) rfl rfl (congrArg (fun n : Nat => Res.ok (.v (.int .i64 (n : Int)))) (List.length_map ..)) ?_
  refine rOk (d := 13) (x := .v (.int .i64 0)) rfl rfl rfl ?_
  refine rEnd (n' := 9) rfl ?_
  refine cBlock ?_
  refine cLoop (κ := Nat) (fun k => ⟨slotsF [(0, .sl 9 (l.map spL) c1), (1, .sl 9 (l.map spL) c2), (12, .v (.int .i64 ((l.length : Nat) : Int))), (13, .v (.int .i64 (k : Int)))], heapF [], 9⟩) (fun k => k ≤ l.length) (fun k => l.length - k) 0 (fun s => s) (Weak.of_lists (fun s => s) ⟨⟨rfl, rfl⟩, ⟨rfl, rfl⟩, ⟨rfl, rfl⟩, ⟨rfl, rfl⟩, trivial⟩ trivial rfl) (Nat.zero_le _) ?_
  intro k hk
  refine cSeq ?_
  refine cReg rfl ?_
  refine rOk (d := 14) (x := .v (.bool (decide ((k : Int) < ((l.length : Nat) : Int))))) rfl rfl rfl ?_
  refine rEnd (n' := 10) rfl ?_
  refine cSeq ?_
  refine cCond (v := decide ((k : Int) < ((l.length : Nat) : Int))) rfl (fun h2 => ?_) (fun h2 => ?_)
  · skip
    refine cSkip ?_
    refine cSeq ?_
    refine cBlock ?_
    refine cSeq ?_
    refine cReg rfl ?_
    refine rOk (d := 15) (x := .v (.int .i64 (k : Int))) rfl rfl rfl ?_
    refine rOk (d := 5) (x := .v (.int .i64 (k : Int))) rfl rfl rfl ?_
    refine rEnd (n' := 12) rfl ?_
    refine cSeq ?_
    refine cReg rfl ?_
    obtain ⟨x, hx⟩ : ∃ x, l[k]? = some x := ⟨_, List.getElem?_eq_getElem (Int.ofNat_lt.1 (of_decide_eq_true h2))⟩
    refine rOk (d := 16) (x := .sl 9 (l.map spL) c1) rfl rfl rfl ?_
    refine rOk (d := 17) (x := .v (.int .i64 (k : Int))) rfl rfl rfl ?_
    refine rIdx (spL x) (d := 18) (x := .dp 9 0 (spL x)) rfl rfl rfl (⟨Int.natCast_nonneg _, by rw [Int.toNat_natCast, List.getElem?_map, hx]; rfl⟩) rfl ?_
    refine rOk (d := 19) (x := .agg (spL x)) rfl rfl rfl ?_
    refine rOk (d := 20) (x := .sl 9 (l.map spL) c2) rfl rfl rfl ?_
    refine rOk (d := 21) (x := .v (.int .i64 (k : Int))) rfl rfl rfl ?_
    refine rIdx (spL x) (d := 22) (x := .dp 9 0 (spL x)) rfl rfl rfl (⟨Int.natCast_nonneg _, by rw [Int.toNat_natCast, List.getElem?_map, hx]; rfl⟩) rfl ?_
    refine rOk (d := 23) (x := .agg (spL x)) rfl rfl rfl ?_
    refine rOk (d := 24) (x := .v (.bool (!((((x.pc : Nat) : Int) == ((x.pc : Nat) : Int)) && ((((x.next : Nat) : Int) == ((x.next : Nat) : Int)) && ((x.rd == x.rd) && ((((x.value : Nat) : Int) == ((x.value : Nat) : Int)) && ((((x.addr : Nat) : Int) == ((x.addr : Nat) : Int)) && ((x.size == x.size) && ((x.store == x.store) && ((x.halt == x.halt) && ((x.took == x.took) && true)))))))))))) rfl rfl rfl ?_
    refine rEnd (n' := 21) rfl ?_
    refine cCond (v := !((((x.pc : Nat) : Int) == ((x.pc : Nat) : Int)) && ((((x.next : Nat) : Int) == ((x.next : Nat) : Int)) && ((x.rd == x.rd) && ((((x.value : Nat) : Int) == ((x.value : Nat) : Int)) && ((((x.addr : Nat) : Int) == ((x.addr : Nat) : Int)) && ((x.size == x.size) && ((x.store == x.store) && ((x.halt == x.halt) && ((x.took == x.took) && true)))))))))) rfl (fun h3 => by simp at h3) (fun _ => ?_)
    refine cSkip ?_
    refine cReg rfl ?_
    refine rOk (d := 25) (x := .v (.int .i64 (IntKind.wrap .i64 ((k : Int) + 1)))) rfl rfl rfl ?_
    refine rOk (d := 13) (x := .v (.int .i64 (IntKind.wrap .i64 ((k : Int) + 1)))) rfl rfl rfl ?_
    refine rEnd (n' := 23) rfl ?_
    refine ⟨k + 1, fun s => s, Weak.of_lists (fun s => s) ⟨⟨rfl, rfl⟩, ⟨rfl, rfl⟩, ⟨rfl, rfl⟩, ⟨slot_inc k (by have := Int.ofNat_lt.1 (of_decide_eq_true h2); omega), rfl⟩, trivial⟩ trivial rfl, Int.ofNat_lt.1 (of_decide_eq_true h2), by have := Int.ofNat_lt.1 (of_decide_eq_true h2); show l.length - (k + 1) < l.length - k; omega⟩
  · skip
    refine cExit ?_
    refine cSeq ?_
    refine cReg rfl ?_
    refine rOk (d := 4) (x := .v (.bool true)) rfl rfl rfl ?_
    refine rEnd (n' := 11) rfl ?_
    refine cRet ?_
    exact retA_eq rfl trivial rfl rfl
set_option maxRecDepth 100000 in
set_option maxHeartbeats 4000000 in
theorem dSeqReads (prog : List Nat) (m : ByteArray) (n ix : Int) (wb : Nat) (hp : ∀ x ∈ prog, x ≤ 4294967295) (hl : prog.length ≤ maxLen) (hm : m.size < 9223372036854775808) (hwb : wb ≤ 255) : DCall C0 5 [.sl 1 (prog.map rowU) false, .v (.string m), .v (.int .i64 n), .v (.int .i64 ix), .v (.int .u8 ((wb : Nat) : Int))] (.v (.bool true)) := by
  refine DCall.intro c0Ok Tryd.func5 rfl rfl (by kernel_rfl) rfl ?_
  have hcap := capK_le n 200 (by decide)
  have hP : ∀ x ∈ (prog.take 64), x ≤ 4294967295 := fun x h => hp x (List.mem_of_mem_take h)
  have hPl : (prog.take 64).length ≤ 1000000 := by rw [List.length_take]; omega
  obtain ⟨L1, hL1⟩ : ∃ L, runL (prog.take 64) (m.extract 0 (min m.size 300)) (capK n 200) = L := ⟨_, rfl⟩
  obtain ⟨S1, hS1⟩ : ∃ s, lastOf (newS (m.extract 0 (min m.size 300))) L1 = s := ⟨_, rfl⟩
  have hrunL1 := dRun (prog.take 64) (m.extract 0 (min m.size 300)) (capK n 200) false hP hPl
  rw [hL1, hS1] at hrunL1
  have hL1s : stepsL (prog.take 64) (capK n 200).toNat (newS (m.extract 0 (min m.size 300))) = L1 := by rw [← hL1]; unfold runL; rw [capN_id (by omega)]
  have hL1l : L1.length ≤ 10000 := by rw [← hL1]; exact runL_len _ _ _
  have hz1 := newS_cases (m.extract 0 (min m.size 300))
  have hz2 := newS_with (m.extract 0 (min m.size 300))
  have hz3 := dNewS (.sl 1 ((prog.take 64).map rowU) false) (m.extract 0 (min m.size 300))
  have hz4 := newS_ok (m.extract 0 (min m.size 300))
  have hz5 := last_msize (prog := (prog.take 64)) (capK n 200).toNat (newS (m.extract 0 (min m.size 300)))
  obtain ⟨Z, hZ⟩ : ∃ z, newS (m.extract 0 (min m.size 300)) = z := ⟨_, rfl⟩
  rw [hZ] at hz1 hz2 hz3 hz4 hz5 hL1s hS1
  clear hZ
  rw [hL1s, hS1] at hz5
  have hok1 : S1.ok := by rw [← hS1, ← hL1s]; exact lastOf_ok _ _ hz4
  obtain ⟨K, hK⟩ : ∃ K, S1.mem.size = K := ⟨_, rfl⟩
  have hKn : Z.mem.size = K := by rw [← hK, hz5]
  rw [hKn] at hz1
  have hK0 : 16 ≤ K := by omega
  have hKle : K ≤ 256 := by omega
  obtain ⟨hm1, at2, hat, hatl⟩ := atK (ix := ix) (K := K) (by omega)
  have hbd : ∀ x ∈ (L1.map (·.2)), x.addr ≤ 4294967295 ∧ 0 ≤ x.size ∧ x.size ≤ 4 := by rw [← hL1s]; exact steps_bounds _ _
  obtain ⟨L2, hL2⟩ : ∃ L, runL (prog.take 64) (⟨(Z.mem.data.toList.set at2 (UInt8.ofNat wb)).toArray⟩ : ByteArray) (capK n 200) = L := ⟨_, rfl⟩
  obtain ⟨T1, hT1⟩ : ∃ s, lastOf (newS (⟨(Z.mem.data.toList.set at2 (UInt8.ofNat wb)).toArray⟩ : ByteArray)) L2 = s := ⟨_, rfl⟩
  have hrunL2 := dRun (prog.take 64) (⟨(Z.mem.data.toList.set at2 (UInt8.ofNat wb)).toArray⟩ : ByteArray) (capK n 200) false hP hPl
  rw [hL2, hT1] at hrunL2
  have hL2s : stepsL (prog.take 64) (capK n 200).toNat (newS (⟨(Z.mem.data.toList.set at2 (UInt8.ofNat wb)).toArray⟩ : ByteArray)) = L2 := by rw [← hL2]; unfold runL; rw [capN_id (by omega)]
  have hL2l : L2.length ≤ 10000 := by rw [← hL2]; exact runL_len _ _ _
  refine cSeq ?_
  refine cReg rfl ?_
  refine rOk (d := 10) (x := .v (.bool false)) rfl rfl rfl ?_
  refine rEnd (n' := 1) rfl ?_
  refine cSeq ?_
  refine cReg rfl ?_
  refine rOk (d := 22) (x := .sl 1 (prog.map rowU) false) rfl rfl rfl ?_
  refine rOk (d := 23) (x := .v (.string m)) rfl rfl rfl ?_
  refine rCall (args := [.sl 1 (prog.map rowU) false, .v (.string m)]) (d := 24) (x := .tup [.sl 1 ((prog.take 64).map rowU) false, .v (.string (m.extract 0 (min m.size 300)))]) rfl rfl rfl rfl (.inl rfl) rfl (dShort prog m false hl hm) ?_
  refine rOk (d := 21) (x := .tup [.sl 1 ((prog.take 64).map rowU) false, .v (.string (m.extract 0 (min m.size 300)))]) rfl rfl rfl ?_
  refine rOk (d := 25) (x := .sl 1 ((prog.take 64).map rowU) false) rfl rfl rfl ?_
  refine rOk (d := 26) (x := .v (.string (m.extract 0 (min m.size 300)))) rfl rfl rfl ?_
  refine rOk (d := 0) (x := .sl 1 ((prog.take 64).map rowU) false) rfl rfl rfl ?_
  refine rOk (d := 1) (x := .v (.string (m.extract 0 (min m.size 300)))) rfl rfl rfl ?_
  refine rEnd (n' := 9) rfl ?_
  refine cSeq ?_
  refine cReg rfl ?_
  refine rOk (d := 27) (x := .v (.int .i64 n)) rfl rfl rfl ?_
  refine rOk (d := 28) (x := .v (.int .i64 (if (0 : Int) > n then 0 else n))) rfl rfl rfl ?_
  refine rOk (d := 29) (x := .v (.int .i64 (capK n 200))) rfl rfl rfl ?_
  refine rOk (d := 2) (x := .v (.int .i64 (capK n 200))) rfl rfl rfl ?_
  refine rEnd (n' := 13) rfl ?_
  refine cSeq ?_
  refine cReg rfl ?_
  refine rOk (d := 31) (x := .sl 1 ((prog.take 64).map rowU) false) rfl rfl rfl ?_
  refine rOk (d := 32) (x := .v (.string (m.extract 0 (min m.size 300)))) rfl rfl rfl ?_
  refine rOk (d := 33) (x := .v (.int .i64 (capK n 200))) rfl rfl rfl ?_
  refine rCall (args := [.sl 1 ((prog.take 64).map rowU) false, .v (.string (m.extract 0 (min m.size 300))), .v (.int .i64 (capK n 200))]) (d := 34) (x := .tup [.agg (stL S1.pc S1.r S1.mem S1.halt), .sl 9 (L1.map rowS) false]) rfl rfl rfl rfl (.inl rfl) rfl (hrunL1) ?_
  refine rOk (d := 30) (x := .tup [.agg (stL S1.pc S1.r S1.mem S1.halt), .sl 9 (L1.map rowS) false]) rfl rfl rfl ?_
  refine rOk (d := 35) (x := .agg (stL S1.pc S1.r S1.mem S1.halt)) rfl rfl rfl ?_
  refine rOk (d := 36) (x := .sl 9 (L1.map rowS) false) rfl rfl rfl ?_
  refine rFx (d := 11) (x := .ptr 20 0) (h' := upd _ 20 (some (.box (stL 0 (fun _ => 0) (⟨#[]⟩) 0)))) rfl rfl (rfl) (trivial) ?_
  refine rFx0 (h' := upd _ 20 (some (.box (stL S1.pc S1.r S1.mem S1.halt)))) rfl rfl (rfl) (trivial) ?_
  refine rOk (d := 12) (x := .sl 9 (L1.map rowS) false) rfl rfl rfl ?_
  refine rEnd (n' := 23) rfl ?_
  refine cSeq ?_
  refine cReg rfl ?_
  refine rOk (d := 37) (x := .ptr 20 33) rfl rfl rfl ?_
  refine rOk (d := 38) (x := .v (.string S1.mem)) rfl rfl rfl ?_
  refine rOk (d := 39) (x := .v (.int .i64 ((K : Nat) : Int))) rfl rfl (congrArg (fun n : Nat => Res.ok (.v (.int .i64 (n : Int)))) hK) ?_
  refine rOk (d := 13) (x := .v (.int .i64 ((K : Nat) : Int))) rfl rfl rfl ?_
  refine rEnd (n' := 27) rfl ?_
  refine cSeq ?_
  refine cSeq ?_
  refine cReg rfl ?_
  refine rOk (d := 40) (x := .v (.int .i64 ((K : Nat) : Int))) rfl rfl rfl ?_
  refine rOk (d := 41) (x := .v (.bool (K == 0))) rfl rfl (okB (eqN _ _)) ?_
  refine rEnd (n' := 29) rfl ?_
  refine cCond (v := K == 0) rfl (fun h1 => by simp at h1; omega) (fun _ => ?_)
  refine cSkip ?_
  refine cSeq ?_
  refine cReg rfl ?_
  refine rOk (d := 42) (x := .v (.int .i64 ix)) rfl rfl rfl ?_
  refine rOk (d := 43) (x := .v (.int .i64 ((K : Nat) : Int))) rfl rfl rfl ?_
  refine rNeed (d := 44) (x := .v (.int .i64 (Int.tmod ix ((K : Nat) : Int)))) rfl rfl rfl (by omega) ?_
  refine rOk (d := 45) (x := .v (.int .i64 ((K : Nat) : Int))) rfl rfl rfl ?_
  refine rOk (d := 46) (x := .v (.int .i64 (Int.tmod ix (K : Int) + (K : Int)))) rfl rfl (okI (wrap_i64 (by omega) (by omega))) ?_
  refine rOk (d := 47) (x := .v (.int .i64 ((K : Nat) : Int))) rfl rfl rfl ?_
  refine rNeed (d := 48) (x := .v (.int .i64 ((at2 : Nat) : Int))) rfl rfl (needI hat) (by omega) ?_
  refine rOk (d := 3) (x := .v (.int .i64 ((at2 : Nat) : Int))) rfl rfl rfl ?_
  refine rEnd (n' := 37) rfl ?_
  refine cSeq ?_
  refine cReg rfl ?_
  refine rOk (d := 14) (x := .v (.bool false)) rfl rfl rfl ?_
  refine rEnd (n' := 38) rfl ?_
  refine cSeq ?_
  refine cSeq ?_
  refine cReg rfl ?_
  refine rOk (d := 49) (x := .sl 9 (L1.map rowS) false) rfl rfl rfl ?_
  refine rOk (d := 50) (x := .v (.int .i64 ((L1.length : Nat) : Int))) rfl rfl (congrArg (fun n : Nat => Res.ok (.v (.int .i64 (n : Int)))) (List.length_map ..)) ?_
  refine rOk (d := 51) (x := .v (.int .i64 0)) rfl rfl rfl ?_
  refine rEnd (n' := 41) rfl ?_
  refine cBlock ?_
  refine cLoop (κ := Nat × Bool) (fun q => ⟨slotsF [(0, .sl 1 ((prog.take 64).map rowU) false), (1, .v (.string (m.extract 0 (min m.size 300)))), (2, .v (.int .i64 (capK n 200))), (3, .v (.int .i64 ((at2 : Nat) : Int))), (4, .v (.int .u8 ((wb : Nat) : Int))), (12, .sl 9 (L1.map rowS) false), (13, .v (.int .i64 ((K : Nat) : Int))), (14, .v (.bool q.2)), (49, .sl 9 (L1.map rowS) false), (50, .v (.int .i64 ((L1.length : Nat) : Int))), (51, .v (.int .i64 (q.1 : Int)))], heapF [], 41⟩) (fun q => q.1 ≤ L1.length ∧ (okR at2 q.2 ((L1.map (·.2)).drop q.1) → okR at2 false (L1.map (·.2)))) (fun q => L1.length - q.1) (0, false) (fun s => s) (Weak.of_lists (fun s => s) ⟨⟨rfl, rfl⟩, ⟨rfl, rfl⟩, ⟨rfl, rfl⟩, ⟨rfl, rfl⟩, ⟨rfl, rfl⟩, ⟨rfl, rfl⟩, ⟨rfl, rfl⟩, ⟨rfl, rfl⟩, ⟨rfl, rfl⟩, ⟨rfl, rfl⟩, ⟨rfl, rfl⟩, trivial⟩ trivial rfl) (⟨Nat.zero_le _, fun h => h⟩) ?_
  intro q hq
  refine cSeq ?_
  refine cReg rfl ?_
  refine rOk (d := 52) (x := .v (.bool (decide ((q.1 : Int) < ((L1.length : Nat) : Int))))) rfl rfl rfl ?_
  refine rEnd (n' := 42) rfl ?_
  refine cSeq ?_
  refine cCond (v := decide ((q.1 : Int) < ((L1.length : Nat) : Int))) rfl (fun h2 => ?_) (fun h2 => ?_)
  · skip
    refine cSkip ?_
    refine cSeq ?_
    refine cBlock ?_
    refine cSeq ?_
    refine cReg rfl ?_
    obtain ⟨x, hx⟩ : ∃ x, (L1.map (·.2))[q.1]? = some x := ⟨_, List.getElem?_eq_getElem (by rw [List.length_map]; exact Int.ofNat_lt.1 (of_decide_eq_true h2))⟩
    obtain ⟨hb1, hb2, hb3⟩ := hbd x (List.mem_of_getElem? hx)
    refine rIdx (spL x) (d := 53) (x := .dp 9 0 (spL x)) rfl rfl rfl (⟨Int.natCast_nonneg _, by rw [Int.toNat_natCast, show L1.map rowS = (L1.map (·.2)).map spL by rw [List.map_map]; rfl, List.getElem?_map, hx]; rfl⟩) rfl ?_
    refine rOk (d := 54) (x := .agg (spL x)) rfl rfl rfl ?_
    refine rFx (d := 16) (x := .ptr 44 0) (h' := upd _ 44 (some (.box [.v (.int .u32 0), .v (.int .u32 0), .v (.int .i64 0), .v (.int .u32 0), .v (.int .u32 0), .v (.int .i64 0), .v (.bool false), .v (.int .i64 0), .v (.int .i64 0)]))) rfl rfl (rfl) (trivial) ?_
    refine rFx0 (h' := upd _ 44 (some (.box [.v (.int .u32 ((x.pc : Nat) : Int)), .v (.int .u32 ((x.next : Nat) : Int)), .v (.int .i64 x.rd), .v (.int .u32 ((x.value : Nat) : Int)), .v (.int .u32 ((x.addr : Nat) : Int)), .v (.int .i64 x.size), .v (.bool x.store), .v (.int .i64 x.halt), .v (.int .i64 x.took)]))) rfl rfl (rfl) (trivial) ?_
    refine rEnd (n' := 46) rfl ?_
    refine cSeq ?_
    refine cReg rfl ?_
    refine rOk (d := 55) (x := .ptr 44 5) rfl rfl rfl ?_
    refine rOk (d := 56) (x := .v (.int .i64 x.size)) rfl rfl rfl ?_
    refine rOk (d := 57) (x := .v (.bool (decide (x.size > 0)))) rfl rfl rfl ?_
    refine rOk (d := 58) (x := .v (.bool (decide (x.size > 0)))) rfl rfl rfl ?_
    refine gOk (d := 59) (x := .ptr 44 4) (g := decide (x.size > 0)) rfl rfl rfl rfl rfl rfl ?_
    refine gOkS (d := 60) (x := .v (.int .u32 ((x.addr : Nat) : Int))) (g := decide (x.size > 0)) rfl rfl rfl rfl (fun h => h) rfl rfl ?_
    refine gOkS (d := 61) (x := .v (.int .i64 (x.addr : Int))) (g := decide (x.size > 0)) rfl rfl rfl rfl (fun h => h) rfl (okI (wrap_i64 (by omega) (by omega))) ?_
    refine gOk (d := 62) (x := .v (.int .i64 ((at2 : Nat) : Int))) (g := decide (x.size > 0)) rfl rfl rfl rfl rfl rfl ?_
    refine gOkS (d := 63) (x := .v (.bool (decide ((x.addr : Int) ≤ ((at2 : Nat) : Int))))) (g := decide (x.size > 0)) rfl rfl rfl rfl (fun h => by simp_all) rfl rfl ?_
    refine rNeed (d := 64) (x := .v (.bool (cond2 (decide (x.size > 0)) (decide ((x.addr : Int) ≤ ((at2 : Nat) : Int))) false))) rfl rfl rfl (fun h => h) ?_
    refine rOk (d := 65) (x := .v (.bool (cond2 (decide (x.size > 0)) (decide ((x.addr : Int) ≤ ((at2 : Nat) : Int))) false))) rfl rfl rfl ?_
    refine gOk (d := 66) (x := .v (.int .i64 ((at2 : Nat) : Int))) (g := cond2 (decide (x.size > 0)) (decide ((x.addr : Int) ≤ ((at2 : Nat) : Int))) false) rfl rfl rfl rfl rfl rfl ?_
    refine gOk (d := 67) (x := .ptr 44 4) (g := cond2 (decide (x.size > 0)) (decide ((x.addr : Int) ≤ ((at2 : Nat) : Int))) false) rfl rfl rfl rfl rfl rfl ?_
    refine gOkS (d := 68) (x := .v (.int .u32 ((x.addr : Nat) : Int))) (g := cond2 (decide (x.size > 0)) (decide ((x.addr : Int) ≤ ((at2 : Nat) : Int))) false) rfl rfl rfl rfl (fun h => h) rfl rfl ?_
    refine gOkS (d := 69) (x := .v (.int .i64 (x.addr : Int))) (g := cond2 (decide (x.size > 0)) (decide ((x.addr : Int) ≤ ((at2 : Nat) : Int))) false) rfl rfl rfl rfl (fun h => h) rfl (okI (wrap_i64 (by omega) (by omega))) ?_
    refine gOk (d := 70) (x := .ptr 44 5) (g := cond2 (decide (x.size > 0)) (decide ((x.addr : Int) ≤ ((at2 : Nat) : Int))) false) rfl rfl rfl rfl rfl rfl ?_
    refine gOkS (d := 71) (x := .v (.int .i64 x.size)) (g := cond2 (decide (x.size > 0)) (decide ((x.addr : Int) ≤ ((at2 : Nat) : Int))) false) rfl rfl rfl rfl (fun h => h) rfl rfl ?_
    refine gOkS (d := 72) (x := .v (.int .i64 ((x.addr : Int) + x.size))) (g := cond2 (decide (x.size > 0)) (decide ((x.addr : Int) ≤ ((at2 : Nat) : Int))) false) rfl rfl rfl rfl (fun h => by simp_all) rfl (okI (wrap_i64 (by omega) (by omega))) ?_
    refine gOkS (d := 73) (x := .v (.bool (decide (((at2 : Nat) : Int) < ((x.addr : Int) + x.size))))) (g := cond2 (decide (x.size > 0)) (decide ((x.addr : Int) ≤ ((at2 : Nat) : Int))) false) rfl rfl rfl rfl (fun h => by simp_all) rfl rfl ?_
    refine rNeed (d := 74) (x := .v (.bool (cond2 (cond2 (decide (x.size > 0)) (decide ((x.addr : Int) ≤ ((at2 : Nat) : Int))) false) (decide (((at2 : Nat) : Int) < ((x.addr : Int) + x.size))) false))) rfl rfl rfl (fun h => h) ?_
    refine rOk (d := 17) (x := .v (.bool (decide (touch at2 x)))) rfl rfl (okB (touch_eq at2 x)) ?_
    refine rEnd (n' := 67) rfl ?_
    refine cSeq ?_
    refine cReg rfl ?_
    refine rOk (d := 75) (x := .v (.bool (decide (touch at2 x)))) rfl rfl rfl ?_
    refine rOk (d := 76) (x := .v (.bool (decide (touch at2 x)))) rfl rfl rfl ?_
    refine gOk (d := 77) (x := .ptr 44 6) (g := decide (touch at2 x)) rfl rfl rfl rfl rfl rfl ?_
    refine gOkS (d := 78) (x := .v (.bool x.store)) (g := decide (touch at2 x)) rfl rfl rfl rfl (fun h => h) rfl rfl ?_
    refine rNeed (d := 79) (x := .v (.bool (cond2 (decide (touch at2 x)) x.store false))) rfl rfl rfl (fun h => h) ?_
    refine rEnd (n' := 72) rfl ?_
    refine cCond (v := cond2 (decide (touch at2 x)) x.store false) rfl (fun h3 => ?_) (fun h3 => ?_)
    · skip
      refine cReg rfl ?_
      refine rOk (d := 14) (x := .v (.bool true)) rfl rfl rfl ?_
      refine rEnd (n' := 73) rfl ?_
      refine cReg rfl ?_
      refine rOk (d := 86) (x := .v (.int .i64 (IntKind.wrap .i64 ((q.1 : Int) + 1)))) rfl rfl rfl ?_
      refine rOk (d := 51) (x := .v (.int .i64 (IntKind.wrap .i64 ((q.1 : Int) + 1)))) rfl rfl rfl ?_
      refine rEnd (n' := 75) rfl ?_
      refine ⟨(q.1 + 1, true), fun s => s, Weak.of_lists (fun s => s) ⟨⟨rfl, rfl⟩, ⟨rfl, rfl⟩, ⟨rfl, rfl⟩, ⟨rfl, rfl⟩, ⟨rfl, rfl⟩, ⟨rfl, rfl⟩, ⟨rfl, rfl⟩, ⟨rfl, rfl⟩, ⟨rfl, rfl⟩, ⟨rfl, rfl⟩, ⟨slot_inc q.1 (by have := Int.ofNat_lt.1 (of_decide_eq_true h2); omega), rfl⟩, trivial⟩ trivial rfl, ⟨Int.ofNat_lt.1 (of_decide_eq_true h2), fun hr => hq.2 (by rw [okR_step (at' := at2) (st := q.2) hx]; unfold okR; rw [if_pos (by have := cond2_and h3; exact ⟨of_decide_eq_true this.1, this.2⟩)]; exact hr)⟩, by have := Int.ofNat_lt.1 (of_decide_eq_true h2); show L1.length - (q.1 + 1) < L1.length - q.1; omega⟩
    · skip
      refine cSeq ?_
      refine cReg rfl ?_
      refine rOk (d := 80) (x := .v (.bool (decide (touch at2 x)))) rfl rfl rfl ?_
      refine rOk (d := 81) (x := .v (.bool (decide (touch at2 x)))) rfl rfl rfl ?_
      refine gOk (d := 82) (x := .v (.bool q.2)) (g := decide (touch at2 x)) rfl rfl rfl rfl rfl rfl ?_
      refine gOkS (d := 83) (x := .v (.bool (!q.2))) (g := decide (touch at2 x)) rfl rfl rfl rfl (fun h => h) rfl rfl ?_
      refine rNeed (d := 84) (x := .v (.bool (cond2 (decide (touch at2 x)) (!q.2) false))) rfl rfl rfl (fun h => h) ?_
      refine rEnd (n' := 77) rfl ?_
      refine cCond (v := cond2 (decide (touch at2 x)) (!q.2) false) rfl (fun h4 => ?_) (fun h4 => ?_)
      · skip
        refine cSeq ?_
        refine cReg rfl ?_
        refine rCall (args := []) (d := 85) (x := .v (.bool true)) rfl rfl rfl rfl (.inl rfl) rfl (dAlive6) ?_
        refine rOk (d := 10) (x := .v (.bool true)) rfl rfl rfl ?_
        refine rEnd (n' := 79) rfl ?_
        refine cRet ?_
        exact retA_eq rfl trivial rfl rfl
      · skip
        refine cSkip ?_
        refine cReg rfl ?_
        refine rOk (d := 86) (x := .v (.int .i64 (IntKind.wrap .i64 ((q.1 : Int) + 1)))) rfl rfl rfl ?_
        refine rOk (d := 51) (x := .v (.int .i64 (IntKind.wrap .i64 ((q.1 : Int) + 1)))) rfl rfl rfl ?_
        refine rEnd (n' := 79) rfl ?_
        refine ⟨(q.1 + 1, q.2), fun s => s, Weak.of_lists (fun s => s) ⟨⟨rfl, rfl⟩, ⟨rfl, rfl⟩, ⟨rfl, rfl⟩, ⟨rfl, rfl⟩, ⟨rfl, rfl⟩, ⟨rfl, rfl⟩, ⟨rfl, rfl⟩, ⟨rfl, rfl⟩, ⟨rfl, rfl⟩, ⟨rfl, rfl⟩, ⟨slot_inc q.1 (by have := Int.ofNat_lt.1 (of_decide_eq_true h2); omega), rfl⟩, trivial⟩ trivial rfl, ⟨Int.ofNat_lt.1 (of_decide_eq_true h2), fun hr => hq.2 (by rw [okR_step (at' := at2) (st := q.2) hx]; unfold okR; rw [if_neg (fun h => by rw [show decide (touch at2 x) = true from decide_eq_true h.1, h.2] at h3; exact absurd h3 (by decide))]; exact ⟨fun ht => (by rw [show decide (touch at2 x) = true from decide_eq_true ht] at h4; cases hb : q.2 with | true => rfl | false => rw [hb] at h4; exact absurd h4 (by decide)), hr⟩)⟩, by have := Int.ofNat_lt.1 (of_decide_eq_true h2); show L1.length - (q.1 + 1) < L1.length - q.1; omega⟩
  · skip
    refine cExit ?_
    refine cSeq ?_
    refine cReg rfl ?_
    refine rOk (d := 87) (x := .sl 1 ((prog.take 64).map rowU) false) rfl rfl rfl ?_
    refine rOk (d := 88) (x := .v (.string (m.extract 0 (min m.size 300)))) rfl rfl rfl ?_
    refine rCall (args := [.sl 1 ((prog.take 64).map rowU) false, .v (.string (m.extract 0 (min m.size 300)))]) (d := 89) (x := .agg (stL Z.pc Z.r Z.mem Z.halt)) rfl rfl rfl rfl (.inl rfl) rfl (hz3) ?_
    refine rOk (d := 90) (x := .v (.string Z.mem)) rfl rfl rfl ?_
    refine rFx (d := 91) (x := .osl 46 0 Z.mem.size false) (h' := upd _ 46 (some (.arr (rowsOfBytes Z.mem) 1))) rfl rfl (rfl) (by show Z.mem.size ≤ 1000000; omega) ?_
    refine rOk (d := 18) (x := .osl 46 0 Z.mem.size false) rfl rfl rfl ?_
    refine rEnd (n' := 48) rfl ?_
    refine cSeq ?_
    refine cSeq ?_
    refine cReg rfl ?_
    refine rOk (d := 92) (x := .osl 46 0 Z.mem.size false) rfl rfl rfl ?_
    refine rOk (d := 93) (x := .v (.int .i64 ((Z.mem.size : Nat) : Int))) rfl rfl rfl ?_
    refine rOk (d := 94) (x := .v (.int .i64 ((K : Nat) : Int))) rfl rfl rfl ?_
    refine rOk (d := 95) (x := .v (.bool (((Z.mem.size : Nat) : Int) != ((K : Nat) : Int)))) rfl rfl rfl ?_
    refine rEnd (n' := 52) rfl ?_
    refine cCond (v := ((Z.mem.size : Nat) : Int) != ((K : Nat) : Int)) rfl (fun h5 => by simp at h5; omega) (fun _ => ?_)
    refine cSkip ?_
    refine cSeq ?_
    refine cReg rfl ?_
    refine rOk (d := 96) (x := .osl 46 0 Z.mem.size false) rfl rfl rfl ?_
    refine rOk (d := 97) (x := .v (.int .i64 ((at2 : Nat) : Int))) rfl rfl rfl ?_
    refine rOk (d := 98) (x := .v (.int .u8 ((wb : Nat) : Int))) rfl rfl rfl ?_
    refine rNeed (d := 99) (x := .ptr2 46 (0 + at2) 0) rfl rfl rfl (⟨Int.natCast_nonneg _, by show ((at2 : Nat) : Int) < ((Z.mem.size : Nat) : Int); omega⟩) ?_
    refine rIdxFx ([.v (.int .u8 ((Z.mem.data.toList.getD at2 0).toNat : Int))]) (h' := upd _ 46 (some (.arr ((rowsOfBytes Z.mem).set (0 + at2) [.v (.int .u8 ((wb : Nat) : Int))]) 1))) rfl rfl rfl (⟨Int.natCast_nonneg _, by rw [Int.toNat_natCast, Nat.zero_add]; exact rows_at _ _ (by omega)⟩) rfl ?_
    refine rEnd (n' := 57) rfl ?_
    refine cSeq ?_
    refine cReg rfl ?_
    refine rOk (d := 101) (x := .sl 1 ((prog.take 64).map rowU) false) rfl rfl rfl ?_
    refine rOk (d := 102) (x := .osl 46 0 Z.mem.size false) rfl rfl rfl ?_
    refine rStr (Z.mem.data.toList.set at2 (UInt8.ofNat wb)) (d := 103) rfl rfl rfl (by show 0 + Z.mem.size ≤ List.length ((rowsOfBytes Z.mem).set (0 + at2) [AV.v (.int .u8 ((wb : Nat) : Int))]); rw [List.length_set, rows_len]; omega) (set_rows _ _ _ hwb) ?_
    refine rOk (d := 104) (x := .v (.int .i64 (capK n 200))) rfl rfl rfl ?_
    refine rCall (args := [.sl 1 ((prog.take 64).map rowU) false, .v (.string (⟨(Z.mem.data.toList.set at2 (UInt8.ofNat wb)).toArray⟩ : ByteArray)), .v (.int .i64 (capK n 200))]) (d := 105) (x := .tup [.agg (stL T1.pc T1.r T1.mem T1.halt), .sl 9 (L2.map rowS) false]) rfl rfl rfl rfl (.inl rfl) rfl (hrunL2) ?_
    refine rOk (d := 100) (x := .tup [.agg (stL T1.pc T1.r T1.mem T1.halt), .sl 9 (L2.map rowS) false]) rfl rfl rfl ?_
    refine rOk (d := 106) (x := .agg (stL T1.pc T1.r T1.mem T1.halt)) rfl rfl rfl ?_
    refine rOk (d := 107) (x := .sl 9 (L2.map rowS) false) rfl rfl rfl ?_
    refine rFx (d := 19) (x := .ptr 65 0) (h' := upd _ 65 (some (.box (stL 0 (fun _ => 0) (⟨#[]⟩) 0)))) rfl rfl (rfl) (trivial) ?_
    refine rFx0 (h' := upd _ 65 (some (.box (stL T1.pc T1.r T1.mem T1.halt)))) rfl rfl (rfl) (trivial) ?_
    refine rOk (d := 20) (x := .sl 9 (L2.map rowS) false) rfl rfl rfl ?_
    refine rEnd (n' := 68) rfl ?_
    refine cSeq ?_
    refine cReg rfl ?_
    have hrd : okR at2 false (L1.map (·.2)) := hq.2 (by rw [List.drop_eq_nil_of_le (by rw [List.length_map]; have := of_decide_eq_false h2; have := hq.1; omega)]; trivial)
    have hm2 : newS (⟨(Z.mem.data.toList.set at2 (UInt8.ofNat wb)).toArray⟩ : ByteArray) = Z.with (⟨(Z.mem.data.toList.set at2 (UInt8.ofNat wb)).toArray⟩ : ByteArray) := hz2 _ (but_set Z.mem at2 (UInt8.ofNat wb)).size
    have hsame := reads_same (prog := (prog.take 64)) (capK n 200).toNat Z (⟨(Z.mem.data.toList.set at2 (UInt8.ofNat wb)).toArray⟩ : ByteArray) (but_set Z.mem at2 (UInt8.ofNat wb)) (by rw [hL1s]; exact hrd)
    rw [← hm2, hL2s, hL1s] at hsame
    have hlike := dLike6 (L1.map (·.2)) false false (by rw [List.length_map]; omega)
    have hlike2 : DCall C0 14 [.sl 9 (L1.map rowS) false, .sl 9 (L2.map rowS) false] (.v (.bool true)) := by rw [show L1.map rowS = (L1.map (·.2)).map spL by rw [List.map_map]; rfl, show L2.map rowS = (L2.map (·.2)).map spL by rw [List.map_map]; rfl, hsame]; exact hlike
    refine rCall (args := []) (d := 108) (x := .v (.bool true)) rfl rfl rfl rfl (.inl rfl) rfl (dAlive6) ?_
    refine rOk (d := 109) (x := .v (.bool true)) rfl rfl rfl ?_
    refine gOk (d := 110) (x := .sl 9 (L1.map rowS) false) (g := true) rfl rfl rfl rfl rfl rfl ?_
    refine gOk (d := 111) (x := .sl 9 (L2.map rowS) false) (g := true) rfl rfl rfl rfl rfl rfl ?_
    refine gCallS (args := [.sl 9 (L1.map rowS) false, .sl 9 (L2.map rowS) false]) (d := 112) (x := .v (.bool true)) (g := true) rfl rfl rfl rfl (fun h => by simp_all) rfl rfl rfl (.inl rfl) rfl (fun hg => hlike2) ?_
    refine rNeed (d := 113) (x := .v (.bool (cond2 true true false))) rfl rfl rfl (fun h => h) ?_
    refine rOk (d := 10) (x := .v (.bool (cond2 true true false))) rfl rfl rfl ?_
    refine rEnd (n' := 75) rfl ?_
    refine cRet ?_
    exact retA_eq rfl trivial rfl rfl
end Go.Proofs.YtahnhhbgkmlfcaaDoor
