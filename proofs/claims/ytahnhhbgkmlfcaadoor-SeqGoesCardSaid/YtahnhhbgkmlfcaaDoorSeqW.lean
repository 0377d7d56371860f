/- Package seq: walks on the second machine. -/
import Derived.Test.YtahnhhbgkmlfcaaDoorSeqM
namespace Go.Proofs.YtahnhhbgkmlfcaaDoor
open Go.RowKit

abbrev rowU (n : Nat) : List AV := [.v (.int .u32 (n : Int))]
theorem bytesOfRows_map : ∀ (l : List UInt8), bytesOfRows (l.map fun b => [.v (.int .u8 (b.toNat : Int))]) = some l
  | [] => rfl
  | b :: l => by
    simp only [List.map_cons, bytesOfRows, bytesOfRows_map l]
    simp
theorem finTA {C : Ctx} {fn : Func} {r : AV} {st : ASt} {rs : List AV} (h1 : resA C st fn.results.toList = some rs) (h2 : lenOkA st.h (retA rs)) (h3 : closedA (datA st.h (retA rs)) = true) (h4 : datA st.h (retA rs) = r) : RetA C fn r st := retA_eq h1 h2 h3 h4

set_option maxRecDepth 100000 in
set_option maxHeartbeats 4000000 in
theorem dReads (i : SI) : DCall C0 28 [siA i] (.tup [.v (.int .i64 i.rs1), .v (.int .i64 i.rs2)]) := by
  refine DCall.intro c0Ok Tryd.func28 rfl rfl (by kernel_rfl) rfl ?_
  refine cSeq ?_
  refine cReg rfl ?_
  refine rFx (d := 1) (x := .ptr 0 0) (h' := upd _ 0 (some (.box [.v (.int .i64 i.op), .v (.int .i64 i.rd), .v (.int .i64 i.rs1), .v (.int .i64 i.rs2), .v (.int .u32 ((i.imm : Nat) : Int))]))) rfl rfl (rfl) (trivial) ?_
  refine rOk (d := 2) (x := .v (.int .i64 0)) rfl rfl rfl ?_
  refine rOk (d := 3) (x := .v (.int .i64 0)) rfl rfl rfl ?_
  refine rEnd (n' := 3) rfl ?_
  refine cSeq ?_
  refine cReg rfl ?_
  refine rOk (d := 4) (x := .ptr 0 2) rfl rfl rfl ?_
  refine rOk (d := 5) (x := .v (.int .i64 i.rs1)) rfl rfl rfl ?_
  refine rOk (d := 6) (x := .ptr 0 3) rfl rfl rfl ?_
  refine rOk (d := 7) (x := .v (.int .i64 i.rs2)) rfl rfl rfl ?_
  refine rOk (d := 2) (x := .v (.int .i64 i.rs1)) rfl rfl rfl ?_
  refine rOk (d := 3) (x := .v (.int .i64 i.rs2)) rfl rfl rfl ?_
  refine rEnd (n' := 9) rfl ?_
  refine cRet ?_
  exact retA_eq rfl trivial rfl rfl
set_option maxRecDepth 100000 in
set_option maxHeartbeats 4000000 in
theorem dHalt (s : St) (why : Int) (hs : s.ok) : DCall C0 26 [stA s, .v (.int .i64 why)] (two (haltP s why 0)) := by
  refine DCall.intro c0Ok Tryd.func26 rfl rfl (by kernel_rfl) rfl ?_
  refine cSeq ?_
  refine cReg rfl ?_
  refine rFx (d := 2) (x := .ptr 0 0) (h' := upd _ 0 (some (.box (stL s.pc s.r s.mem s.halt)))) rfl rfl (rfl) (trivial) ?_
  refine rFx (d := 4) (x := .ptr 1 0) (h' := upd _ 1 (some (.box (stL 0 (fun _ => 0) (⟨#[]⟩) 0)))) rfl rfl (rfl) (trivial) ?_
  refine rFx (d := 5) (x := .ptr 2 0) (h' := upd _ 2 (some (.box [.v (.int .u32 0), .v (.int .u32 0), .v (.int .i64 0), .v (.int .u32 0), .v (.int .u32 0), .v (.int .i64 0), .v (.bool false), .v (.int .i64 0), .v (.int .i64 0)]))) rfl rfl (rfl) (trivial) ?_
  refine rEnd (n' := 3) rfl ?_
  refine cSeq ?_
  refine cReg rfl ?_
  refine rOk (d := 7) (x := .ptr 0 0) rfl rfl rfl ?_
  refine rOk (d := 8) (x := .v (.int .u32 ((s.pc : Nat) : Int))) rfl rfl rfl ?_
  refine rOk (d := 9) (x := .ptr 0 0) rfl rfl rfl ?_
  refine rOk (d := 10) (x := .v (.int .u32 ((s.pc : Nat) : Int))) rfl rfl rfl ?_
  refine rOk (d := 11) (x := .v (.int .i64 why)) rfl rfl rfl ?_
  refine rOk (d := 12) (x := .agg [.v (.int .u32 ((s.pc : Nat) : Int)), .v (.int .u32 ((s.pc : Nat) : Int)), .v (.int .i64 0), .v (.int .u32 0), .v (.int .u32 0), .v (.int .i64 0), .v (.bool false), .v (.int .i64 why), .v (.int .i64 0)]) rfl rfl rfl ?_
  refine rFx (d := 6) (x := .ptr 9 0) (h' := upd _ 9 (some (.box [.v (.int .u32 0), .v (.int .u32 0), .v (.int .i64 0), .v (.int .u32 0), .v (.int .u32 0), .v (.int .i64 0), .v (.bool false), .v (.int .i64 0), .v (.int .i64 0)]))) rfl rfl (rfl) (trivial) ?_
  refine rFx0 (h' := upd _ 9 (some (.box [.v (.int .u32 ((s.pc : Nat) : Int)), .v (.int .u32 ((s.pc : Nat) : Int)), .v (.int .i64 0), .v (.int .u32 0), .v (.int .u32 0), .v (.int .i64 0), .v (.bool false), .v (.int .i64 why), .v (.int .i64 0)]))) rfl rfl (rfl) (trivial) ?_
  refine rEnd (n' := 11) rfl ?_
  refine cSeq ?_
  refine cReg rfl ?_
  refine rOk (d := 13) (x := .v (.int .i64 why)) rfl rfl rfl ?_
  refine rOk (d := 14) (x := .ptr 0 34) rfl rfl rfl ?_
  refine rFx0 (h' := upd _ 0 (some (.box (stL s.pc s.r s.mem why)))) rfl rfl (rfl) (trivial) ?_
  refine rEnd (n' := 14) rfl ?_
  refine cSeq ?_
  refine cAny rfl ?_
  refine aGo [0, 1] (by kernel_rfl) rfl ⟨?_, ?_, trivial⟩
  · skip
    refine sOk (d := 15) (x := .agg (stL s.pc s.r s.mem why)) rfl rfl rfl rfl ?_
    refine aGo [1, 2] (by kernel_rfl) rfl ⟨?_, ?_, trivial⟩
    · skip
      refine sOk (d := 16) (x := .agg [.v (.int .u32 ((s.pc : Nat) : Int)), .v (.int .u32 ((s.pc : Nat) : Int)), .v (.int .i64 0), .v (.int .u32 0), .v (.int .u32 0), .v (.int .i64 0), .v (.bool false), .v (.int .i64 why), .v (.int .i64 0)]) rfl rfl rfl rfl ?_
      refine aGo [2] (by kernel_rfl) rfl ⟨?_, trivial⟩
      refine sFx0 (h' := upd _ 1 (some (.box (stL s.pc s.r s.mem why)))) rfl rfl rfl (rfl) (trivial) ?_
      refine aGo [3] (by kernel_rfl) rfl ⟨?_, trivial⟩
      refine sFx0 (h' := upd _ 2 (some (.box [.v (.int .u32 ((s.pc : Nat) : Int)), .v (.int .u32 ((s.pc : Nat) : Int)), .v (.int .i64 0), .v (.int .u32 0), .v (.int .u32 0), .v (.int .i64 0), .v (.bool false), .v (.int .i64 why), .v (.int .i64 0)]))) rfl rfl rfl (rfl) (trivial) ?_
      refine aEnd (n' := 18) (by kernel_rfl) rfl ?_
      refine cRet ?_
      exact retA_eq rfl trivial rfl rfl
    · skip
      refine sFx0 (h' := upd _ 1 (some (.box (stL s.pc s.r s.mem why)))) rfl rfl rfl (rfl) (trivial) ?_
      refine aGo [1] (by kernel_rfl) rfl ⟨?_, trivial⟩
      refine sOk (d := 16) (x := .agg [.v (.int .u32 ((s.pc : Nat) : Int)), .v (.int .u32 ((s.pc : Nat) : Int)), .v (.int .i64 0), .v (.int .u32 0), .v (.int .u32 0), .v (.int .i64 0), .v (.bool false), .v (.int .i64 why), .v (.int .i64 0)]) rfl rfl rfl rfl ?_
      refine aGo [3] (by kernel_rfl) rfl ⟨?_, trivial⟩
      refine sFx0 (h' := upd _ 2 (some (.box [.v (.int .u32 ((s.pc : Nat) : Int)), .v (.int .u32 ((s.pc : Nat) : Int)), .v (.int .i64 0), .v (.int .u32 0), .v (.int .u32 0), .v (.int .i64 0), .v (.bool false), .v (.int .i64 why), .v (.int .i64 0)]))) rfl rfl rfl (rfl) (trivial) ?_
      refine aEnd (n' := 18) (by kernel_rfl) rfl ?_
      refine cRet ?_
      exact retA_eq rfl trivial rfl rfl
  · skip
    refine sOk (d := 16) (x := .agg [.v (.int .u32 ((s.pc : Nat) : Int)), .v (.int .u32 ((s.pc : Nat) : Int)), .v (.int .i64 0), .v (.int .u32 0), .v (.int .u32 0), .v (.int .i64 0), .v (.bool false), .v (.int .i64 why), .v (.int .i64 0)]) rfl rfl rfl rfl ?_
    refine aGo [0] (by kernel_rfl) rfl ⟨?_, trivial⟩
    refine sOk (d := 15) (x := .agg (stL s.pc s.r s.mem why)) rfl rfl rfl rfl ?_
    refine aGo [2] (by kernel_rfl) rfl ⟨?_, trivial⟩
    refine sFx0 (h' := upd _ 1 (some (.box (stL s.pc s.r s.mem why)))) rfl rfl rfl (rfl) (trivial) ?_
    refine aGo [3] (by kernel_rfl) rfl ⟨?_, trivial⟩
    refine sFx0 (h' := upd _ 2 (some (.box [.v (.int .u32 ((s.pc : Nat) : Int)), .v (.int .u32 ((s.pc : Nat) : Int)), .v (.int .i64 0), .v (.int .u32 0), .v (.int .u32 0), .v (.int .i64 0), .v (.bool false), .v (.int .i64 why), .v (.int .i64 0)]))) rfl rfl rfl (rfl) (trivial) ?_
    refine aEnd (n' := 18) (by kernel_rfl) rfl ?_
    refine cRet ?_
    exact retA_eq rfl trivial rfl rfl
theorem fetch_at {prog : List Nat} {pc : Nat} (h1 : pc % 4 = 0) (h2 : pc / 4 < prog.length) : ∃ x, fetchP prog pc = some x ∧ prog[((pc / 4 : Nat) : Int).toNat]? = some x := by
  refine ⟨prog[pc / 4], ?_, ?_⟩
  · unfold fetchP; rw [if_pos h1, List.getElem?_eq_getElem h2]
  · rw [Int.toNat_natCast, List.getElem?_eq_getElem h2]
theorem fetch_no {prog : List Nat} {pc : Nat} (h : pc % 4 ≠ 0 ∨ prog.length ≤ pc / 4) : fetchP prog pc = none := by
  unfold fetchP
  split
  · exact List.getElem?_eq_none (by omega)
  · rfl
theorem fetchW_le {prog : List Nat} (hp : ∀ x ∈ prog, x ≤ 4294967295) (pc : Nat) : fetchW prog pc ≤ 4294967295 := by
  unfold fetchW fetchP
  split
  · cases h : prog[pc / 4]? with
    | none => exact Nat.zero_le _
    | some x => exact hp x (List.mem_of_getElem? h)
  · exact Nat.zero_le _
theorem addr_le (i : SI) (a : Nat) : addrOf i a ≤ 4294967295 := by unfold addrOf; omega
theorem up4_le (a : Nat) : up4 a ≤ 4294967295 := by unfold up4; omega
theorem readP_lt {m : ByteArray} (h : m.size ≤ 256) (a n : Nat) : (readP m a n).size < 9223372036854775808 := by
  unfold readP; rw [ByteArray.size_extract]; omega
theorem decE_ne (x : Nat) : (decE x != 0) = true ↔ opOf x = 0 := by
  unfold decE
  split <;> simp_all
theorem len_u64 {n : Nat} (h : n ≤ 1000000) : IntKind.wrap .u64 (((n : Nat) : Int)) = ((n : Nat) : Int) := by
  simp only [IntKind.wrap, IntKind.signed, IntKind.bits]
  simp
  omega
set_option maxRecDepth 100000 in
set_option maxHeartbeats 4000000 in
theorem dFetch (prog : List Nat) (pc : Nat) (clip : Bool) (hp : ∀ x ∈ prog, x ≤ 4294967295) (hl : prog.length ≤ 1000000) (hpc : pc ≤ 4294967295) : DCall C0 25 [.sl 1 (prog.map rowU) clip, .v (.int .u32 ((pc : Nat) : Int))] (.tup [.v (.int .u32 (fetchW prog pc : Int)), .v (.bool (fetchP prog pc).isSome)]) := by
  refine DCall.intro c0Ok Tryd.func25 rfl rfl (by kernel_rfl) rfl ?_
  refine cSeq ?_
  refine cReg rfl ?_
  refine rOk (d := 4) (x := .v (.int .u32 0)) rfl rfl rfl ?_
  refine rOk (d := 5) (x := .v (.bool false)) rfl rfl rfl ?_
  refine rEnd (n' := 2) rfl ?_
  refine cSeq ?_
  refine cSeq ?_
  refine cReg rfl ?_
  refine rOk (d := 6) (x := .v (.int .u32 ((pc : Nat) : Int))) rfl rfl rfl ?_
  have b1 : pc % 4 ≤ 3 := Nat.le_of_lt_succ (Nat.mod_lt _ (by decide))
  refine rNeed (d := 7) (x := .v (.int .u32 ((pc % 4 : Nat) : Int))) rfl rfl rfl (by decide) ?_
  refine rOk (d := 8) (x := .v (.bool ((pc % 4) != 0))) rfl rfl (okB (neN _ _)) ?_
  refine rOk (d := 9) (x := .v (.bool ((pc % 4) != 0))) rfl rfl rfl ?_
  refine gOk (d := 10) (x := .v (.int .u32 ((pc : Nat) : Int))) (g := !((pc % 4) != 0)) rfl rfl rfl rfl rfl rfl ?_
  have b2 : pc / 4 ≤ 1073741823 := Nat.div_le_div_right hpc
  refine gNeedS (d := 11) (x := .v (.int .u32 ((pc / 4 : Nat) : Int))) (g := !((pc % 4) != 0)) rfl rfl rfl rfl (fun h => h) rfl (needI (modI b2 rfl)) (fun _ => by decide) ?_
  refine gOkS (d := 12) (x := .v (.int .u64 ((pc / 4 : Nat) : Int))) (g := !((pc % 4) != 0)) rfl rfl rfl rfl (fun h => h) rfl (okI (modI b2 rfl)) ?_
  refine gOk (d := 13) (x := .sl 1 (prog.map rowU) clip) (g := !((pc % 4) != 0)) rfl rfl rfl rfl rfl rfl ?_
  refine gOkS (d := 14) (x := .v (.int .i64 ((prog.map rowU).length : Int))) (g := !((pc % 4) != 0)) rfl rfl rfl rfl (fun h => h) rfl rfl ?_
  refine gOkS (d := 15) (x := .v (.int .u64 ((prog.length : Nat) : Int))) (g := !((pc % 4) != 0)) rfl rfl rfl rfl (fun h => h) rfl (by show Res.ok (.v (.int .u64 (IntKind.wrap .u64 ((((prog.map rowU).length : Nat) : Int))))) = _; rw [List.length_map, len_u64 hl]) ?_
  refine gOkS (d := 16) (x := .v (.bool (decide ((pc / 4) ≥ prog.length)))) (g := !((pc % 4) != 0)) rfl rfl rfl rfl (fun h => by simp_all) rfl (okB (geN _ _)) ?_
  refine rNeed (d := 17) (x := .v (.bool (cond2 ((pc % 4) != 0) true (decide ((pc / 4) ≥ prog.length))))) rfl rfl rfl (by simp) ?_
  refine rEnd (n' := 14) rfl ?_
  refine cCond (v := cond2 ((pc % 4) != 0) true (decide ((pc / 4) ≥ prog.length))) rfl (fun h1 => ?_) (fun h1 => ?_)
  · skip
    refine cSeq ?_
    refine cReg rfl ?_
    refine rOk (d := 4) (x := .v (.int .u32 0)) rfl rfl rfl ?_
    refine rOk (d := 5) (x := .v (.bool false)) rfl rfl rfl ?_
    refine rEnd (n' := 16) rfl ?_
    refine cRet ?_
    exact finTA rfl trivial rfl (by unfold fetchW; rw [fetch_no (by simp [cond2, bne] at h1; split at h1 <;> first | (left; assumption) | (right; assumption) | simp_all)]; rfl)
  · skip
    refine cSkip ?_
    refine cSeq ?_
    refine cReg rfl ?_
    refine rOk (d := 18) (x := .sl 1 (prog.map rowU) clip) rfl rfl rfl ?_
    refine rOk (d := 19) (x := .v (.int .u32 ((pc : Nat) : Int))) rfl rfl rfl ?_
    have b3 : pc / 4 ≤ 1073741823 := Nat.div_le_div_right hpc
    refine rNeed (d := 20) (x := .v (.int .u32 ((pc / 4 : Nat) : Int))) rfl rfl (needI (modI b3 rfl)) (by decide) ?_
    obtain ⟨x, hf, hxx⟩ := fetch_at (prog := prog) (pc := pc) (by simp [cond2, bne] at h1; split at h1 <;> simp_all) (by simp [cond2, bne] at h1; split at h1 <;> simp_all)
    have hx : x ≤ 4294967295 := hp x (List.mem_of_getElem? hxx)
    refine rIdx (rowU x) (d := 21) (x := .dp 1 0 (rowU x)) rfl rfl rfl (⟨by omega, by rw [List.getElem?_map]; exact congrArg (Option.map rowU) hxx⟩) rfl ?_
    refine rOk (d := 22) (x := .v (.int .u32 ((x : Nat) : Int))) rfl rfl rfl ?_
    refine rOk (d := 4) (x := .v (.int .u32 ((x : Nat) : Int))) rfl rfl rfl ?_
    refine rOk (d := 5) (x := .v (.bool true)) rfl rfl rfl ?_
    refine rEnd (n' := 21) rfl ?_
    refine cRet ?_
    exact finTA rfl trivial rfl (by unfold fetchW; rw [hf]; rfl)
theorem right_le {size : Nat} {addr : Nat} {n : Nat} (h : rightP (size : Int) addr (n : Int) = true) : addr + n ≤ size ∧ 0 < n ∧ n ≤ 4 := by
  simp only [rightP, Bool.and_eq_true, decide_eq_true_eq] at h
  omega
set_option maxRecDepth 100000 in
set_option maxHeartbeats 4000000 in
theorem dRead (m : ByteArray) (addr n : Nat) (hr : rightP (m.size : Int) addr (n : Int) = true) (hm : m.size ≤ 256) (ha : addr ≤ 4294967295) : DCall C0 59 [.v (.string m), .v (.int .u32 ((addr : Nat) : Int)), .v (.int .i64 ((n : Nat) : Int))] (.tup [.v (.string (readP m addr n)), .v (.int .i64 0)]) := by
  refine DCall.intro c0Ok Tryd.func59 rfl rfl (by kernel_rfl) rfl ?_
  have hn : n ≤ 4 := (right_le hr).2.2
  refine cSeq ?_
  refine cReg rfl ?_
  refine rOk (d := 6) (x := .v (.string (⟨#[]⟩))) rfl rfl rfl ?_
  refine rOk (d := 7) (x := .v (.int .i64 0)) rfl rfl rfl ?_
  refine rEnd (n' := 2) rfl ?_
  refine cSeq ?_
  refine cSeq ?_
  refine cReg rfl ?_
  refine rOk (d := 9) (x := .v (.string m)) rfl rfl rfl ?_
  refine rOk (d := 10) (x := .v (.int .i64 (m.size : Int))) rfl rfl rfl ?_
  refine rOk (d := 11) (x := .v (.int .u32 ((addr : Nat) : Int))) rfl rfl rfl ?_
  refine rOk (d := 12) (x := .v (.int .i64 ((n : Nat) : Int))) rfl rfl rfl ?_
  refine rCall (args := [.v (.int .i64 (m.size : Int)), .v (.int .u32 ((addr : Nat) : Int)), .v (.int .i64 ((n : Nat) : Int))]) (d := 13) (x := .v (.bool (rightP (m.size : Int) addr (n : Int)))) rfl rfl rfl rfl (.inl rfl) rfl (dRight _ _ _ (by omega) (by omega)) ?_
  refine rOk (d := 14) (x := .v (.bool (!(rightP (m.size : Int) addr (n : Int))))) rfl rfl rfl ?_
  refine rEnd (n' := 8) rfl ?_
  refine cCond (v := !(rightP (m.size : Int) addr (n : Int))) rfl (fun h1 => by rw [hr] at h1; cases h1) (fun _ => ?_)
  refine cSkip ?_
  refine cSeq ?_
  refine cReg rfl ?_
  refine rOk (d := 15) (x := .v (.int .u32 ((addr : Nat) : Int))) rfl rfl rfl ?_
  refine rOk (d := 16) (x := .v (.int .i64 ((addr : Nat) : Int))) rfl rfl (okI (wrapI64 ha rfl)) ?_
  refine rOk (d := 8) (x := .v (.int .i64 ((addr : Nat) : Int))) rfl rfl rfl ?_
  refine rEnd (n' := 11) rfl ?_
  refine cSeq ?_
  refine cReg rfl ?_
  refine rOk (d := 17) (x := .v (.string m)) rfl rfl rfl ?_
  refine rOk (d := 18) (x := .v (.int .i64 ((addr : Nat) : Int))) rfl rfl rfl ?_
  refine rOk (d := 19) (x := .v (.int .i64 ((addr : Nat) : Int))) rfl rfl rfl ?_
  refine rOk (d := 20) (x := .v (.int .i64 ((n : Nat) : Int))) rfl rfl rfl ?_
  have b1 : addr + n ≤ 4294967299 := Nat.add_le_add ha hn
  refine rOk (d := 21) (x := .v (.int .i64 ((addr + n : Nat) : Int))) rfl rfl (okI (wrapI64 b1 rfl)) ?_
  refine rNeed (d := 22) (x := .v (.string (m.extract addr (addr + n)))) rfl rfl rfl (by have q := right_le hr; refine ⟨?_, ?_, ?_⟩ <;> simp <;> omega) ?_
  refine rOk (d := 6) (x := .v (.string (m.extract addr (addr + n)))) rfl rfl rfl ?_
  refine rOk (d := 7) (x := .v (.int .i64 0)) rfl rfl rfl ?_
  refine rEnd (n' := 19) rfl ?_
  refine cRet ?_
  exact retA_eq rfl trivial rfl rfl
theorem rows_len (m : ByteArray) : (rowsOfBytes m).length = m.size := by simp [rowsOfBytes]
theorem write_rows (m b : ByteArray) (addr : Nat) (h : addr + b.size ≤ m.size) (h' : addr ≤ m.size) :
    bytesOfRows (((((((List.take addr (List.drop 0 (rowsOfBytes m))) ++ rowsOfBytes b).drop 0).take ((List.take addr (List.drop 0 (rowsOfBytes m))).length + (rowsOfBytes b).length)) ++ ((rowsOfBytes m).drop (0 + (addr + b.size))).take (((m.size : Int) - ((addr + b.size : Nat) : Int)).toNat)).drop 0).take
      ((((((List.take addr (List.drop 0 (rowsOfBytes m))) ++ rowsOfBytes b).drop 0).take ((List.take addr (List.drop 0 (rowsOfBytes m))).length + (rowsOfBytes b).length))).length + (((rowsOfBytes m).drop (0 + (addr + b.size))).take (((m.size : Int) - ((addr + b.size : Nat) : Int)).toNat)).length)) = some (m.data.toList.take addr ++ b.data.toList ++ m.data.toList.drop (addr + b.size)) := by
  simp only [List.drop_zero, Nat.zero_add]
  rw [← List.length_append, List.take_length, ← List.length_append, List.take_length]
  have e : (((m.size : Int) - ((addr + b.size : Nat) : Int)).toNat) = ((rowsOfBytes m).drop (addr + b.size)).length := by
    rw [List.length_drop, rows_len]; omega
  rw [e, List.take_length]
  simp only [rowsOfBytes]
  rw [← List.map_take, ← List.map_drop, ← List.map_append, ← List.map_append]
  exact bytesOfRows_map _
set_option maxRecDepth 100000 in
set_option maxHeartbeats 4000000 in
theorem dWrite (m : ByteArray) (addr : Nat) (b : ByteArray) (hr : rightP (m.size : Int) addr (b.size : Int) = true) (hm : m.size ≤ 256) (ha : addr ≤ 4294967295) : DCall C0 58 [.v (.string m), .v (.int .u32 ((addr : Nat) : Int)), .v (.string b)] (.tup [.v (.string (writeP m addr b)), .v (.int .i64 0)]) := by
  refine DCall.intro c0Ok Tryd.func58 rfl rfl (by kernel_rfl) rfl ?_
  have hn : b.size ≤ 4 := (right_le hr).2.2
  refine cSeq ?_
  refine cReg rfl ?_
  refine rOk (d := 6) (x := .v (.string (⟨#[]⟩))) rfl rfl rfl ?_
  refine rOk (d := 7) (x := .v (.int .i64 0)) rfl rfl rfl ?_
  refine rEnd (n' := 2) rfl ?_
  refine cSeq ?_
  refine cSeq ?_
  refine cReg rfl ?_
  refine rOk (d := 12) (x := .v (.string m)) rfl rfl rfl ?_
  refine rOk (d := 13) (x := .v (.int .i64 ((m.size : Nat) : Int))) rfl rfl rfl ?_
  refine rOk (d := 14) (x := .v (.int .u32 ((addr : Nat) : Int))) rfl rfl rfl ?_
  refine rOk (d := 15) (x := .v (.string b)) rfl rfl rfl ?_
  refine rOk (d := 16) (x := .v (.int .i64 ((b.size : Nat) : Int))) rfl rfl rfl ?_
  refine rCall (args := [.v (.int .i64 ((m.size : Nat) : Int)), .v (.int .u32 ((addr : Nat) : Int)), .v (.int .i64 ((b.size : Nat) : Int))]) (d := 17) (x := .v (.bool (rightP (m.size : Int) addr (b.size : Int)))) rfl rfl rfl rfl (.inl rfl) rfl (dRight _ _ _ (by omega) (by omega)) ?_
  refine rOk (d := 18) (x := .v (.bool (!(rightP (m.size : Int) addr (b.size : Int))))) rfl rfl rfl ?_
  refine rEnd (n' := 9) rfl ?_
  refine cCond (v := !(rightP (m.size : Int) addr (b.size : Int))) rfl (fun h1 => by rw [hr] at h1; cases h1) (fun _ => ?_)
  refine cSkip ?_
  refine cSeq ?_
  refine cReg rfl ?_
  refine rOk (d := 19) (x := .v (.int .u32 ((addr : Nat) : Int))) rfl rfl rfl ?_
  refine rOk (d := 20) (x := .v (.int .i64 ((addr : Nat) : Int))) rfl rfl (okI (wrapI64 ha rfl)) ?_
  refine rOk (d := 21) (x := .v (.string m)) rfl rfl rfl ?_
  refine rFx (d := 22) (x := .osl 12 0 m.size false) (h' := upd _ 12 (some (.arr (rowsOfBytes m) 1))) rfl rfl (rfl) (by show m.size ≤ 1000000; omega) ?_
  refine rOk (d := 8) (x := .v (.int .i64 ((addr : Nat) : Int))) rfl rfl rfl ?_
  refine rOk (d := 9) (x := .osl 12 0 m.size false) rfl rfl rfl ?_
  refine rEnd (n' := 15) rfl ?_
  refine cSeq ?_
  refine cReg rfl ?_
  refine rOk (d := 23) (x := .osl 12 0 m.size false) rfl rfl rfl ?_
  refine rOk (d := 24) (x := .v (.int .i64 ((addr : Nat) : Int))) rfl rfl rfl ?_
  refine rOk (d := 25) (x := .v (.int .i64 ((addr : Nat) : Int))) rfl rfl rfl ?_
  refine rNeed (d := 26) (x := .osl 12 0 addr true) rfl rfl rfl (have q := right_le hr; ⟨Int.le_refl _, Int.natCast_nonneg _, rfl, by show (addr : Int) ≤ (m.size : Int); omega⟩) ?_
  refine rOk (d := 27) (x := .osl 12 0 m.size false) rfl rfl rfl ?_
  refine rOk (d := 28) (x := .v (.int .i64 ((addr : Nat) : Int))) rfl rfl rfl ?_
  refine rOk (d := 29) (x := .v (.string b)) rfl rfl rfl ?_
  refine rOk (d := 30) (x := .v (.int .i64 ((b.size : Nat) : Int))) rfl rfl rfl ?_
  have b1 : addr + b.size ≤ 4294967299 := Nat.add_le_add ha hn
  refine rOk (d := 31) (x := .v (.int .i64 ((addr + b.size : Nat) : Int))) rfl rfl (okI (wrapI64 b1 rfl)) ?_
  refine rNeed (d := 32) (x := .osl 12 (0 + (addr + b.size)) (((m.size : Int) - ((addr + b.size : Nat) : Int)).toNat) false) rfl rfl rfl (have q := right_le hr; ⟨Int.natCast_nonneg _, by show ((addr + b.size : Nat) : Int) ≤ (m.size : Int); omega, Int.le_refl _⟩) ?_
  refine rOk (d := 10) (x := .osl 12 0 addr true) rfl rfl rfl ?_
  refine rOk (d := 11) (x := .osl 12 (0 + (addr + b.size)) (((m.size : Int) - ((addr + b.size : Nat) : Int)).toNat) false) rfl rfl rfl ?_
  refine rEnd (n' := 27) rfl ?_
  refine cSeq ?_
  refine cReg rfl ?_
  refine rOk (d := 33) (x := .osl 12 0 addr true) rfl rfl rfl ?_
  refine rOk (d := 34) (x := .v (.string b)) rfl rfl rfl ?_
  refine rFx (d := 35) (x := .osl 29 0 ((List.take addr (List.drop 0 (rowsOfBytes m))).length + (rowsOfBytes b).length) false) (h' := upd _ 29 (some (.arr ((List.take addr (List.drop 0 (rowsOfBytes m))) ++ rowsOfBytes b) 1))) rfl rfl (rfl) (have q := right_le hr; have q1 := rows_len m; have q2 := rows_len b; ⟨by simp only [List.drop_zero, List.length_take, q1, q2, capMax]; omega, by show 0 < (rowsOfBytes b).length; omega, by show 0 + addr ≤ (rowsOfBytes m).length; omega, trivial⟩) ?_
  refine rOk (d := 36) (x := .osl 12 (0 + (addr + b.size)) (((m.size : Int) - ((addr + b.size : Nat) : Int)).toNat) false) rfl rfl rfl ?_
  refine rFx (d := 37) (x := .osl 31 0 (((((List.take addr (List.drop 0 (rowsOfBytes m))) ++ rowsOfBytes b).drop 0).take ((List.take addr (List.drop 0 (rowsOfBytes m))).length + (rowsOfBytes b).length)).length + (((rowsOfBytes m).drop (0 + (addr + b.size))).take (((m.size : Int) - ((addr + b.size : Nat) : Int)).toNat)).length) false) (h' := upd (upd _ 29 none) 31 (some (.arr (((((List.take addr (List.drop 0 (rowsOfBytes m))) ++ rowsOfBytes b).drop 0).take ((List.take addr (List.drop 0 (rowsOfBytes m))).length + (rowsOfBytes b).length)) ++ (((rowsOfBytes m).drop (0 + (addr + b.size))).take (((m.size : Int) - ((addr + b.size : Nat) : Int)).toNat))) 1))) rfl rfl (rfl) (have q := right_le hr; have q1 := rows_len m; have q2 := rows_len b; ⟨by show List.length ((((List.take addr (List.drop 0 (rowsOfBytes m))) ++ rowsOfBytes b).drop 0).take ((List.take addr (List.drop 0 (rowsOfBytes m))).length + (rowsOfBytes b).length)) + List.length (((rowsOfBytes m).drop (0 + (addr + b.size))).take (((m.size : Int) - ((addr + b.size : Nat) : Int)).toNat)) ≤ capMax; simp only [List.drop_zero, List.length_take, List.length_append, List.length_drop, q1, q2, capMax]; omega, by show 0 + ((List.take addr (List.drop 0 (rowsOfBytes m))).length + (rowsOfBytes b).length) = List.length ((List.take addr (List.drop 0 (rowsOfBytes m))) ++ rowsOfBytes b); rw [List.length_append]; omega, by show 0 + (addr + b.size) + (((m.size : Int) - ((addr + b.size : Nat) : Int)).toNat) ≤ (rowsOfBytes m).length; omega⟩) ?_
  refine rStr (m.data.toList.take addr ++ b.data.toList ++ m.data.toList.drop (addr + b.size)) (d := 38) rfl rfl rfl (by show 0 + (((((List.take addr (List.drop 0 (rowsOfBytes m))) ++ rowsOfBytes b).drop 0).take ((List.take addr (List.drop 0 (rowsOfBytes m))).length + (rowsOfBytes b).length)).length + (((rowsOfBytes m).drop (0 + (addr + b.size))).take (((m.size : Int) - ((addr + b.size : Nat) : Int)).toNat)).length) ≤ List.length (((((List.take addr (List.drop 0 (rowsOfBytes m))) ++ rowsOfBytes b).drop 0).take ((List.take addr (List.drop 0 (rowsOfBytes m))).length + (rowsOfBytes b).length)) ++ (((rowsOfBytes m).drop (0 + (addr + b.size))).take (((m.size : Int) - ((addr + b.size : Nat) : Int)).toNat))); rw [List.length_append]; omega) (by have q := right_le hr; exact write_rows m b addr (by omega) (by omega)) ?_
  refine rOk (d := 6) (x := .v (.string (⟨(m.data.toList.take addr ++ b.data.toList ++ m.data.toList.drop (addr + b.size)).toArray⟩))) rfl rfl rfl ?_
  refine rOk (d := 7) (x := .v (.int .i64 0)) rfl rfl rfl ?_
  refine rEnd (n' := 35) rfl ?_
  refine cRet ?_
  exact retA_eq rfl trivial rfl rfl
def upS (n : Nat) : Nat := if n ≤ 16 then 16 else if n ≤ 32 then 32 else if n ≤ 64 then 64 else if n ≤ 128 then 128 else 256
def cleanP (m : ByteArray) : ByteArray := ⟨((m.extract 0 (min m.size 256)).data.toList ++ List.replicate (upS (min m.size 256) - min m.size 256) 0).toArray⟩
theorem cut_size (m : ByteArray) : (m.extract 0 (min m.size 256)).size = min m.size 256 := by rw [ByteArray.size_extract]; omega
theorem cleanP_size (m : ByteArray) : (cleanP m).size = upS (min m.size 256) := by
  have h := cut_size m
  have h1 : (m.extract 0 (min m.size 256)).data.size = min m.size 256 := h
  show (cleanP m).data.size = _
  simp only [cleanP, List.size_toArray, List.length_append, Array.length_toList, List.length_replicate, h1]
  unfold upS
  repeat' (split <;> try omega)
theorem upS_le (n : Nat) : upS n ≤ 256 := by unfold upS; repeat' (split <;> try omega)
theorem upS_is {n j : Nat} (h4 : j ≤ 4) (h1 : n ≤ 16 * 2 ^ j) (h2 : j = 0 ∨ 16 * 2 ^ (j - 1) < n) : 16 * 2 ^ j = upS n := by
  have : j = 0 ∨ j = 1 ∨ j = 2 ∨ j = 3 ∨ j = 4 := by omega
  unfold upS
  rcases this with rfl | rfl | rfl | rfl | rfl <;> simp at h1 h2 ⊢ <;> repeat' (split <;> try omega)
theorem clean_lt {j n : Nat} (h4 : j ≤ 4) (h : 16 * 2 ^ j < min n 256) : j < 4 := by
  have : j = 0 ∨ j = 1 ∨ j = 2 ∨ j = 3 ∨ j = 4 := by omega
  rcases this with rfl | rfl | rfl | rfl | rfl <;> simp at h ⊢ <;> omega
theorem clean_rows (m : ByteArray) (s : Nat) (h : m.size ≤ s) : bytesOfRows (List.take s (List.drop 0 (List.take 0 (List.replicate s [AV.v (.int .u8 0)]) ++ List.take (min (rowsOfBytes m).length s) (rowsOfBytes m) ++ List.drop (0 + min (rowsOfBytes m).length s) (List.replicate s [AV.v (.int .u8 0)])))) = some (m.data.toList ++ List.replicate (s - m.size) 0) := by
  have q := rows_len m
  simp only [List.take_zero, List.nil_append, List.drop_zero, Nat.zero_add, q, Nat.min_eq_left h]
  have e1 : List.take m.size (rowsOfBytes m) = rowsOfBytes m := List.take_of_length_le (by rw [q]; exact Nat.le_refl _)
  rw [e1, List.drop_replicate, List.take_of_length_le (by simp [q]; omega)]
  have : List.replicate (s - m.size) [AV.v (.int .u8 0)] = (List.replicate (s - m.size) (0 : UInt8)).map fun b => [.v (.int .u8 (b.toNat : Int))] := by simp
  rw [this]
  simp only [rowsOfBytes]
  rw [← List.map_append]
  exact bytesOfRows_map _
set_option maxRecDepth 100000 in
set_option maxHeartbeats 4000000 in
theorem dClean (m : ByteArray) : DCall C0 32 [.v (.string m)] (.v (.string (cleanP m))) := by
  refine DCall.intro c0Ok Tryd.func32 rfl rfl (by kernel_rfl) rfl ?_
  refine cSeq ?_
  refine cReg rfl ?_
  refine rOk (d := 2) (x := .v (.string (⟨#[]⟩))) rfl rfl rfl ?_
  refine rEnd (n' := 1) rfl ?_
  refine cSeq ?_
  refine cReg rfl ?_
  refine rOk (d := 5) (x := .v (.string m)) rfl rfl rfl ?_
  refine rOk (d := 6) (x := .v (.string m)) rfl rfl rfl ?_
  refine rOk (d := 7) (x := .v (.int .i64 (m.size : Int))) rfl rfl rfl ?_
  refine rOk (d := 8) (x := .v (.int .i64 ((min m.size 256 : Nat) : Int))) rfl rfl (by show Res.ok (.v (.int .i64 (if (256 : Int) < (m.size : Int) then 256 else (m.size : Int)))) = _; congr 3; split <;> omega) ?_
  refine rNeed (d := 9) (x := .v (.string (m.extract 0 (min m.size 256)))) rfl rfl rfl (by refine ⟨?_, ?_, ?_⟩ <;> simp <;> omega) ?_
  refine rOk (d := 0) (x := .v (.string (m.extract 0 (min m.size 256)))) rfl rfl rfl ?_
  refine rEnd (n' := 7) rfl ?_
  refine cSeq ?_
  refine cReg rfl ?_
  refine rOk (d := 3) (x := .v (.int .i64 16)) rfl rfl rfl ?_
  refine rEnd (n' := 8) rfl ?_
  refine cSeq ?_
  refine cBlock ?_
  refine cLoop (κ := Nat) (fun j => ⟨slotsF [(0, .v (.string (m.extract 0 (min m.size 256)))), (3, .v (.int .i64 ((16 * 2 ^ j : Nat) : Int)))], heapF [], 8⟩) (fun j => j ≤ 4 ∧ (j = 0 ∨ 16 * 2 ^ (j - 1) < min m.size 256)) (fun j => 4 - j) 0 (fun s => s) (Weak.of_lists (fun s => s) ⟨⟨rfl, rfl⟩, ⟨rfl, rfl⟩, trivial⟩ trivial rfl) (⟨by decide, .inl rfl⟩) ?_
  intro j hj
  refine cSeq ?_
  refine cSeq ?_
  refine cReg rfl ?_
  refine rOk (d := 10) (x := .v (.int .i64 ((16 * 2 ^ j : Nat) : Int))) rfl rfl rfl ?_
  refine rOk (d := 11) (x := .v (.string (m.extract 0 (min m.size 256)))) rfl rfl rfl ?_
  refine rOk (d := 12) (x := .v (.int .i64 ((min m.size 256 : Nat) : Int))) rfl rfl (congrArg (fun n : Nat => Res.ok (.v (.int .i64 (n : Int)))) (cut_size m)) ?_
  refine rOk (d := 13) (x := .v (.bool (decide ((16 * 2 ^ j) < (min m.size 256))))) rfl rfl (okB (ltN _ _)) ?_
  refine rEnd (n' := 12) rfl ?_
  refine cCond (v := decide ((16 * 2 ^ j) < (min m.size 256))) rfl (fun h1 => ?_) (fun h1 => ?_)
  · skip
    refine cSkip ?_
    refine cBlock ?_
    refine cReg rfl ?_
    refine rOk (d := 14) (x := .v (.int .i64 ((16 * 2 ^ j : Nat) : Int))) rfl rfl rfl ?_
    refine rOk (d := 15) (x := .v (.int .i64 ((16 * 2 ^ (j + 1) : Nat) : Int))) rfl rfl (by show Res.ok (.v (.int .i64 (IntKind.wrap .i64 (((16 * 2 ^ j : Nat) : Int) * 2)))) = _; have p5 := Nat.pow_le_pow_right (n := 2) (by decide) hj.1; rw [wrap_i64 (by omega) (by omega)]; congr 3; rw [Nat.pow_succ]; omega) ?_
    refine rOk (d := 3) (x := .v (.int .i64 ((16 * 2 ^ (j + 1) : Nat) : Int))) rfl rfl rfl ?_
    refine rEnd (n' := 15) rfl ?_
    refine ⟨j + 1, fun s => s, Weak.of_lists (fun s => s) ⟨⟨rfl, rfl⟩, ⟨rfl, rfl⟩, trivial⟩ trivial rfl, ⟨by have := clean_lt hj.1 (of_decide_eq_true h1); omega, .inr (by simpa using of_decide_eq_true h1)⟩, by have := clean_lt hj.1 (of_decide_eq_true h1); show 4 - (j + 1) < 4 - j; omega⟩
  · skip
    refine cExit ?_
    refine cSeq ?_
    refine cReg rfl ?_
    refine rOk (d := 16) (x := .v (.int .i64 ((16 * 2 ^ j : Nat) : Int))) rfl rfl rfl ?_
    refine rFx (d := 17) (x := .osl 13 0 (16 * 2 ^ j) false) (h' := upd _ 13 (some (.arr (List.replicate (16 * 2 ^ j) [AV.v (.int .u8 0)]) 1))) rfl rfl (rfl) (by have p5 := Nat.pow_le_pow_right (n := 2) (by decide) hj.1; refine ⟨by omega, by omega, ?_⟩; simp only [capMax]; omega) ?_
    refine rOk (d := 4) (x := .osl 13 0 (16 * 2 ^ j) false) rfl rfl rfl ?_
    refine rEnd (n' := 15) rfl ?_
    refine cSeq ?_
    refine cReg rfl ?_
    refine rOk (d := 18) (x := .osl 13 0 (16 * 2 ^ j) false) rfl rfl rfl ?_
    refine rOk (d := 19) (x := .v (.string (m.extract 0 (min m.size 256)))) rfl rfl rfl ?_
    refine rFx (d := 20) (x := .v (.int .i64 ((min (rowsOfBytes (m.extract 0 (min m.size 256))).length (16 * 2 ^ j) : Nat) : Int))) (h' := upd _ 13 (some (.arr (List.take 0 (List.replicate (16 * 2 ^ j) [AV.v (.int .u8 0)]) ++ List.take (min (rowsOfBytes (m.extract 0 (min m.size 256))).length (16 * 2 ^ j)) (rowsOfBytes (m.extract 0 (min m.size 256))) ++ List.drop (0 + min (rowsOfBytes (m.extract 0 (min m.size 256))).length (16 * 2 ^ j)) (List.replicate (16 * 2 ^ j) [AV.v (.int .u8 0)])) 1))) rfl rfl (rfl) (⟨by simp, trivial⟩) ?_
    refine rEnd (n' := 18) rfl ?_
    refine cSeq ?_
    refine cReg rfl ?_
    refine rOk (d := 21) (x := .osl 13 0 (16 * 2 ^ j) false) rfl rfl rfl ?_
    refine rStr ((m.extract 0 (min m.size 256)).data.toList ++ List.replicate (upS (min m.size 256) - min m.size 256) 0) (d := 22) rfl rfl rfl (by show 0 + 16 * 2 ^ j ≤ List.length (List.take 0 (List.replicate (16 * 2 ^ j) [AV.v (.int .u8 0)]) ++ List.take (min (rowsOfBytes (m.extract 0 (min m.size 256))).length (16 * 2 ^ j)) (rowsOfBytes (m.extract 0 (min m.size 256))) ++ List.drop (0 + min (rowsOfBytes (m.extract 0 (min m.size 256))).length (16 * 2 ^ j)) (List.replicate (16 * 2 ^ j) [AV.v (.int .u8 0)])); have q := rows_len (m.extract 0 (min m.size 256)); have q2 := cut_size m; have := of_decide_eq_false h1; simp only [List.length_append, List.length_take, List.length_drop, List.length_replicate, q, q2]; omega) (by have e := clean_rows (m.extract 0 (min m.size 256)) (16 * 2 ^ j) (by have := of_decide_eq_false h1; rw [cut_size]; omega); rw [cut_size, upS_is hj.1 (by have := of_decide_eq_false h1; omega) hj.2] at e; rw [upS_is hj.1 (by have := of_decide_eq_false h1; omega) hj.2]; exact e) ?_
    refine rOk (d := 2) (x := .v (.string (cleanP m))) rfl rfl rfl ?_
    refine rEnd (n' := 21) rfl ?_
    refine cRet ?_
    exact retA_eq rfl trivial rfl rfl
set_option maxRecDepth 100000 in
set_option maxHeartbeats 4000000 in
theorem dNew (p : AV) (m : ByteArray) : DCall C0 16 [p, .v (.string m)] (stA ⟨0, fun _ => 0, cleanP m, 0⟩) := by
  refine DCall.intro c0Ok Tryd.func16 rfl rfl (by kernel_rfl) rfl ?_
  refine cSeq ?_
  refine cReg rfl ?_
  refine rFx (d := 4) (x := .ptr 0 0) (h' := upd _ 0 (some (.box (stL 0 (fun _ => 0) (⟨#[]⟩) 0)))) rfl rfl (rfl) (trivial) ?_
  refine rEnd (n' := 1) rfl ?_
  refine cSeq ?_
  refine cReg rfl ?_
  refine rOk (d := 5) (x := .v (.string m)) rfl rfl rfl ?_
  refine rCall (args := [.v (.string m)]) (d := 6) (x := .v (.string (cleanP m))) rfl rfl rfl rfl (.inl rfl) rfl (dClean m) ?_
  refine rOk (d := 7) (x := .agg (stL 0 (fun _ => 0) (cleanP m) 0)) rfl rfl rfl ?_
  refine rFx0 (h' := upd _ 0 (some (.box (stL 0 (fun _ => 0) (cleanP m) 0)))) rfl rfl (rfl) (trivial) ?_
  refine rEnd (n' := 5) rfl ?_
  refine cRet ?_
  exact retA_eq rfl ⟨trivial, trivial, trivial, trivial, trivial, trivial, trivial, trivial, trivial, trivial, trivial, trivial, trivial, trivial, trivial, trivial, trivial, trivial, trivial, trivial, trivial, trivial, trivial, trivial, trivial, trivial, trivial, trivial, trivial, trivial, trivial, trivial, trivial, trivial, trivial, trivial⟩ rfl rfl
set_option maxRecDepth 100000 in
set_option maxHeartbeats 4000000 in
theorem dAccess (s : St) (i : SI) (a b : Nat) (hs : s.ok) (hi : i.imm ≤ 4294967295) (ha : a ≤ 4294967295) (hb : b ≤ 4294967295) (hw0 : 0 ≤ wr i) (hw : wr i < 32) : DCall C0 30 [stA s, siA i, .v (.int .u32 (a : Int)), .v (.int .u32 (b : Int))] (two (accessP s i a b)) := by
  refine DCall.intro c0Ok Tryd.func30 rfl rfl (by kernel_rfl) rfl ?_
  refine cSeq ?_
  refine cReg rfl ?_
  refine rFx (d := 4) (x := .ptr 0 0) (h' := upd _ 0 (some (.box (stL s.pc s.r s.mem s.halt)))) rfl rfl (rfl) (trivial) ?_
  refine rFx (d := 5) (x := .ptr 1 0) (h' := upd _ 1 (some (.box [.v (.int .i64 i.op), .v (.int .i64 i.rd), .v (.int .i64 i.rs1), .v (.int .i64 i.rs2), .v (.int .u32 ((i.imm : Nat) : Int))]))) rfl rfl (rfl) (trivial) ?_
  refine rFx (d := 8) (x := .ptr 2 0) (h' := upd _ 2 (some (.box (stL 0 (fun _ => 0) (⟨#[]⟩) 0)))) rfl rfl (rfl) (trivial) ?_
  refine rFx (d := 9) (x := .ptr 3 0) (h' := upd _ 3 (some (.box [.v (.int .u32 0), .v (.int .u32 0), .v (.int .i64 0), .v (.int .u32 0), .v (.int .u32 0), .v (.int .i64 0), .v (.bool false), .v (.int .i64 0), .v (.int .i64 0)]))) rfl rfl (rfl) (trivial) ?_
  refine rEnd (n' := 4) rfl ?_
  refine cSeq ?_
  refine cReg rfl ?_
  refine rOk (d := 21) (x := .v (.int .u32 ((a : Nat) : Int))) rfl rfl rfl ?_
  refine rOk (d := 22) (x := .ptr 1 4) rfl rfl rfl ?_
  refine rOk (d := 23) (x := .v (.int .u32 ((i.imm : Nat) : Int))) rfl rfl rfl ?_
  refine rOk (d := 24) (x := .v (.int .u32 ((addrOf i a : Nat) : Int))) rfl rfl rfl ?_
  refine rOk (d := 25) (x := .agg [.v (.int .i64 i.op), .v (.int .i64 i.rd), .v (.int .i64 i.rs1), .v (.int .i64 i.rs2), .v (.int .u32 ((i.imm : Nat) : Int))]) rfl rfl rfl ?_
  refine rCall (args := [.agg [.v (.int .i64 i.op), .v (.int .i64 i.rd), .v (.int .i64 i.rs1), .v (.int .i64 i.rs2), .v (.int .u32 ((i.imm : Nat) : Int))]]) (d := 26) (x := .v (.int .i64 ((sizeOf' i.op : Nat) : Int))) rfl rfl rfl rfl (.inl rfl) rfl (dSize i) ?_
  refine rOk (d := 10) (x := .v (.int .u32 ((addrOf i a : Nat) : Int))) rfl rfl rfl ?_
  refine rOk (d := 11) (x := .v (.int .i64 ((sizeOf' i.op : Nat) : Int))) rfl rfl rfl ?_
  refine rEnd (n' := 12) rfl ?_
  refine cSeq ?_
  refine cReg rfl ?_
  refine rOk (d := 27) (x := .agg [.v (.int .i64 i.op), .v (.int .i64 i.rd), .v (.int .i64 i.rs1), .v (.int .i64 i.rs2), .v (.int .u32 ((i.imm : Nat) : Int))]) rfl rfl rfl ?_
  refine rCall (args := [.agg [.v (.int .i64 i.op), .v (.int .i64 i.rd), .v (.int .i64 i.rs1), .v (.int .i64 i.rs2), .v (.int .u32 ((i.imm : Nat) : Int))]]) (d := 28) (x := .v (.int .i64 ((kindOf i.op : Nat) : Int))) rfl rfl rfl rfl (.inl rfl) rfl (dKind i) ?_
  refine rOk (d := 29) (x := .v (.bool ((kindOf i.op) == 4))) rfl rfl (okB (eqN _ _)) ?_
  refine rOk (d := 12) (x := .v (.bool ((kindOf i.op) == 4))) rfl rfl rfl ?_
  refine rEnd (n' := 16) rfl ?_
  refine cSeq ?_
  refine cSeq ?_
  refine cReg rfl ?_
  refine rOk (d := 30) (x := .ptr 0 33) rfl rfl rfl ?_
  refine rOk (d := 31) (x := .v (.string s.mem)) rfl rfl rfl ?_
  refine rOk (d := 32) (x := .v (.int .i64 (s.mem.size : Int))) rfl rfl rfl ?_
  refine rOk (d := 33) (x := .v (.int .u32 ((addrOf i a : Nat) : Int))) rfl rfl rfl ?_
  refine rOk (d := 34) (x := .v (.int .i64 ((sizeOf' i.op : Nat) : Int))) rfl rfl rfl ?_
  refine rCall (args := [.v (.int .i64 (s.mem.size : Int)), .v (.int .u32 ((addrOf i a : Nat) : Int)), .v (.int .i64 ((sizeOf' i.op : Nat) : Int))]) (d := 35) (x := .v (.bool (rightP (s.mem.size : Int) (addrOf i a) ((sizeOf' i.op : Nat) : Int)))) rfl rfl rfl rfl (.inl rfl) rfl (dRight _ _ _ (by have := hs.mem; omega) (Nat.lt_succ_of_le (addr_le i a))) ?_
  refine rOk (d := 36) (x := .v (.bool (!(rightP (s.mem.size : Int) (addrOf i a) ((sizeOf' i.op : Nat) : Int))))) rfl rfl rfl ?_
  refine rEnd (n' := 23) rfl ?_
  refine cCond (v := !(rightP (s.mem.size : Int) (addrOf i a) ((sizeOf' i.op : Nat) : Int))) rfl (fun h1 => ?_) (fun h1 => ?_)
  · skip
    refine cSeq ?_
    refine cReg rfl ?_
    refine rOk (d := 13) (x := .v (.int .i64 4)) rfl rfl rfl ?_
    refine rEnd (n' := 24) rfl ?_
    refine cSeq ?_
    refine cSeq ?_
    refine cReg rfl ?_
    refine rOk (d := 37) (x := .v (.bool ((kindOf i.op) == 4))) rfl rfl rfl ?_
    refine rEnd (n' := 25) rfl ?_
    refine cCond (v := (kindOf i.op) == 4) rfl (fun h2 => ?_) (fun h2 => ?_)
    · skip
      refine cReg rfl ?_
      refine rOk (d := 13) (x := .v (.int .i64 5)) rfl rfl rfl ?_
      refine rEnd (n' := 26) rfl ?_
      refine cSeq ?_
      refine cReg rfl ?_
      refine rOk (d := 39) (x := .agg (stL s.pc s.r s.mem s.halt)) rfl rfl rfl ?_
      refine rOk (d := 40) (x := .v (.int .i64 5)) rfl rfl rfl ?_
      refine rCall (args := [.agg (stL s.pc s.r s.mem s.halt), .v (.int .i64 5)]) (d := 41) (x := .tup [.agg (stL s.pc s.r s.mem 5), .agg [.v (.int .u32 ((s.pc : Nat) : Int)), .v (.int .u32 ((s.pc : Nat) : Int)), .v (.int .i64 0), .v (.int .u32 0), .v (.int .u32 0), .v (.int .i64 0), .v (.bool false), .v (.int .i64 5), .v (.int .i64 0)]]) rfl rfl rfl rfl (.inl rfl) rfl (dHalt s (5) hs) ?_
      refine rOk (d := 38) (x := .tup [.agg (stL s.pc s.r s.mem 5), .agg [.v (.int .u32 ((s.pc : Nat) : Int)), .v (.int .u32 ((s.pc : Nat) : Int)), .v (.int .i64 0), .v (.int .u32 0), .v (.int .u32 0), .v (.int .i64 0), .v (.bool false), .v (.int .i64 5), .v (.int .i64 0)]]) rfl rfl rfl ?_
      refine rOk (d := 42) (x := .agg (stL s.pc s.r s.mem 5)) rfl rfl rfl ?_
      refine rOk (d := 43) (x := .agg [.v (.int .u32 ((s.pc : Nat) : Int)), .v (.int .u32 ((s.pc : Nat) : Int)), .v (.int .i64 0), .v (.int .u32 0), .v (.int .u32 0), .v (.int .i64 0), .v (.bool false), .v (.int .i64 5), .v (.int .i64 0)]) rfl rfl rfl ?_
      refine rFx (d := 14) (x := .ptr 32 0) (h' := upd _ 32 (some (.box (stL 0 (fun _ => 0) (⟨#[]⟩) 0)))) rfl rfl (rfl) (trivial) ?_
      refine rFx (d := 15) (x := .ptr 33 0) (h' := upd _ 33 (some (.box [.v (.int .u32 0), .v (.int .u32 0), .v (.int .i64 0), .v (.int .u32 0), .v (.int .u32 0), .v (.int .i64 0), .v (.bool false), .v (.int .i64 0), .v (.int .i64 0)]))) rfl rfl (rfl) (trivial) ?_
      refine rFx0 (h' := upd _ 32 (some (.box (stL s.pc s.r s.mem 5)))) rfl rfl (rfl) (trivial) ?_
      refine rFx0 (h' := upd _ 33 (some (.box [.v (.int .u32 ((s.pc : Nat) : Int)), .v (.int .u32 ((s.pc : Nat) : Int)), .v (.int .i64 0), .v (.int .u32 0), .v (.int .u32 0), .v (.int .i64 0), .v (.bool false), .v (.int .i64 5), .v (.int .i64 0)]))) rfl rfl (rfl) (trivial) ?_
      refine rEnd (n' := 36) rfl ?_
      refine cSeq ?_
      refine cReg rfl ?_
      refine rOk (d := 44) (x := .v (.int .u32 ((addrOf i a : Nat) : Int))) rfl rfl rfl ?_
      refine rOk (d := 45) (x := .ptr 33 4) rfl rfl rfl ?_
      refine rFx0 (h' := upd _ 33 (some (.box [.v (.int .u32 ((s.pc : Nat) : Int)), .v (.int .u32 ((s.pc : Nat) : Int)), .v (.int .i64 0), .v (.int .u32 0), .v (.int .u32 ((addrOf i a : Nat) : Int)), .v (.int .i64 0), .v (.bool false), .v (.int .i64 5), .v (.int .i64 0)]))) rfl rfl (rfl) (trivial) ?_
      refine rEnd (n' := 39) rfl ?_
      refine cSeq ?_
      refine cAny rfl ?_
      refine aGo [0, 1] (by kernel_rfl) rfl ⟨?_, ?_, trivial⟩
      · skip
        refine sOk (d := 46) (x := .agg (stL s.pc s.r s.mem 5)) rfl rfl rfl rfl ?_
        refine aGo [1, 2] (by kernel_rfl) rfl ⟨?_, ?_, trivial⟩
        · skip
          refine sOk (d := 47) (x := .agg [.v (.int .u32 ((s.pc : Nat) : Int)), .v (.int .u32 ((s.pc : Nat) : Int)), .v (.int .i64 0), .v (.int .u32 0), .v (.int .u32 ((addrOf i a : Nat) : Int)), .v (.int .i64 0), .v (.bool false), .v (.int .i64 5), .v (.int .i64 0)]) rfl rfl rfl rfl ?_
          refine aGo [2] (by kernel_rfl) rfl ⟨?_, trivial⟩
          refine sFx0 (h' := upd _ 2 (some (.box (stL s.pc s.r s.mem 5)))) rfl rfl rfl (rfl) (trivial) ?_
          refine aGo [3] (by kernel_rfl) rfl ⟨?_, trivial⟩
          refine sFx0 (h' := upd _ 3 (some (.box [.v (.int .u32 ((s.pc : Nat) : Int)), .v (.int .u32 ((s.pc : Nat) : Int)), .v (.int .i64 0), .v (.int .u32 0), .v (.int .u32 ((addrOf i a : Nat) : Int)), .v (.int .i64 0), .v (.bool false), .v (.int .i64 5), .v (.int .i64 0)]))) rfl rfl rfl (rfl) (trivial) ?_
          refine aEnd (n' := 43) (by kernel_rfl) rfl ?_
          refine cRet ?_
          exact finTA rfl trivial rfl (by unfold accessP; rw [if_neg (by simpa using h1), if_pos (by simpa using h2)]; rfl)
        · skip
          refine sFx0 (h' := upd _ 2 (some (.box (stL s.pc s.r s.mem 5)))) rfl rfl rfl (rfl) (trivial) ?_
          refine aGo [1] (by kernel_rfl) rfl ⟨?_, trivial⟩
          refine sOk (d := 47) (x := .agg [.v (.int .u32 ((s.pc : Nat) : Int)), .v (.int .u32 ((s.pc : Nat) : Int)), .v (.int .i64 0), .v (.int .u32 0), .v (.int .u32 ((addrOf i a : Nat) : Int)), .v (.int .i64 0), .v (.bool false), .v (.int .i64 5), .v (.int .i64 0)]) rfl rfl rfl rfl ?_
          refine aGo [3] (by kernel_rfl) rfl ⟨?_, trivial⟩
          refine sFx0 (h' := upd _ 3 (some (.box [.v (.int .u32 ((s.pc : Nat) : Int)), .v (.int .u32 ((s.pc : Nat) : Int)), .v (.int .i64 0), .v (.int .u32 0), .v (.int .u32 ((addrOf i a : Nat) : Int)), .v (.int .i64 0), .v (.bool false), .v (.int .i64 5), .v (.int .i64 0)]))) rfl rfl rfl (rfl) (trivial) ?_
          refine aEnd (n' := 43) (by kernel_rfl) rfl ?_
          refine cRet ?_
          exact finTA rfl trivial rfl (by unfold accessP; rw [if_neg (by simpa using h1), if_pos (by simpa using h2)]; rfl)
      · skip
        refine sOk (d := 47) (x := .agg [.v (.int .u32 ((s.pc : Nat) : Int)), .v (.int .u32 ((s.pc : Nat) : Int)), .v (.int .i64 0), .v (.int .u32 0), .v (.int .u32 ((addrOf i a : Nat) : Int)), .v (.int .i64 0), .v (.bool false), .v (.int .i64 5), .v (.int .i64 0)]) rfl rfl rfl rfl ?_
        refine aGo [0] (by kernel_rfl) rfl ⟨?_, trivial⟩
        refine sOk (d := 46) (x := .agg (stL s.pc s.r s.mem 5)) rfl rfl rfl rfl ?_
        refine aGo [2] (by kernel_rfl) rfl ⟨?_, trivial⟩
        refine sFx0 (h' := upd _ 2 (some (.box (stL s.pc s.r s.mem 5)))) rfl rfl rfl (rfl) (trivial) ?_
        refine aGo [3] (by kernel_rfl) rfl ⟨?_, trivial⟩
        refine sFx0 (h' := upd _ 3 (some (.box [.v (.int .u32 ((s.pc : Nat) : Int)), .v (.int .u32 ((s.pc : Nat) : Int)), .v (.int .i64 0), .v (.int .u32 0), .v (.int .u32 ((addrOf i a : Nat) : Int)), .v (.int .i64 0), .v (.bool false), .v (.int .i64 5), .v (.int .i64 0)]))) rfl rfl rfl (rfl) (trivial) ?_
        refine aEnd (n' := 43) (by kernel_rfl) rfl ?_
        refine cRet ?_
        exact finTA rfl trivial rfl (by unfold accessP; rw [if_neg (by simpa using h1), if_pos (by simpa using h2)]; rfl)
    · skip
      refine cSkip ?_
      refine cSeq ?_
      refine cReg rfl ?_
      refine rOk (d := 39) (x := .agg (stL s.pc s.r s.mem s.halt)) rfl rfl rfl ?_
      refine rOk (d := 40) (x := .v (.int .i64 4)) rfl rfl rfl ?_
      refine rCall (args := [.agg (stL s.pc s.r s.mem s.halt), .v (.int .i64 4)]) (d := 41) (x := .tup [.agg (stL s.pc s.r s.mem 4), .agg [.v (.int .u32 ((s.pc : Nat) : Int)), .v (.int .u32 ((s.pc : Nat) : Int)), .v (.int .i64 0), .v (.int .u32 0), .v (.int .u32 0), .v (.int .i64 0), .v (.bool false), .v (.int .i64 4), .v (.int .i64 0)]]) rfl rfl rfl rfl (.inl rfl) rfl (dHalt s (4) hs) ?_
      refine rOk (d := 38) (x := .tup [.agg (stL s.pc s.r s.mem 4), .agg [.v (.int .u32 ((s.pc : Nat) : Int)), .v (.int .u32 ((s.pc : Nat) : Int)), .v (.int .i64 0), .v (.int .u32 0), .v (.int .u32 0), .v (.int .i64 0), .v (.bool false), .v (.int .i64 4), .v (.int .i64 0)]]) rfl rfl rfl ?_
      refine rOk (d := 42) (x := .agg (stL s.pc s.r s.mem 4)) rfl rfl rfl ?_
      refine rOk (d := 43) (x := .agg [.v (.int .u32 ((s.pc : Nat) : Int)), .v (.int .u32 ((s.pc : Nat) : Int)), .v (.int .i64 0), .v (.int .u32 0), .v (.int .u32 0), .v (.int .i64 0), .v (.bool false), .v (.int .i64 4), .v (.int .i64 0)]) rfl rfl rfl ?_
      refine rFx (d := 14) (x := .ptr 31 0) (h' := upd _ 31 (some (.box (stL 0 (fun _ => 0) (⟨#[]⟩) 0)))) rfl rfl (rfl) (trivial) ?_
      refine rFx (d := 15) (x := .ptr 32 0) (h' := upd _ 32 (some (.box [.v (.int .u32 0), .v (.int .u32 0), .v (.int .i64 0), .v (.int .u32 0), .v (.int .u32 0), .v (.int .i64 0), .v (.bool false), .v (.int .i64 0), .v (.int .i64 0)]))) rfl rfl (rfl) (trivial) ?_
      refine rFx0 (h' := upd _ 31 (some (.box (stL s.pc s.r s.mem 4)))) rfl rfl (rfl) (trivial) ?_
      refine rFx0 (h' := upd _ 32 (some (.box [.v (.int .u32 ((s.pc : Nat) : Int)), .v (.int .u32 ((s.pc : Nat) : Int)), .v (.int .i64 0), .v (.int .u32 0), .v (.int .u32 0), .v (.int .i64 0), .v (.bool false), .v (.int .i64 4), .v (.int .i64 0)]))) rfl rfl (rfl) (trivial) ?_
      refine rEnd (n' := 35) rfl ?_
      refine cSeq ?_
      refine cReg rfl ?_
      refine rOk (d := 44) (x := .v (.int .u32 ((addrOf i a : Nat) : Int))) rfl rfl rfl ?_
      refine rOk (d := 45) (x := .ptr 32 4) rfl rfl rfl ?_
      refine rFx0 (h' := upd _ 32 (some (.box [.v (.int .u32 ((s.pc : Nat) : Int)), .v (.int .u32 ((s.pc : Nat) : Int)), .v (.int .i64 0), .v (.int .u32 0), .v (.int .u32 ((addrOf i a : Nat) : Int)), .v (.int .i64 0), .v (.bool false), .v (.int .i64 4), .v (.int .i64 0)]))) rfl rfl (rfl) (trivial) ?_
      refine rEnd (n' := 38) rfl ?_
      refine cSeq ?_
      refine cAny rfl ?_
      refine aGo [0, 1] (by kernel_rfl) rfl ⟨?_, ?_, trivial⟩
      · skip
        refine sOk (d := 46) (x := .agg (stL s.pc s.r s.mem 4)) rfl rfl rfl rfl ?_
        refine aGo [1, 2] (by kernel_rfl) rfl ⟨?_, ?_, trivial⟩
        · skip
          refine sOk (d := 47) (x := .agg [.v (.int .u32 ((s.pc : Nat) : Int)), .v (.int .u32 ((s.pc : Nat) : Int)), .v (.int .i64 0), .v (.int .u32 0), .v (.int .u32 ((addrOf i a : Nat) : Int)), .v (.int .i64 0), .v (.bool false), .v (.int .i64 4), .v (.int .i64 0)]) rfl rfl rfl rfl ?_
          refine aGo [2] (by kernel_rfl) rfl ⟨?_, trivial⟩
          refine sFx0 (h' := upd _ 2 (some (.box (stL s.pc s.r s.mem 4)))) rfl rfl rfl (rfl) (trivial) ?_
          refine aGo [3] (by kernel_rfl) rfl ⟨?_, trivial⟩
          refine sFx0 (h' := upd _ 3 (some (.box [.v (.int .u32 ((s.pc : Nat) : Int)), .v (.int .u32 ((s.pc : Nat) : Int)), .v (.int .i64 0), .v (.int .u32 0), .v (.int .u32 ((addrOf i a : Nat) : Int)), .v (.int .i64 0), .v (.bool false), .v (.int .i64 4), .v (.int .i64 0)]))) rfl rfl rfl (rfl) (trivial) ?_
          refine aEnd (n' := 42) (by kernel_rfl) rfl ?_
          refine cRet ?_
          exact finTA rfl trivial rfl (by unfold accessP; rw [if_neg (by simpa using h1), if_neg (by simpa using h2)]; rfl)
        · skip
          refine sFx0 (h' := upd _ 2 (some (.box (stL s.pc s.r s.mem 4)))) rfl rfl rfl (rfl) (trivial) ?_
          refine aGo [1] (by kernel_rfl) rfl ⟨?_, trivial⟩
          refine sOk (d := 47) (x := .agg [.v (.int .u32 ((s.pc : Nat) : Int)), .v (.int .u32 ((s.pc : Nat) : Int)), .v (.int .i64 0), .v (.int .u32 0), .v (.int .u32 ((addrOf i a : Nat) : Int)), .v (.int .i64 0), .v (.bool false), .v (.int .i64 4), .v (.int .i64 0)]) rfl rfl rfl rfl ?_
          refine aGo [3] (by kernel_rfl) rfl ⟨?_, trivial⟩
          refine sFx0 (h' := upd _ 3 (some (.box [.v (.int .u32 ((s.pc : Nat) : Int)), .v (.int .u32 ((s.pc : Nat) : Int)), .v (.int .i64 0), .v (.int .u32 0), .v (.int .u32 ((addrOf i a : Nat) : Int)), .v (.int .i64 0), .v (.bool false), .v (.int .i64 4), .v (.int .i64 0)]))) rfl rfl rfl (rfl) (trivial) ?_
          refine aEnd (n' := 42) (by kernel_rfl) rfl ?_
          refine cRet ?_
          exact finTA rfl trivial rfl (by unfold accessP; rw [if_neg (by simpa using h1), if_neg (by simpa using h2)]; rfl)
      · skip
        refine sOk (d := 47) (x := .agg [.v (.int .u32 ((s.pc : Nat) : Int)), .v (.int .u32 ((s.pc : Nat) : Int)), .v (.int .i64 0), .v (.int .u32 0), .v (.int .u32 ((addrOf i a : Nat) : Int)), .v (.int .i64 0), .v (.bool false), .v (.int .i64 4), .v (.int .i64 0)]) rfl rfl rfl rfl ?_
        refine aGo [0] (by kernel_rfl) rfl ⟨?_, trivial⟩
        refine sOk (d := 46) (x := .agg (stL s.pc s.r s.mem 4)) rfl rfl rfl rfl ?_
        refine aGo [2] (by kernel_rfl) rfl ⟨?_, trivial⟩
        refine sFx0 (h' := upd _ 2 (some (.box (stL s.pc s.r s.mem 4)))) rfl rfl rfl (rfl) (trivial) ?_
        refine aGo [3] (by kernel_rfl) rfl ⟨?_, trivial⟩
        refine sFx0 (h' := upd _ 3 (some (.box [.v (.int .u32 ((s.pc : Nat) : Int)), .v (.int .u32 ((s.pc : Nat) : Int)), .v (.int .i64 0), .v (.int .u32 0), .v (.int .u32 ((addrOf i a : Nat) : Int)), .v (.int .i64 0), .v (.bool false), .v (.int .i64 4), .v (.int .i64 0)]))) rfl rfl rfl (rfl) (trivial) ?_
        refine aEnd (n' := 42) (by kernel_rfl) rfl ?_
        refine cRet ?_
        exact finTA rfl trivial rfl (by unfold accessP; rw [if_neg (by simpa using h1), if_neg (by simpa using h2)]; rfl)
  · skip
    refine cSkip ?_
    refine cSeq ?_
    refine cReg rfl ?_
    refine rOk (d := 48) (x := .ptr 0 0) rfl rfl rfl ?_
    refine rOk (d := 49) (x := .v (.int .u32 ((s.pc : Nat) : Int))) rfl rfl rfl ?_
    refine rOk (d := 50) (x := .ptr 0 0) rfl rfl rfl ?_
    refine rOk (d := 51) (x := .v (.int .u32 ((s.pc : Nat) : Int))) rfl rfl rfl ?_
    refine rOk (d := 52) (x := .v (.int .u32 ((up4 s.pc : Nat) : Int))) rfl rfl rfl ?_
    refine rOk (d := 53) (x := .agg [.v (.int .i64 i.op), .v (.int .i64 i.rd), .v (.int .i64 i.rs1), .v (.int .i64 i.rs2), .v (.int .u32 ((i.imm : Nat) : Int))]) rfl rfl rfl ?_
    refine rCall (args := [.agg [.v (.int .i64 i.op), .v (.int .i64 i.rd), .v (.int .i64 i.rs1), .v (.int .i64 i.rs2), .v (.int .u32 ((i.imm : Nat) : Int))]]) (d := 54) (x := .v (.int .i64 (wr i))) rfl rfl rfl rfl (.inl rfl) rfl (dWrites i) ?_
    refine rOk (d := 55) (x := .v (.int .u32 ((addrOf i a : Nat) : Int))) rfl rfl rfl ?_
    refine rOk (d := 56) (x := .v (.int .i64 ((sizeOf' i.op : Nat) : Int))) rfl rfl rfl ?_
    refine rOk (d := 57) (x := .v (.bool ((kindOf i.op) == 4))) rfl rfl rfl ?_
    refine rOk (d := 58) (x := .agg [.v (.int .u32 ((s.pc : Nat) : Int)), .v (.int .u32 ((up4 s.pc : Nat) : Int)), .v (.int .i64 (wr i)), .v (.int .u32 0), .v (.int .u32 ((addrOf i a : Nat) : Int)), .v (.int .i64 ((sizeOf' i.op : Nat) : Int)), .v (.bool ((kindOf i.op) == 4)), .v (.int .i64 0), .v (.int .i64 0)]) rfl rfl rfl ?_
    refine rFx (d := 16) (x := .ptr 34 0) (h' := upd _ 34 (some (.box [.v (.int .u32 0), .v (.int .u32 0), .v (.int .i64 0), .v (.int .u32 0), .v (.int .u32 0), .v (.int .i64 0), .v (.bool false), .v (.int .i64 0), .v (.int .i64 0)]))) rfl rfl (rfl) (trivial) ?_
    refine rFx0 (h' := upd _ 34 (some (.box [.v (.int .u32 ((s.pc : Nat) : Int)), .v (.int .u32 ((up4 s.pc : Nat) : Int)), .v (.int .i64 (wr i)), .v (.int .u32 0), .v (.int .u32 ((addrOf i a : Nat) : Int)), .v (.int .i64 ((sizeOf' i.op : Nat) : Int)), .v (.bool ((kindOf i.op) == 4)), .v (.int .i64 0), .v (.int .i64 0)]))) rfl rfl (rfl) (trivial) ?_
    refine rEnd (n' := 36) rfl ?_
    refine cSeq ?_
    refine cSeq ?_
    refine cReg rfl ?_
    refine rOk (d := 59) (x := .v (.bool ((kindOf i.op) == 4))) rfl rfl rfl ?_
    refine rEnd (n' := 37) rfl ?_
    refine cCond (v := (kindOf i.op) == 4) rfl (fun h3 => ?_) (fun h3 => ?_)
    · skip
      refine cSeq ?_
      refine cReg rfl ?_
      refine rOk (d := 61) (x := .v (.int .u32 ((b : Nat) : Int))) rfl rfl rfl ?_
      refine rOk (d := 62) (x := .v (.int .i64 ((sizeOf' i.op : Nat) : Int))) rfl rfl rfl ?_
      refine rCall (args := [.v (.int .u32 ((b : Nat) : Int)), .v (.int .i64 ((sizeOf' i.op : Nat) : Int))]) (d := 63) (x := .tup [.v (.string (bytesP b (sizeOf' i.op))), .v (.int .i64 0)]) rfl rfl rfl rfl (.inl rfl) rfl (dBytes b (sizeOf' i.op) (Nat.lt_succ_of_le hb) (size_le4 i.op)) ?_
      refine rOk (d := 60) (x := .tup [.v (.string (bytesP b (sizeOf' i.op))), .v (.int .i64 0)]) rfl rfl rfl ?_
      refine rOk (d := 64) (x := .v (.string (bytesP b (sizeOf' i.op)))) rfl rfl rfl ?_
      refine rOk (d := 65) (x := .v (.int .i64 0)) rfl rfl rfl ?_
      refine rOk (d := 17) (x := .v (.string (bytesP b (sizeOf' i.op)))) rfl rfl rfl ?_
      refine rOk (d := 18) (x := .v (.int .i64 0)) rfl rfl rfl ?_
      refine rEnd (n' := 45) rfl ?_
      refine cSeq ?_
      refine cReg rfl ?_
      refine rOk (d := 67) (x := .v (.string (bytesP b (sizeOf' i.op)))) rfl rfl rfl ?_
      refine rCall (args := [.v (.string (bytesP b (sizeOf' i.op)))]) (d := 68) (x := .tup [.v (.int .u32 ((valB b (sizeOf' i.op) : Nat) : Int)), .v (.int .i64 0)]) rfl rfl rfl rfl (.inl rfl) rfl (dJoin _ (by rw [bytesP_size]; exact size_le4 i.op)) ?_
      refine rOk (d := 66) (x := .tup [.v (.int .u32 ((valB b (sizeOf' i.op) : Nat) : Int)), .v (.int .i64 0)]) rfl rfl rfl ?_
      refine rOk (d := 69) (x := .v (.int .u32 ((valB b (sizeOf' i.op) : Nat) : Int))) rfl rfl rfl ?_
      refine rOk (d := 70) (x := .v (.int .i64 0)) rfl rfl rfl ?_
      refine rOk (d := 71) (x := .ptr 34 3) rfl rfl rfl ?_
      refine rFx0 (h' := upd _ 34 (some (.box [.v (.int .u32 ((s.pc : Nat) : Int)), .v (.int .u32 ((up4 s.pc : Nat) : Int)), .v (.int .i64 (wr i)), .v (.int .u32 ((valB b (sizeOf' i.op) : Nat) : Int)), .v (.int .u32 ((addrOf i a : Nat) : Int)), .v (.int .i64 ((sizeOf' i.op : Nat) : Int)), .v (.bool ((kindOf i.op) == 4)), .v (.int .i64 0), .v (.int .i64 0)]))) rfl rfl (rfl) (trivial) ?_
      refine rEnd (n' := 52) rfl ?_
      refine cReg rfl ?_
      refine rOk (d := 73) (x := .ptr 0 33) rfl rfl rfl ?_
      refine rOk (d := 74) (x := .v (.string s.mem)) rfl rfl rfl ?_
      refine rOk (d := 75) (x := .v (.int .u32 ((addrOf i a : Nat) : Int))) rfl rfl rfl ?_
      refine rOk (d := 76) (x := .v (.string (bytesP b (sizeOf' i.op)))) rfl rfl rfl ?_
      refine rCall (args := [.v (.string s.mem), .v (.int .u32 ((addrOf i a : Nat) : Int)), .v (.string (bytesP b (sizeOf' i.op)))]) (d := 77) (x := .tup [.v (.string (writeP s.mem (addrOf i a) (bytesP b (sizeOf' i.op)))), .v (.int .i64 0)]) rfl rfl rfl rfl (.inl rfl) rfl (dWrite _ _ _ (by rw [bytesP_size]; simpa using h1) hs.mem (addr_le i a)) ?_
      refine rOk (d := 72) (x := .tup [.v (.string (writeP s.mem (addrOf i a) (bytesP b (sizeOf' i.op)))), .v (.int .i64 0)]) rfl rfl rfl ?_
      refine rOk (d := 78) (x := .v (.string (writeP s.mem (addrOf i a) (bytesP b (sizeOf' i.op))))) rfl rfl rfl ?_
      refine rOk (d := 79) (x := .v (.int .i64 0)) rfl rfl rfl ?_
      refine rOk (d := 80) (x := .ptr 0 33) rfl rfl rfl ?_
      refine rFx0 (h' := upd _ 0 (some (.box (stL s.pc s.r (writeP s.mem (addrOf i a) (bytesP b (sizeOf' i.op))) s.halt)))) rfl rfl (rfl) (trivial) ?_
      refine rEnd (n' := 62) rfl ?_
      refine cSeq ?_
      refine cReg rfl ?_
      refine rOk (d := 103) (x := .ptr 34 1) rfl rfl rfl ?_
      refine rOk (d := 104) (x := .v (.int .u32 ((up4 s.pc : Nat) : Int))) rfl rfl rfl ?_
      refine rOk (d := 105) (x := .ptr 0 0) rfl rfl rfl ?_
      refine rFx0 (h' := upd _ 0 (some (.box (stL (up4 s.pc) s.r (writeP s.mem (addrOf i a) (bytesP b (sizeOf' i.op))) s.halt)))) rfl rfl (rfl) (trivial) ?_
      refine rEnd (n' := 66) rfl ?_
      refine cSeq ?_
      refine cAny rfl ?_
      refine aGo [0, 1] (by kernel_rfl) rfl ⟨?_, ?_, trivial⟩
      · skip
        refine sOk (d := 106) (x := .agg (stL (up4 s.pc) s.r (writeP s.mem (addrOf i a) (bytesP b (sizeOf' i.op))) s.halt)) rfl rfl rfl rfl ?_
        refine aGo [1, 2] (by kernel_rfl) rfl ⟨?_, ?_, trivial⟩
        · skip
          refine sOk (d := 107) (x := .agg [.v (.int .u32 ((s.pc : Nat) : Int)), .v (.int .u32 ((up4 s.pc : Nat) : Int)), .v (.int .i64 (wr i)), .v (.int .u32 ((valB b (sizeOf' i.op) : Nat) : Int)), .v (.int .u32 ((addrOf i a : Nat) : Int)), .v (.int .i64 ((sizeOf' i.op : Nat) : Int)), .v (.bool ((kindOf i.op) == 4)), .v (.int .i64 0), .v (.int .i64 0)]) rfl rfl rfl rfl ?_
          refine aGo [2] (by kernel_rfl) rfl ⟨?_, trivial⟩
          refine sFx0 (h' := upd _ 2 (some (.box (stL (up4 s.pc) s.r (writeP s.mem (addrOf i a) (bytesP b (sizeOf' i.op))) s.halt)))) rfl rfl rfl (rfl) (trivial) ?_
          refine aGo [3] (by kernel_rfl) rfl ⟨?_, trivial⟩
          refine sFx0 (h' := upd _ 3 (some (.box [.v (.int .u32 ((s.pc : Nat) : Int)), .v (.int .u32 ((up4 s.pc : Nat) : Int)), .v (.int .i64 (wr i)), .v (.int .u32 ((valB b (sizeOf' i.op) : Nat) : Int)), .v (.int .u32 ((addrOf i a : Nat) : Int)), .v (.int .i64 ((sizeOf' i.op : Nat) : Int)), .v (.bool ((kindOf i.op) == 4)), .v (.int .i64 0), .v (.int .i64 0)]))) rfl rfl rfl (rfl) (trivial) ?_
          refine aEnd (n' := 70) (by kernel_rfl) rfl ?_
          refine cRet ?_
          exact finTA rfl trivial rfl (by unfold accessP; rw [if_pos (by simpa using h1), if_pos (by simpa using h3)]; rfl)
        · skip
          refine sFx0 (h' := upd _ 2 (some (.box (stL (up4 s.pc) s.r (writeP s.mem (addrOf i a) (bytesP b (sizeOf' i.op))) s.halt)))) rfl rfl rfl (rfl) (trivial) ?_
          refine aGo [1] (by kernel_rfl) rfl ⟨?_, trivial⟩
          refine sOk (d := 107) (x := .agg [.v (.int .u32 ((s.pc : Nat) : Int)), .v (.int .u32 ((up4 s.pc : Nat) : Int)), .v (.int .i64 (wr i)), .v (.int .u32 ((valB b (sizeOf' i.op) : Nat) : Int)), .v (.int .u32 ((addrOf i a : Nat) : Int)), .v (.int .i64 ((sizeOf' i.op : Nat) : Int)), .v (.bool ((kindOf i.op) == 4)), .v (.int .i64 0), .v (.int .i64 0)]) rfl rfl rfl rfl ?_
          refine aGo [3] (by kernel_rfl) rfl ⟨?_, trivial⟩
          refine sFx0 (h' := upd _ 3 (some (.box [.v (.int .u32 ((s.pc : Nat) : Int)), .v (.int .u32 ((up4 s.pc : Nat) : Int)), .v (.int .i64 (wr i)), .v (.int .u32 ((valB b (sizeOf' i.op) : Nat) : Int)), .v (.int .u32 ((addrOf i a : Nat) : Int)), .v (.int .i64 ((sizeOf' i.op : Nat) : Int)), .v (.bool ((kindOf i.op) == 4)), .v (.int .i64 0), .v (.int .i64 0)]))) rfl rfl rfl (rfl) (trivial) ?_
          refine aEnd (n' := 70) (by kernel_rfl) rfl ?_
          refine cRet ?_
          exact finTA rfl trivial rfl (by unfold accessP; rw [if_pos (by simpa using h1), if_pos (by simpa using h3)]; rfl)
      · skip
        refine sOk (d := 107) (x := .agg [.v (.int .u32 ((s.pc : Nat) : Int)), .v (.int .u32 ((up4 s.pc : Nat) : Int)), .v (.int .i64 (wr i)), .v (.int .u32 ((valB b (sizeOf' i.op) : Nat) : Int)), .v (.int .u32 ((addrOf i a : Nat) : Int)), .v (.int .i64 ((sizeOf' i.op : Nat) : Int)), .v (.bool ((kindOf i.op) == 4)), .v (.int .i64 0), .v (.int .i64 0)]) rfl rfl rfl rfl ?_
        refine aGo [0] (by kernel_rfl) rfl ⟨?_, trivial⟩
        refine sOk (d := 106) (x := .agg (stL (up4 s.pc) s.r (writeP s.mem (addrOf i a) (bytesP b (sizeOf' i.op))) s.halt)) rfl rfl rfl rfl ?_
        refine aGo [2] (by kernel_rfl) rfl ⟨?_, trivial⟩
        refine sFx0 (h' := upd _ 2 (some (.box (stL (up4 s.pc) s.r (writeP s.mem (addrOf i a) (bytesP b (sizeOf' i.op))) s.halt)))) rfl rfl rfl (rfl) (trivial) ?_
        refine aGo [3] (by kernel_rfl) rfl ⟨?_, trivial⟩
        refine sFx0 (h' := upd _ 3 (some (.box [.v (.int .u32 ((s.pc : Nat) : Int)), .v (.int .u32 ((up4 s.pc : Nat) : Int)), .v (.int .i64 (wr i)), .v (.int .u32 ((valB b (sizeOf' i.op) : Nat) : Int)), .v (.int .u32 ((addrOf i a : Nat) : Int)), .v (.int .i64 ((sizeOf' i.op : Nat) : Int)), .v (.bool ((kindOf i.op) == 4)), .v (.int .i64 0), .v (.int .i64 0)]))) rfl rfl rfl (rfl) (trivial) ?_
        refine aEnd (n' := 70) (by kernel_rfl) rfl ?_
        refine cRet ?_
        exact finTA rfl trivial rfl (by unfold accessP; rw [if_pos (by simpa using h1), if_pos (by simpa using h3)]; rfl)
    · skip
      refine cSeq ?_
      refine cReg rfl ?_
      refine rOk (d := 81) (x := .ptr 34 2) rfl rfl rfl ?_
      refine rOk (d := 82) (x := .v (.int .i64 (wr i))) rfl rfl rfl ?_
      refine rOk (d := 83) (x := .v (.bool ((wr i) != 0))) rfl rfl rfl ?_
      refine rEnd (n' := 40) rfl ?_
      refine cCond (v := (wr i) != 0) rfl (fun h4 => ?_) (fun h4 => ?_)
      · skip
        refine cSeq ?_
        refine cReg rfl ?_
        refine rOk (d := 85) (x := .ptr 0 33) rfl rfl rfl ?_
        refine rOk (d := 86) (x := .v (.string s.mem)) rfl rfl rfl ?_
        refine rOk (d := 87) (x := .v (.int .u32 ((addrOf i a : Nat) : Int))) rfl rfl rfl ?_
        refine rOk (d := 88) (x := .v (.int .i64 ((sizeOf' i.op : Nat) : Int))) rfl rfl rfl ?_
        refine rCall (args := [.v (.string s.mem), .v (.int .u32 ((addrOf i a : Nat) : Int)), .v (.int .i64 ((sizeOf' i.op : Nat) : Int))]) (d := 89) (x := .tup [.v (.string (readP s.mem (addrOf i a) (sizeOf' i.op))), .v (.int .i64 0)]) rfl rfl rfl rfl (.inl rfl) rfl (dRead _ _ _ (by simpa using h1) hs.mem (addr_le i a)) ?_
        refine rOk (d := 84) (x := .tup [.v (.string (readP s.mem (addrOf i a) (sizeOf' i.op))), .v (.int .i64 0)]) rfl rfl rfl ?_
        refine rOk (d := 90) (x := .v (.string (readP s.mem (addrOf i a) (sizeOf' i.op)))) rfl rfl rfl ?_
        refine rOk (d := 91) (x := .v (.int .i64 0)) rfl rfl rfl ?_
        refine rOk (d := 19) (x := .v (.string (readP s.mem (addrOf i a) (sizeOf' i.op)))) rfl rfl rfl ?_
        refine rOk (d := 20) (x := .v (.int .i64 0)) rfl rfl rfl ?_
        refine rEnd (n' := 50) rfl ?_
        refine cSeq ?_
        refine cReg rfl ?_
        refine rOk (d := 92) (x := .ptr 1 0) rfl rfl rfl ?_
        refine rOk (d := 93) (x := .v (.int .i64 i.op)) rfl rfl rfl ?_
        refine rOk (d := 94) (x := .v (.string (readP s.mem (addrOf i a) (sizeOf' i.op)))) rfl rfl rfl ?_
        refine rCall (args := [.v (.int .i64 i.op), .v (.string (readP s.mem (addrOf i a) (sizeOf' i.op)))]) (d := 95) (x := .v (.int .u32 ((loadP i.op (readP s.mem (addrOf i a) (sizeOf' i.op)) : Nat) : Int))) rfl rfl rfl rfl (.inl rfl) rfl (dLoad _ _ (readP_lt hs.mem _ _)) ?_
        refine rOk (d := 96) (x := .ptr 34 3) rfl rfl rfl ?_
        refine rFx0 (h' := upd _ 34 (some (.box [.v (.int .u32 ((s.pc : Nat) : Int)), .v (.int .u32 ((up4 s.pc : Nat) : Int)), .v (.int .i64 (wr i)), .v (.int .u32 ((loadP i.op (readP s.mem (addrOf i a) (sizeOf' i.op)) : Nat) : Int)), .v (.int .u32 ((addrOf i a : Nat) : Int)), .v (.int .i64 ((sizeOf' i.op : Nat) : Int)), .v (.bool ((kindOf i.op) == 4)), .v (.int .i64 0), .v (.int .i64 0)]))) rfl rfl (rfl) (trivial) ?_
        refine rEnd (n' := 56) rfl ?_
        refine cReg rfl ?_
        refine rOk (d := 97) (x := .ptr 34 2) rfl rfl rfl ?_
        refine rOk (d := 98) (x := .v (.int .i64 (wr i))) rfl rfl rfl ?_
        refine rOk (d := 99) (x := .ptr 34 3) rfl rfl rfl ?_
        refine rOk (d := 100) (x := .v (.int .u32 ((loadP i.op (readP s.mem (addrOf i a) (sizeOf' i.op)) : Nat) : Int))) rfl rfl rfl ?_
        refine rOk (d := 101) (x := .ptr 0 1) rfl rfl rfl ?_
        refine rNeed (d := 102) (x := .ptr 0 (1 + (wr i).toNat * 1)) rfl rfl rfl (by omega) ?_
        refine rFx0 (h' := upd _ 0 (some (.box (stL s.pc (setR s.r ((wr i).toNat) (loadP i.op (readP s.mem (addrOf i a) (sizeOf' i.op)))) s.mem s.halt)))) rfl rfl (stR (n := (wr i).toNat) (v := loadP i.op (readP s.mem (addrOf i a) (sizeOf' i.op))) (r := s.r) rfl rfl rfl (by omega)) (trivial) ?_
        refine rEnd (n' := 63) rfl ?_
        refine cSeq ?_
        refine cReg rfl ?_
        refine rOk (d := 103) (x := .ptr 34 1) rfl rfl rfl ?_
        refine rOk (d := 104) (x := .v (.int .u32 ((up4 s.pc : Nat) : Int))) rfl rfl rfl ?_
        refine rOk (d := 105) (x := .ptr 0 0) rfl rfl rfl ?_
        refine rFx0 (h' := upd _ 0 (some (.box (stL (up4 s.pc) (setR s.r ((wr i).toNat) (loadP i.op (readP s.mem (addrOf i a) (sizeOf' i.op)))) s.mem s.halt)))) rfl rfl (rfl) (trivial) ?_
        refine rEnd (n' := 67) rfl ?_
        refine cSeq ?_
        refine cAny rfl ?_
        refine aGo [0, 1] (by kernel_rfl) rfl ⟨?_, ?_, trivial⟩
        · skip
          refine sOk (d := 106) (x := .agg (stL (up4 s.pc) (setR s.r ((wr i).toNat) (loadP i.op (readP s.mem (addrOf i a) (sizeOf' i.op)))) s.mem s.halt)) rfl rfl rfl rfl ?_
          refine aGo [1, 2] (by kernel_rfl) rfl ⟨?_, ?_, trivial⟩
          · skip
            refine sOk (d := 107) (x := .agg [.v (.int .u32 ((s.pc : Nat) : Int)), .v (.int .u32 ((up4 s.pc : Nat) : Int)), .v (.int .i64 (wr i)), .v (.int .u32 ((loadP i.op (readP s.mem (addrOf i a) (sizeOf' i.op)) : Nat) : Int)), .v (.int .u32 ((addrOf i a : Nat) : Int)), .v (.int .i64 ((sizeOf' i.op : Nat) : Int)), .v (.bool ((kindOf i.op) == 4)), .v (.int .i64 0), .v (.int .i64 0)]) rfl rfl rfl rfl ?_
            refine aGo [2] (by kernel_rfl) rfl ⟨?_, trivial⟩
            refine sFx0 (h' := upd _ 2 (some (.box (stL (up4 s.pc) (setR s.r ((wr i).toNat) (loadP i.op (readP s.mem (addrOf i a) (sizeOf' i.op)))) s.mem s.halt)))) rfl rfl rfl (rfl) (trivial) ?_
            refine aGo [3] (by kernel_rfl) rfl ⟨?_, trivial⟩
            refine sFx0 (h' := upd _ 3 (some (.box [.v (.int .u32 ((s.pc : Nat) : Int)), .v (.int .u32 ((up4 s.pc : Nat) : Int)), .v (.int .i64 (wr i)), .v (.int .u32 ((loadP i.op (readP s.mem (addrOf i a) (sizeOf' i.op)) : Nat) : Int)), .v (.int .u32 ((addrOf i a : Nat) : Int)), .v (.int .i64 ((sizeOf' i.op : Nat) : Int)), .v (.bool ((kindOf i.op) == 4)), .v (.int .i64 0), .v (.int .i64 0)]))) rfl rfl rfl (rfl) (trivial) ?_
            refine aEnd (n' := 71) (by kernel_rfl) rfl ?_
            refine cRet ?_
            exact finTA rfl trivial rfl (by unfold accessP; rw [if_pos (by simpa using h1), if_neg (by simpa using h3), if_neg (by simpa using h4)]; rfl)
          · skip
            refine sFx0 (h' := upd _ 2 (some (.box (stL (up4 s.pc) (setR s.r ((wr i).toNat) (loadP i.op (readP s.mem (addrOf i a) (sizeOf' i.op)))) s.mem s.halt)))) rfl rfl rfl (rfl) (trivial) ?_
            refine aGo [1] (by kernel_rfl) rfl ⟨?_, trivial⟩
            refine sOk (d := 107) (x := .agg [.v (.int .u32 ((s.pc : Nat) : Int)), .v (.int .u32 ((up4 s.pc : Nat) : Int)), .v (.int .i64 (wr i)), .v (.int .u32 ((loadP i.op (readP s.mem (addrOf i a) (sizeOf' i.op)) : Nat) : Int)), .v (.int .u32 ((addrOf i a : Nat) : Int)), .v (.int .i64 ((sizeOf' i.op : Nat) : Int)), .v (.bool ((kindOf i.op) == 4)), .v (.int .i64 0), .v (.int .i64 0)]) rfl rfl rfl rfl ?_
            refine aGo [3] (by kernel_rfl) rfl ⟨?_, trivial⟩
            refine sFx0 (h' := upd _ 3 (some (.box [.v (.int .u32 ((s.pc : Nat) : Int)), .v (.int .u32 ((up4 s.pc : Nat) : Int)), .v (.int .i64 (wr i)), .v (.int .u32 ((loadP i.op (readP s.mem (addrOf i a) (sizeOf' i.op)) : Nat) : Int)), .v (.int .u32 ((addrOf i a : Nat) : Int)), .v (.int .i64 ((sizeOf' i.op : Nat) : Int)), .v (.bool ((kindOf i.op) == 4)), .v (.int .i64 0), .v (.int .i64 0)]))) rfl rfl rfl (rfl) (trivial) ?_
            refine aEnd (n' := 71) (by kernel_rfl) rfl ?_
            refine cRet ?_
            exact finTA rfl trivial rfl (by unfold accessP; rw [if_pos (by simpa using h1), if_neg (by simpa using h3), if_neg (by simpa using h4)]; rfl)
        · skip
          refine sOk (d := 107) (x := .agg [.v (.int .u32 ((s.pc : Nat) : Int)), .v (.int .u32 ((up4 s.pc : Nat) : Int)), .v (.int .i64 (wr i)), .v (.int .u32 ((loadP i.op (readP s.mem (addrOf i a) (sizeOf' i.op)) : Nat) : Int)), .v (.int .u32 ((addrOf i a : Nat) : Int)), .v (.int .i64 ((sizeOf' i.op : Nat) : Int)), .v (.bool ((kindOf i.op) == 4)), .v (.int .i64 0), .v (.int .i64 0)]) rfl rfl rfl rfl ?_
          refine aGo [0] (by kernel_rfl) rfl ⟨?_, trivial⟩
          refine sOk (d := 106) (x := .agg (stL (up4 s.pc) (setR s.r ((wr i).toNat) (loadP i.op (readP s.mem (addrOf i a) (sizeOf' i.op)))) s.mem s.halt)) rfl rfl rfl rfl ?_
          refine aGo [2] (by kernel_rfl) rfl ⟨?_, trivial⟩
          refine sFx0 (h' := upd _ 2 (some (.box (stL (up4 s.pc) (setR s.r ((wr i).toNat) (loadP i.op (readP s.mem (addrOf i a) (sizeOf' i.op)))) s.mem s.halt)))) rfl rfl rfl (rfl) (trivial) ?_
          refine aGo [3] (by kernel_rfl) rfl ⟨?_, trivial⟩
          refine sFx0 (h' := upd _ 3 (some (.box [.v (.int .u32 ((s.pc : Nat) : Int)), .v (.int .u32 ((up4 s.pc : Nat) : Int)), .v (.int .i64 (wr i)), .v (.int .u32 ((loadP i.op (readP s.mem (addrOf i a) (sizeOf' i.op)) : Nat) : Int)), .v (.int .u32 ((addrOf i a : Nat) : Int)), .v (.int .i64 ((sizeOf' i.op : Nat) : Int)), .v (.bool ((kindOf i.op) == 4)), .v (.int .i64 0), .v (.int .i64 0)]))) rfl rfl rfl (rfl) (trivial) ?_
          refine aEnd (n' := 71) (by kernel_rfl) rfl ?_
          refine cRet ?_
          exact finTA rfl trivial rfl (by unfold accessP; rw [if_pos (by simpa using h1), if_neg (by simpa using h3), if_neg (by simpa using h4)]; rfl)
      · skip
        refine cSkip ?_
        refine cSeq ?_
        refine cReg rfl ?_
        refine rOk (d := 103) (x := .ptr 34 1) rfl rfl rfl ?_
        refine rOk (d := 104) (x := .v (.int .u32 ((up4 s.pc : Nat) : Int))) rfl rfl rfl ?_
        refine rOk (d := 105) (x := .ptr 0 0) rfl rfl rfl ?_
        refine rFx0 (h' := upd _ 0 (some (.box (stL (up4 s.pc) s.r s.mem s.halt)))) rfl rfl (rfl) (trivial) ?_
        refine rEnd (n' := 44) rfl ?_
        refine cSeq ?_
        refine cAny rfl ?_
        refine aGo [0, 1] (by kernel_rfl) rfl ⟨?_, ?_, trivial⟩
        · skip
          refine sOk (d := 106) (x := .agg (stL (up4 s.pc) s.r s.mem s.halt)) rfl rfl rfl rfl ?_
          refine aGo [1, 2] (by kernel_rfl) rfl ⟨?_, ?_, trivial⟩
          · skip
            refine sOk (d := 107) (x := .agg [.v (.int .u32 ((s.pc : Nat) : Int)), .v (.int .u32 ((up4 s.pc : Nat) : Int)), .v (.int .i64 (wr i)), .v (.int .u32 0), .v (.int .u32 ((addrOf i a : Nat) : Int)), .v (.int .i64 ((sizeOf' i.op : Nat) : Int)), .v (.bool ((kindOf i.op) == 4)), .v (.int .i64 0), .v (.int .i64 0)]) rfl rfl rfl rfl ?_
            refine aGo [2] (by kernel_rfl) rfl ⟨?_, trivial⟩
            refine sFx0 (h' := upd _ 2 (some (.box (stL (up4 s.pc) s.r s.mem s.halt)))) rfl rfl rfl (rfl) (trivial) ?_
            refine aGo [3] (by kernel_rfl) rfl ⟨?_, trivial⟩
            refine sFx0 (h' := upd _ 3 (some (.box [.v (.int .u32 ((s.pc : Nat) : Int)), .v (.int .u32 ((up4 s.pc : Nat) : Int)), .v (.int .i64 (wr i)), .v (.int .u32 0), .v (.int .u32 ((addrOf i a : Nat) : Int)), .v (.int .i64 ((sizeOf' i.op : Nat) : Int)), .v (.bool ((kindOf i.op) == 4)), .v (.int .i64 0), .v (.int .i64 0)]))) rfl rfl rfl (rfl) (trivial) ?_
            refine aEnd (n' := 48) (by kernel_rfl) rfl ?_
            refine cRet ?_
            exact finTA rfl trivial rfl (by unfold accessP; rw [if_pos (by simpa using h1), if_neg (by simpa using h3), if_pos (by simpa using h4)]; rfl)
          · skip
            refine sFx0 (h' := upd _ 2 (some (.box (stL (up4 s.pc) s.r s.mem s.halt)))) rfl rfl rfl (rfl) (trivial) ?_
            refine aGo [1] (by kernel_rfl) rfl ⟨?_, trivial⟩
            refine sOk (d := 107) (x := .agg [.v (.int .u32 ((s.pc : Nat) : Int)), .v (.int .u32 ((up4 s.pc : Nat) : Int)), .v (.int .i64 (wr i)), .v (.int .u32 0), .v (.int .u32 ((addrOf i a : Nat) : Int)), .v (.int .i64 ((sizeOf' i.op : Nat) : Int)), .v (.bool ((kindOf i.op) == 4)), .v (.int .i64 0), .v (.int .i64 0)]) rfl rfl rfl rfl ?_
            refine aGo [3] (by kernel_rfl) rfl ⟨?_, trivial⟩
            refine sFx0 (h' := upd _ 3 (some (.box [.v (.int .u32 ((s.pc : Nat) : Int)), .v (.int .u32 ((up4 s.pc : Nat) : Int)), .v (.int .i64 (wr i)), .v (.int .u32 0), .v (.int .u32 ((addrOf i a : Nat) : Int)), .v (.int .i64 ((sizeOf' i.op : Nat) : Int)), .v (.bool ((kindOf i.op) == 4)), .v (.int .i64 0), .v (.int .i64 0)]))) rfl rfl rfl (rfl) (trivial) ?_
            refine aEnd (n' := 48) (by kernel_rfl) rfl ?_
            refine cRet ?_
            exact finTA rfl trivial rfl (by unfold accessP; rw [if_pos (by simpa using h1), if_neg (by simpa using h3), if_pos (by simpa using h4)]; rfl)
        · skip
          refine sOk (d := 107) (x := .agg [.v (.int .u32 ((s.pc : Nat) : Int)), .v (.int .u32 ((up4 s.pc : Nat) : Int)), .v (.int .i64 (wr i)), .v (.int .u32 0), .v (.int .u32 ((addrOf i a : Nat) : Int)), .v (.int .i64 ((sizeOf' i.op : Nat) : Int)), .v (.bool ((kindOf i.op) == 4)), .v (.int .i64 0), .v (.int .i64 0)]) rfl rfl rfl rfl ?_
          refine aGo [0] (by kernel_rfl) rfl ⟨?_, trivial⟩
          refine sOk (d := 106) (x := .agg (stL (up4 s.pc) s.r s.mem s.halt)) rfl rfl rfl rfl ?_
          refine aGo [2] (by kernel_rfl) rfl ⟨?_, trivial⟩
          refine sFx0 (h' := upd _ 2 (some (.box (stL (up4 s.pc) s.r s.mem s.halt)))) rfl rfl rfl (rfl) (trivial) ?_
          refine aGo [3] (by kernel_rfl) rfl ⟨?_, trivial⟩
          refine sFx0 (h' := upd _ 3 (some (.box [.v (.int .u32 ((s.pc : Nat) : Int)), .v (.int .u32 ((up4 s.pc : Nat) : Int)), .v (.int .i64 (wr i)), .v (.int .u32 0), .v (.int .u32 ((addrOf i a : Nat) : Int)), .v (.int .i64 ((sizeOf' i.op : Nat) : Int)), .v (.bool ((kindOf i.op) == 4)), .v (.int .i64 0), .v (.int .i64 0)]))) rfl rfl rfl (rfl) (trivial) ?_
          refine aEnd (n' := 48) (by kernel_rfl) rfl ?_
          refine cRet ?_
          exact finTA rfl trivial rfl (by unfold accessP; rw [if_pos (by simpa using h1), if_neg (by simpa using h3), if_pos (by simpa using h4)]; rfl)
set_option maxRecDepth 100000 in
set_option maxHeartbeats 4000000 in
theorem dReckon (s : St) (i : SI) (a b : Nat) (hs : s.ok) (hi : i.imm ≤ 4294967295) (ha : a ≤ 4294967295) (hb : b ≤ 4294967295) (hw0 : 0 ≤ wr i) (hw : wr i < 32) : DCall C0 31 [stA s, siA i, .v (.int .u32 (a : Int)), .v (.int .u32 (b : Int))] (two (reckonP s i a b)) := by
  refine DCall.intro c0Ok Tryd.func31 rfl rfl (by kernel_rfl) rfl ?_
  refine cSeq ?_
  refine cReg rfl ?_
  refine rFx (d := 4) (x := .ptr 0 0) (h' := upd _ 0 (some (.box (stL s.pc s.r s.mem s.halt)))) rfl rfl (rfl) (trivial) ?_
  refine rFx (d := 5) (x := .ptr 1 0) (h' := upd _ 1 (some (.box [.v (.int .i64 i.op), .v (.int .i64 i.rd), .v (.int .i64 i.rs1), .v (.int .i64 i.rs2), .v (.int .u32 ((i.imm : Nat) : Int))]))) rfl rfl (rfl) (trivial) ?_
  refine rFx (d := 8) (x := .ptr 2 0) (h' := upd _ 2 (some (.box (stL 0 (fun _ => 0) (⟨#[]⟩) 0)))) rfl rfl (rfl) (trivial) ?_
  refine rFx (d := 9) (x := .ptr 3 0) (h' := upd _ 3 (some (.box [.v (.int .u32 0), .v (.int .u32 0), .v (.int .i64 0), .v (.int .u32 0), .v (.int .u32 0), .v (.int .i64 0), .v (.bool false), .v (.int .i64 0), .v (.int .i64 0)]))) rfl rfl (rfl) (trivial) ?_
  refine rEnd (n' := 4) rfl ?_
  refine cSeq ?_
  refine cReg rfl ?_
  refine rOk (d := 13) (x := .ptr 0 0) rfl rfl rfl ?_
  refine rOk (d := 14) (x := .v (.int .u32 ((s.pc : Nat) : Int))) rfl rfl rfl ?_
  refine rOk (d := 15) (x := .ptr 0 0) rfl rfl rfl ?_
  refine rOk (d := 16) (x := .v (.int .u32 ((s.pc : Nat) : Int))) rfl rfl rfl ?_
  refine rOk (d := 17) (x := .v (.int .u32 ((up4 s.pc : Nat) : Int))) rfl rfl rfl ?_
  refine rOk (d := 18) (x := .agg [.v (.int .i64 i.op), .v (.int .i64 i.rd), .v (.int .i64 i.rs1), .v (.int .i64 i.rs2), .v (.int .u32 ((i.imm : Nat) : Int))]) rfl rfl rfl ?_
  refine rCall (args := [.agg [.v (.int .i64 i.op), .v (.int .i64 i.rd), .v (.int .i64 i.rs1), .v (.int .i64 i.rs2), .v (.int .u32 ((i.imm : Nat) : Int))]]) (d := 19) (x := .v (.int .i64 (wr i))) rfl rfl rfl rfl (.inl rfl) rfl (dWrites i) ?_
  refine rOk (d := 20) (x := .agg [.v (.int .u32 ((s.pc : Nat) : Int)), .v (.int .u32 ((up4 s.pc : Nat) : Int)), .v (.int .i64 (wr i)), .v (.int .u32 0), .v (.int .u32 0), .v (.int .i64 0), .v (.bool false), .v (.int .i64 0), .v (.int .i64 0)]) rfl rfl rfl ?_
  refine rFx (d := 10) (x := .ptr 12 0) (h' := upd _ 12 (some (.box [.v (.int .u32 0), .v (.int .u32 0), .v (.int .i64 0), .v (.int .u32 0), .v (.int .u32 0), .v (.int .i64 0), .v (.bool false), .v (.int .i64 0), .v (.int .i64 0)]))) rfl rfl (rfl) (trivial) ?_
  refine rFx0 (h' := upd _ 12 (some (.box [.v (.int .u32 ((s.pc : Nat) : Int)), .v (.int .u32 ((up4 s.pc : Nat) : Int)), .v (.int .i64 (wr i)), .v (.int .u32 0), .v (.int .u32 0), .v (.int .i64 0), .v (.bool false), .v (.int .i64 0), .v (.int .i64 0)]))) rfl rfl (rfl) (trivial) ?_
  refine rEnd (n' := 14) rfl ?_
  refine cSeq ?_
  refine cSeq ?_
  refine cReg rfl ?_
  refine rOk (d := 21) (x := .agg [.v (.int .i64 i.op), .v (.int .i64 i.rd), .v (.int .i64 i.rs1), .v (.int .i64 i.rs2), .v (.int .u32 ((i.imm : Nat) : Int))]) rfl rfl rfl ?_
  refine rCall (args := [.agg [.v (.int .i64 i.op), .v (.int .i64 i.rd), .v (.int .i64 i.rs1), .v (.int .i64 i.rs2), .v (.int .u32 ((i.imm : Nat) : Int))]]) (d := 22) (x := .v (.int .i64 ((kindOf i.op : Nat) : Int))) rfl rfl rfl rfl (.inl rfl) rfl (dKind i) ?_
  refine rEnd (n' := 16) rfl ?_
  refine cBlock ?_
  refine cSeq ?_
  refine cReg rfl ?_
  refine rOk (d := 24) (x := .v (.bool ((kindOf i.op) == 5))) rfl rfl (okB (eqN _ _)) ?_
  refine rOk (d := 23) (x := .v (.bool ((kindOf i.op) == 5))) rfl rfl rfl ?_
  refine rEnd (n' := 18) rfl ?_
  refine cCond (v := (kindOf i.op) == 5) rfl (fun h1 => ?_) (fun h1 => ?_)
  · skip
    refine cSeq ?_
    refine cReg rfl ?_
    refine rOk (d := 26) (x := .agg [.v (.int .i64 i.op), .v (.int .i64 i.rd), .v (.int .i64 i.rs1), .v (.int .i64 i.rs2), .v (.int .u32 ((i.imm : Nat) : Int))]) rfl rfl rfl ?_
    refine rOk (d := 27) (x := .ptr 0 0) rfl rfl rfl ?_
    refine rOk (d := 28) (x := .v (.int .u32 ((s.pc : Nat) : Int))) rfl rfl rfl ?_
    refine rOk (d := 29) (x := .v (.int .u32 ((a : Nat) : Int))) rfl rfl rfl ?_
    refine rOk (d := 30) (x := .v (.int .u32 ((b : Nat) : Int))) rfl rfl rfl ?_
    refine rCall (args := [.agg [.v (.int .i64 i.op), .v (.int .i64 i.rd), .v (.int .i64 i.rs1), .v (.int .i64 i.rs2), .v (.int .u32 ((i.imm : Nat) : Int))], .v (.int .u32 ((s.pc : Nat) : Int)), .v (.int .u32 ((a : Nat) : Int)), .v (.int .u32 ((b : Nat) : Int))]) (d := 31) (x := .tup [.v (.int .u32 ((nextP i.op i.imm s.pc a b : Nat) : Int)), .v (.bool (decide (nextP i.op i.imm s.pc a b % 4 = 0)))]) rfl rfl rfl rfl (.inl rfl) rfl (dTarget i _ _ _ (Nat.lt_succ_of_le hi) (Nat.lt_succ_of_le hs.pc) (Nat.lt_succ_of_le ha) (Nat.lt_succ_of_le hb)) ?_
    refine rOk (d := 25) (x := .tup [.v (.int .u32 ((nextP i.op i.imm s.pc a b : Nat) : Int)), .v (.bool (decide (nextP i.op i.imm s.pc a b % 4 = 0)))]) rfl rfl rfl ?_
    refine rOk (d := 32) (x := .v (.int .u32 ((nextP i.op i.imm s.pc a b : Nat) : Int))) rfl rfl rfl ?_
    refine rOk (d := 33) (x := .v (.bool (decide (nextP i.op i.imm s.pc a b % 4 = 0)))) rfl rfl rfl ?_
    refine rOk (d := 11) (x := .v (.int .u32 ((nextP i.op i.imm s.pc a b : Nat) : Int))) rfl rfl rfl ?_
    refine rOk (d := 12) (x := .v (.bool (decide (nextP i.op i.imm s.pc a b % 4 = 0)))) rfl rfl rfl ?_
    refine rEnd (n' := 29) rfl ?_
    refine cSeq ?_
    refine cSeq ?_
    refine cReg rfl ?_
    refine rOk (d := 34) (x := .v (.bool (decide (nextP i.op i.imm s.pc a b % 4 = 0)))) rfl rfl rfl ?_
    refine rOk (d := 35) (x := .v (.bool (!(decide (nextP i.op i.imm s.pc a b % 4 = 0))))) rfl rfl rfl ?_
    refine rEnd (n' := 31) rfl ?_
    refine cCond (v := !(decide (nextP i.op i.imm s.pc a b % 4 = 0))) rfl (fun h2 => ?_) (fun h2 => ?_)
    · skip
      refine cSeq ?_
      refine cReg rfl ?_
      refine rOk (d := 36) (x := .agg (stL s.pc s.r s.mem s.halt)) rfl rfl rfl ?_
      refine rCall (args := [.agg (stL s.pc s.r s.mem s.halt), .v (.int .i64 3)]) (d := 37) (x := .tup [.agg (stL s.pc s.r s.mem 3), .agg [.v (.int .u32 ((s.pc : Nat) : Int)), .v (.int .u32 ((s.pc : Nat) : Int)), .v (.int .i64 0), .v (.int .u32 0), .v (.int .u32 0), .v (.int .i64 0), .v (.bool false), .v (.int .i64 3), .v (.int .i64 0)]]) rfl rfl rfl rfl (.inl rfl) rfl (dHalt s (3) hs) ?_
      refine rOk (d := 38) (x := .agg (stL s.pc s.r s.mem 3)) rfl rfl rfl ?_
      refine rOk (d := 39) (x := .agg [.v (.int .u32 ((s.pc : Nat) : Int)), .v (.int .u32 ((s.pc : Nat) : Int)), .v (.int .i64 0), .v (.int .u32 0), .v (.int .u32 0), .v (.int .i64 0), .v (.bool false), .v (.int .i64 3), .v (.int .i64 0)]) rfl rfl rfl ?_
      refine rFx0 (h' := upd _ 2 (some (.box (stL s.pc s.r s.mem 3)))) rfl rfl (rfl) (trivial) ?_
      refine rFx0 (h' := upd _ 3 (some (.box [.v (.int .u32 ((s.pc : Nat) : Int)), .v (.int .u32 ((s.pc : Nat) : Int)), .v (.int .i64 0), .v (.int .u32 0), .v (.int .u32 0), .v (.int .i64 0), .v (.bool false), .v (.int .i64 3), .v (.int .i64 0)]))) rfl rfl (rfl) (trivial) ?_
      refine rEnd (n' := 37) rfl ?_
      refine cRet ?_
      exact finTA rfl trivial rfl (by unfold reckonP finP; rw [if_pos (by simpa using h1), if_neg (by simpa using h2)]; rfl)
    · skip
      refine cSkip ?_
      refine cReg rfl ?_
      refine rOk (d := 40) (x := .v (.int .u32 ((nextP i.op i.imm s.pc a b : Nat) : Int))) rfl rfl rfl ?_
      refine rOk (d := 41) (x := .ptr 12 1) rfl rfl rfl ?_
      refine rFx0 (h' := upd _ 12 (some (.box [.v (.int .u32 ((s.pc : Nat) : Int)), .v (.int .u32 ((nextP i.op i.imm s.pc a b : Nat) : Int)), .v (.int .i64 (wr i)), .v (.int .u32 0), .v (.int .u32 0), .v (.int .i64 0), .v (.bool false), .v (.int .i64 0), .v (.int .i64 0)]))) rfl rfl (rfl) (trivial) ?_
      refine rEnd (n' := 34) rfl ?_
      refine cSeq ?_
      refine cSeq ?_
      refine cReg rfl ?_
      refine rOk (d := 50) (x := .ptr 12 2) rfl rfl rfl ?_
      refine rOk (d := 51) (x := .v (.int .i64 (wr i))) rfl rfl rfl ?_
      refine rOk (d := 52) (x := .v (.bool ((wr i) != 0))) rfl rfl rfl ?_
      refine rEnd (n' := 37) rfl ?_
      refine cCond (v := (wr i) != 0) rfl (fun h3 => ?_) (fun h3 => ?_)
      · skip
        refine cSeq ?_
        refine cReg rfl ?_
        refine rOk (d := 53) (x := .agg [.v (.int .i64 i.op), .v (.int .i64 i.rd), .v (.int .i64 i.rs1), .v (.int .i64 i.rs2), .v (.int .u32 ((i.imm : Nat) : Int))]) rfl rfl rfl ?_
        refine rOk (d := 54) (x := .ptr 0 0) rfl rfl rfl ?_
        refine rOk (d := 55) (x := .v (.int .u32 ((s.pc : Nat) : Int))) rfl rfl rfl ?_
        refine rOk (d := 56) (x := .v (.int .u32 ((a : Nat) : Int))) rfl rfl rfl ?_
        refine rOk (d := 57) (x := .v (.int .u32 ((b : Nat) : Int))) rfl rfl rfl ?_
        refine rCall (args := [.agg [.v (.int .i64 i.op), .v (.int .i64 i.rd), .v (.int .i64 i.rs1), .v (.int .i64 i.rs2), .v (.int .u32 ((i.imm : Nat) : Int))], .v (.int .u32 ((s.pc : Nat) : Int)), .v (.int .u32 ((a : Nat) : Int)), .v (.int .u32 ((b : Nat) : Int))]) (d := 58) (x := .v (.int .u32 ((valP i.op i.imm s.pc a b : Nat) : Int))) rfl rfl rfl rfl (.inl rfl) rfl (dValue i _ _ _ (Nat.lt_succ_of_le hi) (Nat.lt_succ_of_le hs.pc) (Nat.lt_succ_of_le ha) (Nat.lt_succ_of_le hb)) ?_
        refine rOk (d := 59) (x := .ptr 12 3) rfl rfl rfl ?_
        refine rFx0 (h' := upd _ 12 (some (.box [.v (.int .u32 ((s.pc : Nat) : Int)), .v (.int .u32 ((nextP i.op i.imm s.pc a b : Nat) : Int)), .v (.int .i64 (wr i)), .v (.int .u32 ((valP i.op i.imm s.pc a b : Nat) : Int)), .v (.int .u32 0), .v (.int .i64 0), .v (.bool false), .v (.int .i64 0), .v (.int .i64 0)]))) rfl rfl (rfl) (trivial) ?_
        refine rEnd (n' := 45) rfl ?_
        refine cReg rfl ?_
        refine rOk (d := 60) (x := .ptr 12 2) rfl rfl rfl ?_
        refine rOk (d := 61) (x := .v (.int .i64 (wr i))) rfl rfl rfl ?_
        refine rOk (d := 62) (x := .ptr 12 3) rfl rfl rfl ?_
        refine rOk (d := 63) (x := .v (.int .u32 ((valP i.op i.imm s.pc a b : Nat) : Int))) rfl rfl rfl ?_
        refine rOk (d := 64) (x := .ptr 0 1) rfl rfl rfl ?_
        refine rNeed (d := 65) (x := .ptr 0 (1 + (wr i).toNat * 1)) rfl rfl rfl (by omega) ?_
        refine rFx0 (h' := upd _ 0 (some (.box (stL s.pc (setR s.r ((wr i).toNat) (valP i.op i.imm s.pc a b)) s.mem s.halt)))) rfl rfl (stR (n := (wr i).toNat) (v := valP i.op i.imm s.pc a b) (r := s.r) rfl rfl rfl (by omega)) (trivial) ?_
        refine rEnd (n' := 52) rfl ?_
        refine cSeq ?_
        refine cReg rfl ?_
        refine rOk (d := 66) (x := .ptr 12 1) rfl rfl rfl ?_
        refine rOk (d := 67) (x := .v (.int .u32 ((nextP i.op i.imm s.pc a b : Nat) : Int))) rfl rfl rfl ?_
        refine rOk (d := 68) (x := .ptr 0 0) rfl rfl rfl ?_
        refine rFx0 (h' := upd _ 0 (some (.box (stL (nextP i.op i.imm s.pc a b) (setR s.r ((wr i).toNat) (valP i.op i.imm s.pc a b)) s.mem s.halt)))) rfl rfl (rfl) (trivial) ?_
        refine rEnd (n' := 56) rfl ?_
        refine cSeq ?_
        refine cAny rfl ?_
        refine aGo [0, 1] (by kernel_rfl) rfl ⟨?_, ?_, trivial⟩
        · skip
          refine sOk (d := 69) (x := .agg (stL (nextP i.op i.imm s.pc a b) (setR s.r ((wr i).toNat) (valP i.op i.imm s.pc a b)) s.mem s.halt)) rfl rfl rfl rfl ?_
          refine aGo [1, 2] (by kernel_rfl) rfl ⟨?_, ?_, trivial⟩
          · skip
            refine sOk (d := 70) (x := .agg [.v (.int .u32 ((s.pc : Nat) : Int)), .v (.int .u32 ((nextP i.op i.imm s.pc a b : Nat) : Int)), .v (.int .i64 (wr i)), .v (.int .u32 ((valP i.op i.imm s.pc a b : Nat) : Int)), .v (.int .u32 0), .v (.int .i64 0), .v (.bool false), .v (.int .i64 0), .v (.int .i64 0)]) rfl rfl rfl rfl ?_
            refine aGo [2] (by kernel_rfl) rfl ⟨?_, trivial⟩
            refine sFx0 (h' := upd _ 2 (some (.box (stL (nextP i.op i.imm s.pc a b) (setR s.r ((wr i).toNat) (valP i.op i.imm s.pc a b)) s.mem s.halt)))) rfl rfl rfl (rfl) (trivial) ?_
            refine aGo [3] (by kernel_rfl) rfl ⟨?_, trivial⟩
            refine sFx0 (h' := upd _ 3 (some (.box [.v (.int .u32 ((s.pc : Nat) : Int)), .v (.int .u32 ((nextP i.op i.imm s.pc a b : Nat) : Int)), .v (.int .i64 (wr i)), .v (.int .u32 ((valP i.op i.imm s.pc a b : Nat) : Int)), .v (.int .u32 0), .v (.int .i64 0), .v (.bool false), .v (.int .i64 0), .v (.int .i64 0)]))) rfl rfl rfl (rfl) (trivial) ?_
            refine aEnd (n' := 60) (by kernel_rfl) rfl ?_
            refine cRet ?_
            exact finTA rfl trivial rfl (by unfold reckonP finP; rw [if_pos (by simpa using h1), if_pos (by simpa using h2), if_neg (by simpa using h3)]; rfl)
          · skip
            refine sFx0 (h' := upd _ 2 (some (.box (stL (nextP i.op i.imm s.pc a b) (setR s.r ((wr i).toNat) (valP i.op i.imm s.pc a b)) s.mem s.halt)))) rfl rfl rfl (rfl) (trivial) ?_
            refine aGo [1] (by kernel_rfl) rfl ⟨?_, trivial⟩
            refine sOk (d := 70) (x := .agg [.v (.int .u32 ((s.pc : Nat) : Int)), .v (.int .u32 ((nextP i.op i.imm s.pc a b : Nat) : Int)), .v (.int .i64 (wr i)), .v (.int .u32 ((valP i.op i.imm s.pc a b : Nat) : Int)), .v (.int .u32 0), .v (.int .i64 0), .v (.bool false), .v (.int .i64 0), .v (.int .i64 0)]) rfl rfl rfl rfl ?_
            refine aGo [3] (by kernel_rfl) rfl ⟨?_, trivial⟩
            refine sFx0 (h' := upd _ 3 (some (.box [.v (.int .u32 ((s.pc : Nat) : Int)), .v (.int .u32 ((nextP i.op i.imm s.pc a b : Nat) : Int)), .v (.int .i64 (wr i)), .v (.int .u32 ((valP i.op i.imm s.pc a b : Nat) : Int)), .v (.int .u32 0), .v (.int .i64 0), .v (.bool false), .v (.int .i64 0), .v (.int .i64 0)]))) rfl rfl rfl (rfl) (trivial) ?_
            refine aEnd (n' := 60) (by kernel_rfl) rfl ?_
            refine cRet ?_
            exact finTA rfl trivial rfl (by unfold reckonP finP; rw [if_pos (by simpa using h1), if_pos (by simpa using h2), if_neg (by simpa using h3)]; rfl)
        · skip
          refine sOk (d := 70) (x := .agg [.v (.int .u32 ((s.pc : Nat) : Int)), .v (.int .u32 ((nextP i.op i.imm s.pc a b : Nat) : Int)), .v (.int .i64 (wr i)), .v (.int .u32 ((valP i.op i.imm s.pc a b : Nat) : Int)), .v (.int .u32 0), .v (.int .i64 0), .v (.bool false), .v (.int .i64 0), .v (.int .i64 0)]) rfl rfl rfl rfl ?_
          refine aGo [0] (by kernel_rfl) rfl ⟨?_, trivial⟩
          refine sOk (d := 69) (x := .agg (stL (nextP i.op i.imm s.pc a b) (setR s.r ((wr i).toNat) (valP i.op i.imm s.pc a b)) s.mem s.halt)) rfl rfl rfl rfl ?_
          refine aGo [2] (by kernel_rfl) rfl ⟨?_, trivial⟩
          refine sFx0 (h' := upd _ 2 (some (.box (stL (nextP i.op i.imm s.pc a b) (setR s.r ((wr i).toNat) (valP i.op i.imm s.pc a b)) s.mem s.halt)))) rfl rfl rfl (rfl) (trivial) ?_
          refine aGo [3] (by kernel_rfl) rfl ⟨?_, trivial⟩
          refine sFx0 (h' := upd _ 3 (some (.box [.v (.int .u32 ((s.pc : Nat) : Int)), .v (.int .u32 ((nextP i.op i.imm s.pc a b : Nat) : Int)), .v (.int .i64 (wr i)), .v (.int .u32 ((valP i.op i.imm s.pc a b : Nat) : Int)), .v (.int .u32 0), .v (.int .i64 0), .v (.bool false), .v (.int .i64 0), .v (.int .i64 0)]))) rfl rfl rfl (rfl) (trivial) ?_
          refine aEnd (n' := 60) (by kernel_rfl) rfl ?_
          refine cRet ?_
          exact finTA rfl trivial rfl (by unfold reckonP finP; rw [if_pos (by simpa using h1), if_pos (by simpa using h2), if_neg (by simpa using h3)]; rfl)
      · skip
        refine cSkip ?_
        refine cSeq ?_
        refine cReg rfl ?_
        refine rOk (d := 66) (x := .ptr 12 1) rfl rfl rfl ?_
        refine rOk (d := 67) (x := .v (.int .u32 ((nextP i.op i.imm s.pc a b : Nat) : Int))) rfl rfl rfl ?_
        refine rOk (d := 68) (x := .ptr 0 0) rfl rfl rfl ?_
        refine rFx0 (h' := upd _ 0 (some (.box (stL (nextP i.op i.imm s.pc a b) s.r s.mem s.halt)))) rfl rfl (rfl) (trivial) ?_
        refine rEnd (n' := 41) rfl ?_
        refine cSeq ?_
        refine cAny rfl ?_
        refine aGo [0, 1] (by kernel_rfl) rfl ⟨?_, ?_, trivial⟩
        · skip
          refine sOk (d := 69) (x := .agg (stL (nextP i.op i.imm s.pc a b) s.r s.mem s.halt)) rfl rfl rfl rfl ?_
          refine aGo [1, 2] (by kernel_rfl) rfl ⟨?_, ?_, trivial⟩
          · skip
            refine sOk (d := 70) (x := .agg [.v (.int .u32 ((s.pc : Nat) : Int)), .v (.int .u32 ((nextP i.op i.imm s.pc a b : Nat) : Int)), .v (.int .i64 (wr i)), .v (.int .u32 0), .v (.int .u32 0), .v (.int .i64 0), .v (.bool false), .v (.int .i64 0), .v (.int .i64 0)]) rfl rfl rfl rfl ?_
            refine aGo [2] (by kernel_rfl) rfl ⟨?_, trivial⟩
            refine sFx0 (h' := upd _ 2 (some (.box (stL (nextP i.op i.imm s.pc a b) s.r s.mem s.halt)))) rfl rfl rfl (rfl) (trivial) ?_
            refine aGo [3] (by kernel_rfl) rfl ⟨?_, trivial⟩
            refine sFx0 (h' := upd _ 3 (some (.box [.v (.int .u32 ((s.pc : Nat) : Int)), .v (.int .u32 ((nextP i.op i.imm s.pc a b : Nat) : Int)), .v (.int .i64 (wr i)), .v (.int .u32 0), .v (.int .u32 0), .v (.int .i64 0), .v (.bool false), .v (.int .i64 0), .v (.int .i64 0)]))) rfl rfl rfl (rfl) (trivial) ?_
            refine aEnd (n' := 45) (by kernel_rfl) rfl ?_
            refine cRet ?_
            exact finTA rfl trivial rfl (by unfold reckonP finP; rw [if_pos (by simpa using h1), if_pos (by simpa using h2), if_pos (by simpa using h3)]; rfl)
          · skip
            refine sFx0 (h' := upd _ 2 (some (.box (stL (nextP i.op i.imm s.pc a b) s.r s.mem s.halt)))) rfl rfl rfl (rfl) (trivial) ?_
            refine aGo [1] (by kernel_rfl) rfl ⟨?_, trivial⟩
            refine sOk (d := 70) (x := .agg [.v (.int .u32 ((s.pc : Nat) : Int)), .v (.int .u32 ((nextP i.op i.imm s.pc a b : Nat) : Int)), .v (.int .i64 (wr i)), .v (.int .u32 0), .v (.int .u32 0), .v (.int .i64 0), .v (.bool false), .v (.int .i64 0), .v (.int .i64 0)]) rfl rfl rfl rfl ?_
            refine aGo [3] (by kernel_rfl) rfl ⟨?_, trivial⟩
            refine sFx0 (h' := upd _ 3 (some (.box [.v (.int .u32 ((s.pc : Nat) : Int)), .v (.int .u32 ((nextP i.op i.imm s.pc a b : Nat) : Int)), .v (.int .i64 (wr i)), .v (.int .u32 0), .v (.int .u32 0), .v (.int .i64 0), .v (.bool false), .v (.int .i64 0), .v (.int .i64 0)]))) rfl rfl rfl (rfl) (trivial) ?_
            refine aEnd (n' := 45) (by kernel_rfl) rfl ?_
            refine cRet ?_
            exact finTA rfl trivial rfl (by unfold reckonP finP; rw [if_pos (by simpa using h1), if_pos (by simpa using h2), if_pos (by simpa using h3)]; rfl)
        · skip
          refine sOk (d := 70) (x := .agg [.v (.int .u32 ((s.pc : Nat) : Int)), .v (.int .u32 ((nextP i.op i.imm s.pc a b : Nat) : Int)), .v (.int .i64 (wr i)), .v (.int .u32 0), .v (.int .u32 0), .v (.int .i64 0), .v (.bool false), .v (.int .i64 0), .v (.int .i64 0)]) rfl rfl rfl rfl ?_
          refine aGo [0] (by kernel_rfl) rfl ⟨?_, trivial⟩
          refine sOk (d := 69) (x := .agg (stL (nextP i.op i.imm s.pc a b) s.r s.mem s.halt)) rfl rfl rfl rfl ?_
          refine aGo [2] (by kernel_rfl) rfl ⟨?_, trivial⟩
          refine sFx0 (h' := upd _ 2 (some (.box (stL (nextP i.op i.imm s.pc a b) s.r s.mem s.halt)))) rfl rfl rfl (rfl) (trivial) ?_
          refine aGo [3] (by kernel_rfl) rfl ⟨?_, trivial⟩
          refine sFx0 (h' := upd _ 3 (some (.box [.v (.int .u32 ((s.pc : Nat) : Int)), .v (.int .u32 ((nextP i.op i.imm s.pc a b : Nat) : Int)), .v (.int .i64 (wr i)), .v (.int .u32 0), .v (.int .u32 0), .v (.int .i64 0), .v (.bool false), .v (.int .i64 0), .v (.int .i64 0)]))) rfl rfl rfl (rfl) (trivial) ?_
          refine aEnd (n' := 45) (by kernel_rfl) rfl ?_
          refine cRet ?_
          exact finTA rfl trivial rfl (by unfold reckonP finP; rw [if_pos (by simpa using h1), if_pos (by simpa using h2), if_pos (by simpa using h3)]; rfl)
  · skip
    refine cSeq ?_
    refine cReg rfl ?_
    refine rOk (d := 43) (x := .v (.bool ((kindOf i.op) == 2))) rfl rfl (okB (eqN _ _)) ?_
    refine rOk (d := 42) (x := .v (.bool ((kindOf i.op) == 2))) rfl rfl rfl ?_
    refine rEnd (n' := 20) rfl ?_
    refine cCond (v := (kindOf i.op) == 2) rfl (fun h4 => ?_) (fun h4 => ?_)
    · skip
      refine cReg rfl ?_
      refine rOk (d := 44) (x := .ptr 1 0) rfl rfl rfl ?_
      refine rOk (d := 45) (x := .v (.int .i64 i.op)) rfl rfl rfl ?_
      refine rOk (d := 46) (x := .v (.int .u32 ((a : Nat) : Int))) rfl rfl rfl ?_
      refine rOk (d := 47) (x := .v (.int .u32 ((b : Nat) : Int))) rfl rfl rfl ?_
      refine rCall (args := [.v (.int .i64 i.op), .v (.int .u32 ((a : Nat) : Int)), .v (.int .u32 ((b : Nat) : Int))]) (d := 48) (x := .v (.int .i64 ((tookP i.op a b : Nat) : Int))) rfl rfl rfl rfl (.inl rfl) rfl (dTook _ _ _ (Nat.lt_succ_of_le ha) (Nat.lt_succ_of_le hb)) ?_
      refine rOk (d := 49) (x := .ptr 12 8) rfl rfl rfl ?_
      refine rFx0 (h' := upd _ 12 (some (.box [.v (.int .u32 ((s.pc : Nat) : Int)), .v (.int .u32 ((up4 s.pc : Nat) : Int)), .v (.int .i64 (wr i)), .v (.int .u32 0), .v (.int .u32 0), .v (.int .i64 0), .v (.bool false), .v (.int .i64 0), .v (.int .i64 ((tookP i.op a b : Nat) : Int))]))) rfl rfl (rfl) (trivial) ?_
      refine rEnd (n' := 27) rfl ?_
      refine cSeq ?_
      refine cSeq ?_
      refine cReg rfl ?_
      refine rOk (d := 50) (x := .ptr 12 2) rfl rfl rfl ?_
      refine rOk (d := 51) (x := .v (.int .i64 (wr i))) rfl rfl rfl ?_
      refine rOk (d := 52) (x := .v (.bool ((wr i) != 0))) rfl rfl rfl ?_
      refine rEnd (n' := 30) rfl ?_
      refine cCond (v := (wr i) != 0) rfl (fun h5 => ?_) (fun h5 => ?_)
      · skip
        refine cSeq ?_
        refine cReg rfl ?_
        refine rOk (d := 53) (x := .agg [.v (.int .i64 i.op), .v (.int .i64 i.rd), .v (.int .i64 i.rs1), .v (.int .i64 i.rs2), .v (.int .u32 ((i.imm : Nat) : Int))]) rfl rfl rfl ?_
        refine rOk (d := 54) (x := .ptr 0 0) rfl rfl rfl ?_
        refine rOk (d := 55) (x := .v (.int .u32 ((s.pc : Nat) : Int))) rfl rfl rfl ?_
        refine rOk (d := 56) (x := .v (.int .u32 ((a : Nat) : Int))) rfl rfl rfl ?_
        refine rOk (d := 57) (x := .v (.int .u32 ((b : Nat) : Int))) rfl rfl rfl ?_
        refine rCall (args := [.agg [.v (.int .i64 i.op), .v (.int .i64 i.rd), .v (.int .i64 i.rs1), .v (.int .i64 i.rs2), .v (.int .u32 ((i.imm : Nat) : Int))], .v (.int .u32 ((s.pc : Nat) : Int)), .v (.int .u32 ((a : Nat) : Int)), .v (.int .u32 ((b : Nat) : Int))]) (d := 58) (x := .v (.int .u32 ((valP i.op i.imm s.pc a b : Nat) : Int))) rfl rfl rfl rfl (.inl rfl) rfl (dValue i _ _ _ (Nat.lt_succ_of_le hi) (Nat.lt_succ_of_le hs.pc) (Nat.lt_succ_of_le ha) (Nat.lt_succ_of_le hb)) ?_
        refine rOk (d := 59) (x := .ptr 12 3) rfl rfl rfl ?_
        refine rFx0 (h' := upd _ 12 (some (.box [.v (.int .u32 ((s.pc : Nat) : Int)), .v (.int .u32 ((up4 s.pc : Nat) : Int)), .v (.int .i64 (wr i)), .v (.int .u32 ((valP i.op i.imm s.pc a b : Nat) : Int)), .v (.int .u32 0), .v (.int .i64 0), .v (.bool false), .v (.int .i64 0), .v (.int .i64 ((tookP i.op a b : Nat) : Int))]))) rfl rfl (rfl) (trivial) ?_
        refine rEnd (n' := 38) rfl ?_
        refine cReg rfl ?_
        refine rOk (d := 60) (x := .ptr 12 2) rfl rfl rfl ?_
        refine rOk (d := 61) (x := .v (.int .i64 (wr i))) rfl rfl rfl ?_
        refine rOk (d := 62) (x := .ptr 12 3) rfl rfl rfl ?_
        refine rOk (d := 63) (x := .v (.int .u32 ((valP i.op i.imm s.pc a b : Nat) : Int))) rfl rfl rfl ?_
        refine rOk (d := 64) (x := .ptr 0 1) rfl rfl rfl ?_
        refine rNeed (d := 65) (x := .ptr 0 (1 + (wr i).toNat * 1)) rfl rfl rfl (by omega) ?_
        refine rFx0 (h' := upd _ 0 (some (.box (stL s.pc (setR s.r ((wr i).toNat) (valP i.op i.imm s.pc a b)) s.mem s.halt)))) rfl rfl (stR (n := (wr i).toNat) (v := valP i.op i.imm s.pc a b) (r := s.r) rfl rfl rfl (by omega)) (trivial) ?_
        refine rEnd (n' := 45) rfl ?_
        refine cSeq ?_
        refine cReg rfl ?_
        refine rOk (d := 66) (x := .ptr 12 1) rfl rfl rfl ?_
        refine rOk (d := 67) (x := .v (.int .u32 ((up4 s.pc : Nat) : Int))) rfl rfl rfl ?_
        refine rOk (d := 68) (x := .ptr 0 0) rfl rfl rfl ?_
        refine rFx0 (h' := upd _ 0 (some (.box (stL (up4 s.pc) (setR s.r ((wr i).toNat) (valP i.op i.imm s.pc a b)) s.mem s.halt)))) rfl rfl (rfl) (trivial) ?_
        refine rEnd (n' := 49) rfl ?_
        refine cSeq ?_
        refine cAny rfl ?_
        refine aGo [0, 1] (by kernel_rfl) rfl ⟨?_, ?_, trivial⟩
        · skip
          refine sOk (d := 69) (x := .agg (stL (up4 s.pc) (setR s.r ((wr i).toNat) (valP i.op i.imm s.pc a b)) s.mem s.halt)) rfl rfl rfl rfl ?_
          refine aGo [1, 2] (by kernel_rfl) rfl ⟨?_, ?_, trivial⟩
          · skip
            refine sOk (d := 70) (x := .agg [.v (.int .u32 ((s.pc : Nat) : Int)), .v (.int .u32 ((up4 s.pc : Nat) : Int)), .v (.int .i64 (wr i)), .v (.int .u32 ((valP i.op i.imm s.pc a b : Nat) : Int)), .v (.int .u32 0), .v (.int .i64 0), .v (.bool false), .v (.int .i64 0), .v (.int .i64 ((tookP i.op a b : Nat) : Int))]) rfl rfl rfl rfl ?_
            refine aGo [2] (by kernel_rfl) rfl ⟨?_, trivial⟩
            refine sFx0 (h' := upd _ 2 (some (.box (stL (up4 s.pc) (setR s.r ((wr i).toNat) (valP i.op i.imm s.pc a b)) s.mem s.halt)))) rfl rfl rfl (rfl) (trivial) ?_
            refine aGo [3] (by kernel_rfl) rfl ⟨?_, trivial⟩
            refine sFx0 (h' := upd _ 3 (some (.box [.v (.int .u32 ((s.pc : Nat) : Int)), .v (.int .u32 ((up4 s.pc : Nat) : Int)), .v (.int .i64 (wr i)), .v (.int .u32 ((valP i.op i.imm s.pc a b : Nat) : Int)), .v (.int .u32 0), .v (.int .i64 0), .v (.bool false), .v (.int .i64 0), .v (.int .i64 ((tookP i.op a b : Nat) : Int))]))) rfl rfl rfl (rfl) (trivial) ?_
            refine aEnd (n' := 53) (by kernel_rfl) rfl ?_
            refine cRet ?_
            exact finTA rfl trivial rfl (by unfold reckonP finP; rw [if_neg (by simpa using h1), if_neg (by simpa using h5), if_pos (by simpa using h4)]; rfl)
          · skip
            refine sFx0 (h' := upd _ 2 (some (.box (stL (up4 s.pc) (setR s.r ((wr i).toNat) (valP i.op i.imm s.pc a b)) s.mem s.halt)))) rfl rfl rfl (rfl) (trivial) ?_
            refine aGo [1] (by kernel_rfl) rfl ⟨?_, trivial⟩
            refine sOk (d := 70) (x := .agg [.v (.int .u32 ((s.pc : Nat) : Int)), .v (.int .u32 ((up4 s.pc : Nat) : Int)), .v (.int .i64 (wr i)), .v (.int .u32 ((valP i.op i.imm s.pc a b : Nat) : Int)), .v (.int .u32 0), .v (.int .i64 0), .v (.bool false), .v (.int .i64 0), .v (.int .i64 ((tookP i.op a b : Nat) : Int))]) rfl rfl rfl rfl ?_
            refine aGo [3] (by kernel_rfl) rfl ⟨?_, trivial⟩
            refine sFx0 (h' := upd _ 3 (some (.box [.v (.int .u32 ((s.pc : Nat) : Int)), .v (.int .u32 ((up4 s.pc : Nat) : Int)), .v (.int .i64 (wr i)), .v (.int .u32 ((valP i.op i.imm s.pc a b : Nat) : Int)), .v (.int .u32 0), .v (.int .i64 0), .v (.bool false), .v (.int .i64 0), .v (.int .i64 ((tookP i.op a b : Nat) : Int))]))) rfl rfl rfl (rfl) (trivial) ?_
            refine aEnd (n' := 53) (by kernel_rfl) rfl ?_
            refine cRet ?_
            exact finTA rfl trivial rfl (by unfold reckonP finP; rw [if_neg (by simpa using h1), if_neg (by simpa using h5), if_pos (by simpa using h4)]; rfl)
        · skip
          refine sOk (d := 70) (x := .agg [.v (.int .u32 ((s.pc : Nat) : Int)), .v (.int .u32 ((up4 s.pc : Nat) : Int)), .v (.int .i64 (wr i)), .v (.int .u32 ((valP i.op i.imm s.pc a b : Nat) : Int)), .v (.int .u32 0), .v (.int .i64 0), .v (.bool false), .v (.int .i64 0), .v (.int .i64 ((tookP i.op a b : Nat) : Int))]) rfl rfl rfl rfl ?_
          refine aGo [0] (by kernel_rfl) rfl ⟨?_, trivial⟩
          refine sOk (d := 69) (x := .agg (stL (up4 s.pc) (setR s.r ((wr i).toNat) (valP i.op i.imm s.pc a b)) s.mem s.halt)) rfl rfl rfl rfl ?_
          refine aGo [2] (by kernel_rfl) rfl ⟨?_, trivial⟩
          refine sFx0 (h' := upd _ 2 (some (.box (stL (up4 s.pc) (setR s.r ((wr i).toNat) (valP i.op i.imm s.pc a b)) s.mem s.halt)))) rfl rfl rfl (rfl) (trivial) ?_
          refine aGo [3] (by kernel_rfl) rfl ⟨?_, trivial⟩
          refine sFx0 (h' := upd _ 3 (some (.box [.v (.int .u32 ((s.pc : Nat) : Int)), .v (.int .u32 ((up4 s.pc : Nat) : Int)), .v (.int .i64 (wr i)), .v (.int .u32 ((valP i.op i.imm s.pc a b : Nat) : Int)), .v (.int .u32 0), .v (.int .i64 0), .v (.bool false), .v (.int .i64 0), .v (.int .i64 ((tookP i.op a b : Nat) : Int))]))) rfl rfl rfl (rfl) (trivial) ?_
          refine aEnd (n' := 53) (by kernel_rfl) rfl ?_
          refine cRet ?_
          exact finTA rfl trivial rfl (by unfold reckonP finP; rw [if_neg (by simpa using h1), if_neg (by simpa using h5), if_pos (by simpa using h4)]; rfl)
      · skip
        refine cSkip ?_
        refine cSeq ?_
        refine cReg rfl ?_
        refine rOk (d := 66) (x := .ptr 12 1) rfl rfl rfl ?_
        refine rOk (d := 67) (x := .v (.int .u32 ((up4 s.pc : Nat) : Int))) rfl rfl rfl ?_
        refine rOk (d := 68) (x := .ptr 0 0) rfl rfl rfl ?_
        refine rFx0 (h' := upd _ 0 (some (.box (stL (up4 s.pc) s.r s.mem s.halt)))) rfl rfl (rfl) (trivial) ?_
        refine rEnd (n' := 34) rfl ?_
        refine cSeq ?_
        refine cAny rfl ?_
        refine aGo [0, 1] (by kernel_rfl) rfl ⟨?_, ?_, trivial⟩
        · skip
          refine sOk (d := 69) (x := .agg (stL (up4 s.pc) s.r s.mem s.halt)) rfl rfl rfl rfl ?_
          refine aGo [1, 2] (by kernel_rfl) rfl ⟨?_, ?_, trivial⟩
          · skip
            refine sOk (d := 70) (x := .agg [.v (.int .u32 ((s.pc : Nat) : Int)), .v (.int .u32 ((up4 s.pc : Nat) : Int)), .v (.int .i64 (wr i)), .v (.int .u32 0), .v (.int .u32 0), .v (.int .i64 0), .v (.bool false), .v (.int .i64 0), .v (.int .i64 ((tookP i.op a b : Nat) : Int))]) rfl rfl rfl rfl ?_
            refine aGo [2] (by kernel_rfl) rfl ⟨?_, trivial⟩
            refine sFx0 (h' := upd _ 2 (some (.box (stL (up4 s.pc) s.r s.mem s.halt)))) rfl rfl rfl (rfl) (trivial) ?_
            refine aGo [3] (by kernel_rfl) rfl ⟨?_, trivial⟩
            refine sFx0 (h' := upd _ 3 (some (.box [.v (.int .u32 ((s.pc : Nat) : Int)), .v (.int .u32 ((up4 s.pc : Nat) : Int)), .v (.int .i64 (wr i)), .v (.int .u32 0), .v (.int .u32 0), .v (.int .i64 0), .v (.bool false), .v (.int .i64 0), .v (.int .i64 ((tookP i.op a b : Nat) : Int))]))) rfl rfl rfl (rfl) (trivial) ?_
            refine aEnd (n' := 38) (by kernel_rfl) rfl ?_
            refine cRet ?_
            exact finTA rfl trivial rfl (by unfold reckonP finP; rw [if_neg (by simpa using h1), if_pos (by simpa using h5), if_pos (by simpa using h4)]; rfl)
          · skip
            refine sFx0 (h' := upd _ 2 (some (.box (stL (up4 s.pc) s.r s.mem s.halt)))) rfl rfl rfl (rfl) (trivial) ?_
            refine aGo [1] (by kernel_rfl) rfl ⟨?_, trivial⟩
            refine sOk (d := 70) (x := .agg [.v (.int .u32 ((s.pc : Nat) : Int)), .v (.int .u32 ((up4 s.pc : Nat) : Int)), .v (.int .i64 (wr i)), .v (.int .u32 0), .v (.int .u32 0), .v (.int .i64 0), .v (.bool false), .v (.int .i64 0), .v (.int .i64 ((tookP i.op a b : Nat) : Int))]) rfl rfl rfl rfl ?_
            refine aGo [3] (by kernel_rfl) rfl ⟨?_, trivial⟩
            refine sFx0 (h' := upd _ 3 (some (.box [.v (.int .u32 ((s.pc : Nat) : Int)), .v (.int .u32 ((up4 s.pc : Nat) : Int)), .v (.int .i64 (wr i)), .v (.int .u32 0), .v (.int .u32 0), .v (.int .i64 0), .v (.bool false), .v (.int .i64 0), .v (.int .i64 ((tookP i.op a b : Nat) : Int))]))) rfl rfl rfl (rfl) (trivial) ?_
            refine aEnd (n' := 38) (by kernel_rfl) rfl ?_
            refine cRet ?_
            exact finTA rfl trivial rfl (by unfold reckonP finP; rw [if_neg (by simpa using h1), if_pos (by simpa using h5), if_pos (by simpa using h4)]; rfl)
        · skip
          refine sOk (d := 70) (x := .agg [.v (.int .u32 ((s.pc : Nat) : Int)), .v (.int .u32 ((up4 s.pc : Nat) : Int)), .v (.int .i64 (wr i)), .v (.int .u32 0), .v (.int .u32 0), .v (.int .i64 0), .v (.bool false), .v (.int .i64 0), .v (.int .i64 ((tookP i.op a b : Nat) : Int))]) rfl rfl rfl rfl ?_
          refine aGo [0] (by kernel_rfl) rfl ⟨?_, trivial⟩
          refine sOk (d := 69) (x := .agg (stL (up4 s.pc) s.r s.mem s.halt)) rfl rfl rfl rfl ?_
          refine aGo [2] (by kernel_rfl) rfl ⟨?_, trivial⟩
          refine sFx0 (h' := upd _ 2 (some (.box (stL (up4 s.pc) s.r s.mem s.halt)))) rfl rfl rfl (rfl) (trivial) ?_
          refine aGo [3] (by kernel_rfl) rfl ⟨?_, trivial⟩
          refine sFx0 (h' := upd _ 3 (some (.box [.v (.int .u32 ((s.pc : Nat) : Int)), .v (.int .u32 ((up4 s.pc : Nat) : Int)), .v (.int .i64 (wr i)), .v (.int .u32 0), .v (.int .u32 0), .v (.int .i64 0), .v (.bool false), .v (.int .i64 0), .v (.int .i64 ((tookP i.op a b : Nat) : Int))]))) rfl rfl rfl (rfl) (trivial) ?_
          refine aEnd (n' := 38) (by kernel_rfl) rfl ?_
          refine cRet ?_
          exact finTA rfl trivial rfl (by unfold reckonP finP; rw [if_neg (by simpa using h1), if_pos (by simpa using h5), if_pos (by simpa using h4)]; rfl)
    · skip
      refine cSkip ?_
      refine cSeq ?_
      refine cSeq ?_
      refine cReg rfl ?_
      refine rOk (d := 50) (x := .ptr 12 2) rfl rfl rfl ?_
      refine rOk (d := 51) (x := .v (.int .i64 (wr i))) rfl rfl rfl ?_
      refine rOk (d := 52) (x := .v (.bool ((wr i) != 0))) rfl rfl rfl ?_
      refine rEnd (n' := 23) rfl ?_
      refine cCond (v := (wr i) != 0) rfl (fun h6 => ?_) (fun h6 => ?_)
      · skip
        refine cSeq ?_
        refine cReg rfl ?_
        refine rOk (d := 53) (x := .agg [.v (.int .i64 i.op), .v (.int .i64 i.rd), .v (.int .i64 i.rs1), .v (.int .i64 i.rs2), .v (.int .u32 ((i.imm : Nat) : Int))]) rfl rfl rfl ?_
        refine rOk (d := 54) (x := .ptr 0 0) rfl rfl rfl ?_
        refine rOk (d := 55) (x := .v (.int .u32 ((s.pc : Nat) : Int))) rfl rfl rfl ?_
        refine rOk (d := 56) (x := .v (.int .u32 ((a : Nat) : Int))) rfl rfl rfl ?_
        refine rOk (d := 57) (x := .v (.int .u32 ((b : Nat) : Int))) rfl rfl rfl ?_
        refine rCall (args := [.agg [.v (.int .i64 i.op), .v (.int .i64 i.rd), .v (.int .i64 i.rs1), .v (.int .i64 i.rs2), .v (.int .u32 ((i.imm : Nat) : Int))], .v (.int .u32 ((s.pc : Nat) : Int)), .v (.int .u32 ((a : Nat) : Int)), .v (.int .u32 ((b : Nat) : Int))]) (d := 58) (x := .v (.int .u32 ((valP i.op i.imm s.pc a b : Nat) : Int))) rfl rfl rfl rfl (.inl rfl) rfl (dValue i _ _ _ (Nat.lt_succ_of_le hi) (Nat.lt_succ_of_le hs.pc) (Nat.lt_succ_of_le ha) (Nat.lt_succ_of_le hb)) ?_
        refine rOk (d := 59) (x := .ptr 12 3) rfl rfl rfl ?_
        refine rFx0 (h' := upd _ 12 (some (.box [.v (.int .u32 ((s.pc : Nat) : Int)), .v (.int .u32 ((up4 s.pc : Nat) : Int)), .v (.int .i64 (wr i)), .v (.int .u32 ((valP i.op i.imm s.pc a b : Nat) : Int)), .v (.int .u32 0), .v (.int .i64 0), .v (.bool false), .v (.int .i64 0), .v (.int .i64 0)]))) rfl rfl (rfl) (trivial) ?_
        refine rEnd (n' := 31) rfl ?_
        refine cReg rfl ?_
        refine rOk (d := 60) (x := .ptr 12 2) rfl rfl rfl ?_
        refine rOk (d := 61) (x := .v (.int .i64 (wr i))) rfl rfl rfl ?_
        refine rOk (d := 62) (x := .ptr 12 3) rfl rfl rfl ?_
        refine rOk (d := 63) (x := .v (.int .u32 ((valP i.op i.imm s.pc a b : Nat) : Int))) rfl rfl rfl ?_
        refine rOk (d := 64) (x := .ptr 0 1) rfl rfl rfl ?_
        refine rNeed (d := 65) (x := .ptr 0 (1 + (wr i).toNat * 1)) rfl rfl rfl (by omega) ?_
        refine rFx0 (h' := upd _ 0 (some (.box (stL s.pc (setR s.r ((wr i).toNat) (valP i.op i.imm s.pc a b)) s.mem s.halt)))) rfl rfl (stR (n := (wr i).toNat) (v := valP i.op i.imm s.pc a b) (r := s.r) rfl rfl rfl (by omega)) (trivial) ?_
        refine rEnd (n' := 38) rfl ?_
        refine cSeq ?_
        refine cReg rfl ?_
        refine rOk (d := 66) (x := .ptr 12 1) rfl rfl rfl ?_
        refine rOk (d := 67) (x := .v (.int .u32 ((up4 s.pc : Nat) : Int))) rfl rfl rfl ?_
        refine rOk (d := 68) (x := .ptr 0 0) rfl rfl rfl ?_
        refine rFx0 (h' := upd _ 0 (some (.box (stL (up4 s.pc) (setR s.r ((wr i).toNat) (valP i.op i.imm s.pc a b)) s.mem s.halt)))) rfl rfl (rfl) (trivial) ?_
        refine rEnd (n' := 42) rfl ?_
        refine cSeq ?_
        refine cAny rfl ?_
        refine aGo [0, 1] (by kernel_rfl) rfl ⟨?_, ?_, trivial⟩
        · skip
          refine sOk (d := 69) (x := .agg (stL (up4 s.pc) (setR s.r ((wr i).toNat) (valP i.op i.imm s.pc a b)) s.mem s.halt)) rfl rfl rfl rfl ?_
          refine aGo [1, 2] (by kernel_rfl) rfl ⟨?_, ?_, trivial⟩
          · skip
            refine sOk (d := 70) (x := .agg [.v (.int .u32 ((s.pc : Nat) : Int)), .v (.int .u32 ((up4 s.pc : Nat) : Int)), .v (.int .i64 (wr i)), .v (.int .u32 ((valP i.op i.imm s.pc a b : Nat) : Int)), .v (.int .u32 0), .v (.int .i64 0), .v (.bool false), .v (.int .i64 0), .v (.int .i64 0)]) rfl rfl rfl rfl ?_
            refine aGo [2] (by kernel_rfl) rfl ⟨?_, trivial⟩
            refine sFx0 (h' := upd _ 2 (some (.box (stL (up4 s.pc) (setR s.r ((wr i).toNat) (valP i.op i.imm s.pc a b)) s.mem s.halt)))) rfl rfl rfl (rfl) (trivial) ?_
            refine aGo [3] (by kernel_rfl) rfl ⟨?_, trivial⟩
            refine sFx0 (h' := upd _ 3 (some (.box [.v (.int .u32 ((s.pc : Nat) : Int)), .v (.int .u32 ((up4 s.pc : Nat) : Int)), .v (.int .i64 (wr i)), .v (.int .u32 ((valP i.op i.imm s.pc a b : Nat) : Int)), .v (.int .u32 0), .v (.int .i64 0), .v (.bool false), .v (.int .i64 0), .v (.int .i64 0)]))) rfl rfl rfl (rfl) (trivial) ?_
            refine aEnd (n' := 46) (by kernel_rfl) rfl ?_
            refine cRet ?_
            exact finTA rfl trivial rfl (by unfold reckonP finP; rw [if_neg (by simpa using h1), if_neg (by simpa using h6), if_neg (by simpa using h4)]; rfl)
          · skip
            refine sFx0 (h' := upd _ 2 (some (.box (stL (up4 s.pc) (setR s.r ((wr i).toNat) (valP i.op i.imm s.pc a b)) s.mem s.halt)))) rfl rfl rfl (rfl) (trivial) ?_
            refine aGo [1] (by kernel_rfl) rfl ⟨?_, trivial⟩
            refine sOk (d := 70) (x := .agg [.v (.int .u32 ((s.pc : Nat) : Int)), .v (.int .u32 ((up4 s.pc : Nat) : Int)), .v (.int .i64 (wr i)), .v (.int .u32 ((valP i.op i.imm s.pc a b : Nat) : Int)), .v (.int .u32 0), .v (.int .i64 0), .v (.bool false), .v (.int .i64 0), .v (.int .i64 0)]) rfl rfl rfl rfl ?_
            refine aGo [3] (by kernel_rfl) rfl ⟨?_, trivial⟩
            refine sFx0 (h' := upd _ 3 (some (.box [.v (.int .u32 ((s.pc : Nat) : Int)), .v (.int .u32 ((up4 s.pc : Nat) : Int)), .v (.int .i64 (wr i)), .v (.int .u32 ((valP i.op i.imm s.pc a b : Nat) : Int)), .v (.int .u32 0), .v (.int .i64 0), .v (.bool false), .v (.int .i64 0), .v (.int .i64 0)]))) rfl rfl rfl (rfl) (trivial) ?_
            refine aEnd (n' := 46) (by kernel_rfl) rfl ?_
            refine cRet ?_
            exact finTA rfl trivial rfl (by unfold reckonP finP; rw [if_neg (by simpa using h1), if_neg (by simpa using h6), if_neg (by simpa using h4)]; rfl)
        · skip
          refine sOk (d := 70) (x := .agg [.v (.int .u32 ((s.pc : Nat) : Int)), .v (.int .u32 ((up4 s.pc : Nat) : Int)), .v (.int .i64 (wr i)), .v (.int .u32 ((valP i.op i.imm s.pc a b : Nat) : Int)), .v (.int .u32 0), .v (.int .i64 0), .v (.bool false), .v (.int .i64 0), .v (.int .i64 0)]) rfl rfl rfl rfl ?_
          refine aGo [0] (by kernel_rfl) rfl ⟨?_, trivial⟩
          refine sOk (d := 69) (x := .agg (stL (up4 s.pc) (setR s.r ((wr i).toNat) (valP i.op i.imm s.pc a b)) s.mem s.halt)) rfl rfl rfl rfl ?_
          refine aGo [2] (by kernel_rfl) rfl ⟨?_, trivial⟩
          refine sFx0 (h' := upd _ 2 (some (.box (stL (up4 s.pc) (setR s.r ((wr i).toNat) (valP i.op i.imm s.pc a b)) s.mem s.halt)))) rfl rfl rfl (rfl) (trivial) ?_
          refine aGo [3] (by kernel_rfl) rfl ⟨?_, trivial⟩
          refine sFx0 (h' := upd _ 3 (some (.box [.v (.int .u32 ((s.pc : Nat) : Int)), .v (.int .u32 ((up4 s.pc : Nat) : Int)), .v (.int .i64 (wr i)), .v (.int .u32 ((valP i.op i.imm s.pc a b : Nat) : Int)), .v (.int .u32 0), .v (.int .i64 0), .v (.bool false), .v (.int .i64 0), .v (.int .i64 0)]))) rfl rfl rfl (rfl) (trivial) ?_
          refine aEnd (n' := 46) (by kernel_rfl) rfl ?_
          refine cRet ?_
          exact finTA rfl trivial rfl (by unfold reckonP finP; rw [if_neg (by simpa using h1), if_neg (by simpa using h6), if_neg (by simpa using h4)]; rfl)
      · skip
        refine cSkip ?_
        refine cSeq ?_
        refine cReg rfl ?_
        refine rOk (d := 66) (x := .ptr 12 1) rfl rfl rfl ?_
        refine rOk (d := 67) (x := .v (.int .u32 ((up4 s.pc : Nat) : Int))) rfl rfl rfl ?_
        refine rOk (d := 68) (x := .ptr 0 0) rfl rfl rfl ?_
        refine rFx0 (h' := upd _ 0 (some (.box (stL (up4 s.pc) s.r s.mem s.halt)))) rfl rfl (rfl) (trivial) ?_
        refine rEnd (n' := 27) rfl ?_
        refine cSeq ?_
        refine cAny rfl ?_
        refine aGo [0, 1] (by kernel_rfl) rfl ⟨?_, ?_, trivial⟩
        · skip
          refine sOk (d := 69) (x := .agg (stL (up4 s.pc) s.r s.mem s.halt)) rfl rfl rfl rfl ?_
          refine aGo [1, 2] (by kernel_rfl) rfl ⟨?_, ?_, trivial⟩
          · skip
            refine sOk (d := 70) (x := .agg [.v (.int .u32 ((s.pc : Nat) : Int)), .v (.int .u32 ((up4 s.pc : Nat) : Int)), .v (.int .i64 (wr i)), .v (.int .u32 0), .v (.int .u32 0), .v (.int .i64 0), .v (.bool false), .v (.int .i64 0), .v (.int .i64 0)]) rfl rfl rfl rfl ?_
            refine aGo [2] (by kernel_rfl) rfl ⟨?_, trivial⟩
            refine sFx0 (h' := upd _ 2 (some (.box (stL (up4 s.pc) s.r s.mem s.halt)))) rfl rfl rfl (rfl) (trivial) ?_
            refine aGo [3] (by kernel_rfl) rfl ⟨?_, trivial⟩
            refine sFx0 (h' := upd _ 3 (some (.box [.v (.int .u32 ((s.pc : Nat) : Int)), .v (.int .u32 ((up4 s.pc : Nat) : Int)), .v (.int .i64 (wr i)), .v (.int .u32 0), .v (.int .u32 0), .v (.int .i64 0), .v (.bool false), .v (.int .i64 0), .v (.int .i64 0)]))) rfl rfl rfl (rfl) (trivial) ?_
            refine aEnd (n' := 31) (by kernel_rfl) rfl ?_
            refine cRet ?_
            exact finTA rfl trivial rfl (by unfold reckonP finP; rw [if_neg (by simpa using h1), if_pos (by simpa using h6), if_neg (by simpa using h4)]; rfl)
          · skip
            refine sFx0 (h' := upd _ 2 (some (.box (stL (up4 s.pc) s.r s.mem s.halt)))) rfl rfl rfl (rfl) (trivial) ?_
            refine aGo [1] (by kernel_rfl) rfl ⟨?_, trivial⟩
            refine sOk (d := 70) (x := .agg [.v (.int .u32 ((s.pc : Nat) : Int)), .v (.int .u32 ((up4 s.pc : Nat) : Int)), .v (.int .i64 (wr i)), .v (.int .u32 0), .v (.int .u32 0), .v (.int .i64 0), .v (.bool false), .v (.int .i64 0), .v (.int .i64 0)]) rfl rfl rfl rfl ?_
            refine aGo [3] (by kernel_rfl) rfl ⟨?_, trivial⟩
            refine sFx0 (h' := upd _ 3 (some (.box [.v (.int .u32 ((s.pc : Nat) : Int)), .v (.int .u32 ((up4 s.pc : Nat) : Int)), .v (.int .i64 (wr i)), .v (.int .u32 0), .v (.int .u32 0), .v (.int .i64 0), .v (.bool false), .v (.int .i64 0), .v (.int .i64 0)]))) rfl rfl rfl (rfl) (trivial) ?_
            refine aEnd (n' := 31) (by kernel_rfl) rfl ?_
            refine cRet ?_
            exact finTA rfl trivial rfl (by unfold reckonP finP; rw [if_neg (by simpa using h1), if_pos (by simpa using h6), if_neg (by simpa using h4)]; rfl)
        · skip
          refine sOk (d := 70) (x := .agg [.v (.int .u32 ((s.pc : Nat) : Int)), .v (.int .u32 ((up4 s.pc : Nat) : Int)), .v (.int .i64 (wr i)), .v (.int .u32 0), .v (.int .u32 0), .v (.int .i64 0), .v (.bool false), .v (.int .i64 0), .v (.int .i64 0)]) rfl rfl rfl rfl ?_
          refine aGo [0] (by kernel_rfl) rfl ⟨?_, trivial⟩
          refine sOk (d := 69) (x := .agg (stL (up4 s.pc) s.r s.mem s.halt)) rfl rfl rfl rfl ?_
          refine aGo [2] (by kernel_rfl) rfl ⟨?_, trivial⟩
          refine sFx0 (h' := upd _ 2 (some (.box (stL (up4 s.pc) s.r s.mem s.halt)))) rfl rfl rfl (rfl) (trivial) ?_
          refine aGo [3] (by kernel_rfl) rfl ⟨?_, trivial⟩
          refine sFx0 (h' := upd _ 3 (some (.box [.v (.int .u32 ((s.pc : Nat) : Int)), .v (.int .u32 ((up4 s.pc : Nat) : Int)), .v (.int .i64 (wr i)), .v (.int .u32 0), .v (.int .u32 0), .v (.int .i64 0), .v (.bool false), .v (.int .i64 0), .v (.int .i64 0)]))) rfl rfl rfl (rfl) (trivial) ?_
          refine aEnd (n' := 31) (by kernel_rfl) rfl ?_
          refine cRet ?_
          exact finTA rfl trivial rfl (by unfold reckonP finP; rw [if_neg (by simpa using h1), if_pos (by simpa using h6), if_neg (by simpa using h4)]; rfl)
set_option maxRecDepth 100000 in
set_option maxHeartbeats 4000000 in
theorem dStep (prog : List Nat) (s : St) (clip : Bool) (hp : ∀ x ∈ prog, x ≤ 4294967295) (hl : prog.length ≤ 1000000) (hs : s.ok) : DCall C0 15 [.sl 1 (prog.map rowU) clip, stA s] (two (stepP prog s)) := by
  refine DCall.intro c0Ok Tryd.func15 rfl rfl (by kernel_rfl) rfl ?_
  have hd : 0 ≤ (insOf prog s).rd ∧ (insOf prog s).rd < 32 ∧ 0 ≤ (insOf prog s).rs1 ∧ (insOf prog s).rs1 < 32 ∧ 0 ≤ (insOf prog s).rs2 ∧ (insOf prog s).rs2 < 32 ∧ (insOf prog s).imm ≤ 4294967295 := by have := decN_rd (fetchW prog s.pc); exact ⟨this.1, this.2.1, this.2.2.1, this.2.2.2.1, this.2.2.2.2.1, this.2.2.2.2.2.1, Nat.le_of_lt_succ this.2.2.2.2.2.2⟩
  have hv := wr_lt (fetchW prog s.pc)
  refine cSeq ?_
  refine cReg rfl ?_
  refine rFx (d := 3) (x := .ptr 0 0) (h' := upd _ 0 (some (.box (stL s.pc s.r s.mem s.halt)))) rfl rfl (rfl) (trivial) ?_
  refine rFx (d := 4) (x := .ptr 1 0) (h' := upd _ 1 (some (.box (stL 0 (fun _ => 0) (⟨#[]⟩) 0)))) rfl rfl (rfl) (trivial) ?_
  refine rFx (d := 5) (x := .ptr 2 0) (h' := upd _ 2 (some (.box [.v (.int .u32 0), .v (.int .u32 0), .v (.int .i64 0), .v (.int .u32 0), .v (.int .u32 0), .v (.int .i64 0), .v (.bool false), .v (.int .i64 0), .v (.int .i64 0)]))) rfl rfl (rfl) (trivial) ?_
  refine rEnd (n' := 3) rfl ?_
  refine cSeq ?_
  refine cSeq ?_
  refine cReg rfl ?_
  refine rOk (d := 14) (x := .ptr 0 34) rfl rfl rfl ?_
  refine rOk (d := 15) (x := .v (.int .i64 s.halt)) rfl rfl rfl ?_
  refine rOk (d := 16) (x := .v (.bool (s.halt != 0))) rfl rfl rfl ?_
  refine rEnd (n' := 6) rfl ?_
  refine cCond (v := s.halt != 0) rfl (fun h1 => ?_) (fun h1 => ?_)
  · skip
    refine cSeq ?_
    refine cReg rfl ?_
    refine rOk (d := 17) (x := .agg (stL s.pc s.r s.mem s.halt)) rfl rfl rfl ?_
    refine rOk (d := 18) (x := .agg [.v (.int .u32 0), .v (.int .u32 0), .v (.int .i64 0), .v (.int .u32 0), .v (.int .u32 0), .v (.int .i64 0), .v (.bool false), .v (.int .i64 0), .v (.int .i64 0)]) rfl rfl rfl ?_
    refine rFx0 (h' := upd _ 1 (some (.box (stL s.pc s.r s.mem s.halt)))) rfl rfl (rfl) (trivial) ?_
    refine rFx0 (h' := upd _ 2 (some (.box [.v (.int .u32 0), .v (.int .u32 0), .v (.int .i64 0), .v (.int .u32 0), .v (.int .u32 0), .v (.int .i64 0), .v (.bool false), .v (.int .i64 0), .v (.int .i64 0)]))) rfl rfl (rfl) (trivial) ?_
    refine rEnd (n' := 10) rfl ?_
    refine cRet ?_
    exact finTA rfl trivial rfl (by unfold stepP doI; rw [if_neg (by simpa using h1)]; rfl)
  · skip
    refine cSkip ?_
    refine cSeq ?_
    refine cReg rfl ?_
    refine rOk (d := 20) (x := .sl 1 (prog.map rowU) clip) rfl rfl rfl ?_
    refine rOk (d := 21) (x := .ptr 0 0) rfl rfl rfl ?_
    refine rOk (d := 22) (x := .v (.int .u32 ((s.pc : Nat) : Int))) rfl rfl rfl ?_
    refine rCall (args := [.sl 1 (prog.map rowU) clip, .v (.int .u32 ((s.pc : Nat) : Int))]) (d := 23) (x := .tup [.v (.int .u32 ((fetchW prog s.pc : Nat) : Int)), .v (.bool ((fetchP prog s.pc).isSome))]) rfl rfl rfl rfl (.inl rfl) rfl (dFetch prog s.pc clip hp hl hs.pc) ?_
    refine rOk (d := 19) (x := .tup [.v (.int .u32 ((fetchW prog s.pc : Nat) : Int)), .v (.bool ((fetchP prog s.pc).isSome))]) rfl rfl rfl ?_
    refine rOk (d := 24) (x := .v (.int .u32 ((fetchW prog s.pc : Nat) : Int))) rfl rfl rfl ?_
    refine rOk (d := 25) (x := .v (.bool ((fetchP prog s.pc).isSome))) rfl rfl rfl ?_
    refine rOk (d := 6) (x := .v (.int .u32 ((fetchW prog s.pc : Nat) : Int))) rfl rfl rfl ?_
    refine rOk (d := 7) (x := .v (.bool ((fetchP prog s.pc).isSome))) rfl rfl rfl ?_
    refine rEnd (n' := 15) rfl ?_
    refine cSeq ?_
    refine cSeq ?_
    refine cReg rfl ?_
    refine rOk (d := 26) (x := .v (.bool ((fetchP prog s.pc).isSome))) rfl rfl rfl ?_
    refine rOk (d := 27) (x := .v (.bool (!((fetchP prog s.pc).isSome)))) rfl rfl rfl ?_
    refine rEnd (n' := 17) rfl ?_
    refine cCond (v := !((fetchP prog s.pc).isSome)) rfl (fun h2 => ?_) (fun h2 => ?_)
    · skip
      refine cSeq ?_
      refine cReg rfl ?_
      refine rOk (d := 28) (x := .agg (stL s.pc s.r s.mem s.halt)) rfl rfl rfl ?_
      refine rCall (args := [.agg (stL s.pc s.r s.mem s.halt), .v (.int .i64 1)]) (d := 29) (x := .tup [.agg (stL s.pc s.r s.mem 1), .agg [.v (.int .u32 ((s.pc : Nat) : Int)), .v (.int .u32 ((s.pc : Nat) : Int)), .v (.int .i64 0), .v (.int .u32 0), .v (.int .u32 0), .v (.int .i64 0), .v (.bool false), .v (.int .i64 1), .v (.int .i64 0)]]) rfl rfl rfl rfl (.inl rfl) rfl (dHalt s (1) hs) ?_
      refine rOk (d := 30) (x := .agg (stL s.pc s.r s.mem 1)) rfl rfl rfl ?_
      refine rOk (d := 31) (x := .agg [.v (.int .u32 ((s.pc : Nat) : Int)), .v (.int .u32 ((s.pc : Nat) : Int)), .v (.int .i64 0), .v (.int .u32 0), .v (.int .u32 0), .v (.int .i64 0), .v (.bool false), .v (.int .i64 1), .v (.int .i64 0)]) rfl rfl rfl ?_
      refine rFx0 (h' := upd _ 1 (some (.box (stL s.pc s.r s.mem 1)))) rfl rfl (rfl) (trivial) ?_
      refine rFx0 (h' := upd _ 2 (some (.box [.v (.int .u32 ((s.pc : Nat) : Int)), .v (.int .u32 ((s.pc : Nat) : Int)), .v (.int .i64 0), .v (.int .u32 0), .v (.int .u32 0), .v (.int .i64 0), .v (.bool false), .v (.int .i64 1), .v (.int .i64 0)]))) rfl rfl (rfl) (trivial) ?_
      refine rEnd (n' := 23) rfl ?_
      refine cRet ?_
      exact finTA rfl trivial rfl (by unfold stepP doI; rw [if_pos (by simpa using h1), if_neg (by simpa using h2)]; rfl)
    · skip
      refine cSkip ?_
      refine cSeq ?_
      refine cReg rfl ?_
      refine rOk (d := 33) (x := .v (.int .u32 ((fetchW prog s.pc : Nat) : Int))) rfl rfl rfl ?_
      refine rCall (args := [.v (.int .u32 ((fetchW prog s.pc : Nat) : Int))]) (d := 34) (x := .tup [.agg [.v (.int .i64 ((insOf prog s).op)), .v (.int .i64 ((insOf prog s).rd)), .v (.int .i64 ((insOf prog s).rs1)), .v (.int .i64 ((insOf prog s).rs2)), .v (.int .u32 (((insOf prog s).imm : Nat) : Int))], .v (.int .i64 ((decE (fetchW prog s.pc) : Nat) : Int))]) rfl rfl rfl rfl (.inl rfl) rfl (dDecode _ (Nat.lt_succ_of_le (fetchW_le hp s.pc))) ?_
      refine rOk (d := 32) (x := .tup [.agg [.v (.int .i64 ((insOf prog s).op)), .v (.int .i64 ((insOf prog s).rd)), .v (.int .i64 ((insOf prog s).rs1)), .v (.int .i64 ((insOf prog s).rs2)), .v (.int .u32 (((insOf prog s).imm : Nat) : Int))], .v (.int .i64 ((decE (fetchW prog s.pc) : Nat) : Int))]) rfl rfl rfl ?_
      refine rOk (d := 35) (x := .agg [.v (.int .i64 ((insOf prog s).op)), .v (.int .i64 ((insOf prog s).rd)), .v (.int .i64 ((insOf prog s).rs1)), .v (.int .i64 ((insOf prog s).rs2)), .v (.int .u32 (((insOf prog s).imm : Nat) : Int))]) rfl rfl rfl ?_
      refine rOk (d := 36) (x := .v (.int .i64 ((decE (fetchW prog s.pc) : Nat) : Int))) rfl rfl rfl ?_
      refine rFx (d := 8) (x := .ptr 22 0) (h' := upd _ 22 (some (.box [.v (.int .i64 0), .v (.int .i64 0), .v (.int .i64 0), .v (.int .i64 0), .v (.int .u32 0)]))) rfl rfl (rfl) (trivial) ?_
      refine rFx0 (h' := upd _ 22 (some (.box [.v (.int .i64 ((insOf prog s).op)), .v (.int .i64 ((insOf prog s).rd)), .v (.int .i64 ((insOf prog s).rs1)), .v (.int .i64 ((insOf prog s).rs2)), .v (.int .u32 (((insOf prog s).imm : Nat) : Int))]))) rfl rfl (rfl) (trivial) ?_
      refine rOk (d := 9) (x := .v (.int .i64 ((decE (fetchW prog s.pc) : Nat) : Int))) rfl rfl rfl ?_
      refine rEnd (n' := 25) rfl ?_
      refine cSeq ?_
      refine cSeq ?_
      refine cReg rfl ?_
      refine rOk (d := 37) (x := .v (.int .i64 ((decE (fetchW prog s.pc) : Nat) : Int))) rfl rfl rfl ?_
      refine rOk (d := 38) (x := .v (.bool ((decE (fetchW prog s.pc)) != 0))) rfl rfl (okB (neN _ _)) ?_
      refine rEnd (n' := 27) rfl ?_
      refine cCond (v := (decE (fetchW prog s.pc)) != 0) rfl (fun h3 => ?_) (fun h3 => ?_)
      · skip
        refine cSeq ?_
        refine cReg rfl ?_
        refine rOk (d := 39) (x := .agg (stL s.pc s.r s.mem s.halt)) rfl rfl rfl ?_
        refine rCall (args := [.agg (stL s.pc s.r s.mem s.halt), .v (.int .i64 2)]) (d := 40) (x := .tup [.agg (stL s.pc s.r s.mem 2), .agg [.v (.int .u32 ((s.pc : Nat) : Int)), .v (.int .u32 ((s.pc : Nat) : Int)), .v (.int .i64 0), .v (.int .u32 0), .v (.int .u32 0), .v (.int .i64 0), .v (.bool false), .v (.int .i64 2), .v (.int .i64 0)]]) rfl rfl rfl rfl (.inl rfl) rfl (dHalt s (2) hs) ?_
        refine rOk (d := 41) (x := .agg (stL s.pc s.r s.mem 2)) rfl rfl rfl ?_
        refine rOk (d := 42) (x := .agg [.v (.int .u32 ((s.pc : Nat) : Int)), .v (.int .u32 ((s.pc : Nat) : Int)), .v (.int .i64 0), .v (.int .u32 0), .v (.int .u32 0), .v (.int .i64 0), .v (.bool false), .v (.int .i64 2), .v (.int .i64 0)]) rfl rfl rfl ?_
        refine rFx0 (h' := upd _ 1 (some (.box (stL s.pc s.r s.mem 2)))) rfl rfl (rfl) (trivial) ?_
        refine rFx0 (h' := upd _ 2 (some (.box [.v (.int .u32 ((s.pc : Nat) : Int)), .v (.int .u32 ((s.pc : Nat) : Int)), .v (.int .i64 0), .v (.int .u32 0), .v (.int .u32 0), .v (.int .i64 0), .v (.bool false), .v (.int .i64 2), .v (.int .i64 0)]))) rfl rfl (rfl) (trivial) ?_
        refine rEnd (n' := 33) rfl ?_
        refine cRet ?_
        exact finTA rfl trivial rfl (by unfold stepP doI; rw [if_pos (by simpa using h1), if_pos (by simpa using h2), if_pos ((decE_ne _).1 h3)]; rfl)
      · skip
        refine cSkip ?_
        refine cSeq ?_
        refine cSeq ?_
        refine cReg rfl ?_
        refine rOk (d := 43) (x := .ptr 22 0) rfl rfl rfl ?_
        refine rOk (d := 44) (x := .v (.int .i64 ((insOf prog s).op))) rfl rfl rfl ?_
        refine rEnd (n' := 29) rfl ?_
        refine cBlock ?_
        refine cSeq ?_
        refine cReg rfl ?_
        refine rOk (d := 46) (x := .v (.bool (((insOf prog s).op) == 47))) rfl rfl rfl ?_
        refine rOk (d := 45) (x := .v (.bool (((insOf prog s).op) == 47))) rfl rfl rfl ?_
        refine rEnd (n' := 31) rfl ?_
        refine cCond (v := ((insOf prog s).op) == 47) rfl (fun h4 => ?_) (fun h4 => ?_)
        · skip
          refine cSeq ?_
          refine cReg rfl ?_
          refine rOk (d := 47) (x := .agg (stL s.pc s.r s.mem s.halt)) rfl rfl rfl ?_
          refine rCall (args := [.agg (stL s.pc s.r s.mem s.halt), .v (.int .i64 6)]) (d := 48) (x := .tup [.agg (stL s.pc s.r s.mem 6), .agg [.v (.int .u32 ((s.pc : Nat) : Int)), .v (.int .u32 ((s.pc : Nat) : Int)), .v (.int .i64 0), .v (.int .u32 0), .v (.int .u32 0), .v (.int .i64 0), .v (.bool false), .v (.int .i64 6), .v (.int .i64 0)]]) rfl rfl rfl rfl (.inl rfl) rfl (dHalt s (6) hs) ?_
          refine rOk (d := 49) (x := .agg (stL s.pc s.r s.mem 6)) rfl rfl rfl ?_
          refine rOk (d := 50) (x := .agg [.v (.int .u32 ((s.pc : Nat) : Int)), .v (.int .u32 ((s.pc : Nat) : Int)), .v (.int .i64 0), .v (.int .u32 0), .v (.int .u32 0), .v (.int .i64 0), .v (.bool false), .v (.int .i64 6), .v (.int .i64 0)]) rfl rfl rfl ?_
          refine rFx0 (h' := upd _ 1 (some (.box (stL s.pc s.r s.mem 6)))) rfl rfl (rfl) (trivial) ?_
          refine rFx0 (h' := upd _ 2 (some (.box [.v (.int .u32 ((s.pc : Nat) : Int)), .v (.int .u32 ((s.pc : Nat) : Int)), .v (.int .i64 0), .v (.int .u32 0), .v (.int .u32 0), .v (.int .i64 0), .v (.bool false), .v (.int .i64 6), .v (.int .i64 0)]))) rfl rfl (rfl) (trivial) ?_
          refine rEnd (n' := 37) rfl ?_
          refine cRet ?_
          exact finTA rfl trivial rfl (by unfold stepP doI; rw [if_pos (by simpa using h1), if_pos (by simpa using h2), if_neg (fun e => by rw [(decE_ne _).2 e] at h3; cases h3), if_pos (by simpa using h4)]; rfl)
        · skip
          refine cSeq ?_
          refine cReg rfl ?_
          refine rOk (d := 52) (x := .v (.bool (((insOf prog s).op) == 48))) rfl rfl rfl ?_
          refine rOk (d := 51) (x := .v (.bool (((insOf prog s).op) == 48))) rfl rfl rfl ?_
          refine rEnd (n' := 33) rfl ?_
          refine cCond (v := ((insOf prog s).op) == 48) rfl (fun h5 => ?_) (fun h5 => ?_)
          · skip
            refine cSeq ?_
            refine cReg rfl ?_
            refine rOk (d := 53) (x := .agg (stL s.pc s.r s.mem s.halt)) rfl rfl rfl ?_
            refine rCall (args := [.agg (stL s.pc s.r s.mem s.halt), .v (.int .i64 7)]) (d := 54) (x := .tup [.agg (stL s.pc s.r s.mem 7), .agg [.v (.int .u32 ((s.pc : Nat) : Int)), .v (.int .u32 ((s.pc : Nat) : Int)), .v (.int .i64 0), .v (.int .u32 0), .v (.int .u32 0), .v (.int .i64 0), .v (.bool false), .v (.int .i64 7), .v (.int .i64 0)]]) rfl rfl rfl rfl (.inl rfl) rfl (dHalt s (7) hs) ?_
            refine rOk (d := 55) (x := .agg (stL s.pc s.r s.mem 7)) rfl rfl rfl ?_
            refine rOk (d := 56) (x := .agg [.v (.int .u32 ((s.pc : Nat) : Int)), .v (.int .u32 ((s.pc : Nat) : Int)), .v (.int .i64 0), .v (.int .u32 0), .v (.int .u32 0), .v (.int .i64 0), .v (.bool false), .v (.int .i64 7), .v (.int .i64 0)]) rfl rfl rfl ?_
            refine rFx0 (h' := upd _ 1 (some (.box (stL s.pc s.r s.mem 7)))) rfl rfl (rfl) (trivial) ?_
            refine rFx0 (h' := upd _ 2 (some (.box [.v (.int .u32 ((s.pc : Nat) : Int)), .v (.int .u32 ((s.pc : Nat) : Int)), .v (.int .i64 0), .v (.int .u32 0), .v (.int .u32 0), .v (.int .i64 0), .v (.bool false), .v (.int .i64 7), .v (.int .i64 0)]))) rfl rfl (rfl) (trivial) ?_
            refine rEnd (n' := 39) rfl ?_
            refine cRet ?_
            exact finTA rfl trivial rfl (by unfold stepP doI; rw [if_pos (by simpa using h1), if_pos (by simpa using h2), if_neg (fun e => by rw [(decE_ne _).2 e] at h3; cases h3), if_neg (by simpa using h4), if_pos (by simpa using h5)]; rfl)
          · skip
            refine cSkip ?_
            refine cSeq ?_
            refine cReg rfl ?_
            refine rOk (d := 58) (x := .agg [.v (.int .i64 ((insOf prog s).op)), .v (.int .i64 ((insOf prog s).rd)), .v (.int .i64 ((insOf prog s).rs1)), .v (.int .i64 ((insOf prog s).rs2)), .v (.int .u32 (((insOf prog s).imm : Nat) : Int))]) rfl rfl rfl ?_
            refine rCall (args := [.agg [.v (.int .i64 ((insOf prog s).op)), .v (.int .i64 ((insOf prog s).rd)), .v (.int .i64 ((insOf prog s).rs1)), .v (.int .i64 ((insOf prog s).rs2)), .v (.int .u32 (((insOf prog s).imm : Nat) : Int))]]) (d := 59) (x := .tup [.v (.int .i64 ((insOf prog s).rs1)), .v (.int .i64 ((insOf prog s).rs2))]) rfl rfl rfl rfl (.inl rfl) rfl (dReads (insOf prog s)) ?_
            refine rOk (d := 57) (x := .tup [.v (.int .i64 ((insOf prog s).rs1)), .v (.int .i64 ((insOf prog s).rs2))]) rfl rfl rfl ?_
            refine rOk (d := 60) (x := .v (.int .i64 ((insOf prog s).rs1))) rfl rfl rfl ?_
            refine rOk (d := 61) (x := .v (.int .i64 ((insOf prog s).rs2))) rfl rfl rfl ?_
            refine rOk (d := 10) (x := .v (.int .i64 ((insOf prog s).rs1))) rfl rfl rfl ?_
            refine rOk (d := 11) (x := .v (.int .i64 ((insOf prog s).rs2))) rfl rfl rfl ?_
            refine rEnd (n' := 40) rfl ?_
            refine cSeq ?_
            refine cReg rfl ?_
            refine rOk (d := 62) (x := .v (.int .i64 ((insOf prog s).rs1))) rfl rfl rfl ?_
            refine rOk (d := 63) (x := .ptr 0 1) rfl rfl rfl ?_
            refine rNeed (d := 64) (x := .ptr 0 (1 + ((insOf prog s).rs1).toNat * 1)) rfl rfl rfl (by omega) ?_
            refine rOk (d := 65) (x := .v (.int .u32 ((s.r (((insOf prog s).rs1).toNat) : Nat) : Int))) rfl rfl (ldR s.pc s.r s.mem s.halt (((insOf prog s).rs1).toNat) (by omega)) ?_
            refine rOk (d := 66) (x := .v (.int .i64 ((insOf prog s).rs2))) rfl rfl rfl ?_
            refine rOk (d := 67) (x := .ptr 0 1) rfl rfl rfl ?_
            refine rNeed (d := 68) (x := .ptr 0 (1 + ((insOf prog s).rs2).toNat * 1)) rfl rfl rfl (by omega) ?_
            refine rOk (d := 69) (x := .v (.int .u32 ((s.r (((insOf prog s).rs2).toNat) : Nat) : Int))) rfl rfl (ldR s.pc s.r s.mem s.halt (((insOf prog s).rs2).toNat) (by omega)) ?_
            refine rOk (d := 12) (x := .v (.int .u32 ((s.r (((insOf prog s).rs1).toNat) : Nat) : Int))) rfl rfl rfl ?_
            refine rOk (d := 13) (x := .v (.int .u32 ((s.r (((insOf prog s).rs2).toNat) : Nat) : Int))) rfl rfl rfl ?_
            refine rEnd (n' := 50) rfl ?_
            refine cSeq ?_
            refine cSeq ?_
            refine cReg rfl ?_
            refine rOk (d := 70) (x := .agg [.v (.int .i64 ((insOf prog s).op)), .v (.int .i64 ((insOf prog s).rd)), .v (.int .i64 ((insOf prog s).rs1)), .v (.int .i64 ((insOf prog s).rs2)), .v (.int .u32 (((insOf prog s).imm : Nat) : Int))]) rfl rfl rfl ?_
            refine rCall (args := [.agg [.v (.int .i64 ((insOf prog s).op)), .v (.int .i64 ((insOf prog s).rd)), .v (.int .i64 ((insOf prog s).rs1)), .v (.int .i64 ((insOf prog s).rs2)), .v (.int .u32 (((insOf prog s).imm : Nat) : Int))]]) (d := 71) (x := .v (.int .i64 ((kindOf (insOf prog s).op : Nat) : Int))) rfl rfl rfl rfl (.inl rfl) rfl (dKind (insOf prog s)) ?_
            refine rEnd (n' := 52) rfl ?_
            refine cBlock ?_
            refine cSeq ?_
            refine cSeq ?_
            refine cReg rfl ?_
            refine rOk (d := 73) (x := .v (.bool ((kindOf (insOf prog s).op) == 3))) rfl rfl (okB (eqN _ _)) ?_
            refine rOk (d := 72) (x := .v (.bool ((kindOf (insOf prog s).op) == 3))) rfl rfl rfl ?_
            refine rEnd (n' := 54) rfl ?_
            refine cCond (v := (kindOf (insOf prog s).op) == 3) rfl (fun h6 => ?_) (fun h6 => ?_)
            · skip
              refine cSkip ?_
              refine cCond (v := (kindOf (insOf prog s).op) == 3) rfl (fun _ => ?_) (fun h7 => Bool.noConfusion (h6.symm.trans h7))
              refine cSeq ?_
              refine cReg rfl ?_
              refine rOk (d := 75) (x := .agg (stL s.pc s.r s.mem s.halt)) rfl rfl rfl ?_
              refine rOk (d := 76) (x := .agg [.v (.int .i64 ((insOf prog s).op)), .v (.int .i64 ((insOf prog s).rd)), .v (.int .i64 ((insOf prog s).rs1)), .v (.int .i64 ((insOf prog s).rs2)), .v (.int .u32 (((insOf prog s).imm : Nat) : Int))]) rfl rfl rfl ?_
              refine rOk (d := 77) (x := .v (.int .u32 ((s.r (((insOf prog s).rs1).toNat) : Nat) : Int))) rfl rfl rfl ?_
              refine rOk (d := 78) (x := .v (.int .u32 ((s.r (((insOf prog s).rs2).toNat) : Nat) : Int))) rfl rfl rfl ?_
              refine rCall (args := [.agg (stL s.pc s.r s.mem s.halt), .agg [.v (.int .i64 ((insOf prog s).op)), .v (.int .i64 ((insOf prog s).rd)), .v (.int .i64 ((insOf prog s).rs1)), .v (.int .i64 ((insOf prog s).rs2)), .v (.int .u32 (((insOf prog s).imm : Nat) : Int))], .v (.int .u32 ((s.r (((insOf prog s).rs1).toNat) : Nat) : Int)), .v (.int .u32 ((s.r (((insOf prog s).rs2).toNat) : Nat) : Int))]) (d := 79) (x := .tup [.agg (stL (((accessP s (insOf prog s) (s.r (insOf prog s).rs1.toNat) (s.r (insOf prog s).rs2.toNat)).1).pc) (((accessP s (insOf prog s) (s.r (insOf prog s).rs1.toNat) (s.r (insOf prog s).rs2.toNat)).1).r) (((accessP s (insOf prog s) (s.r (insOf prog s).rs1.toNat) (s.r (insOf prog s).rs2.toNat)).1).mem) (((accessP s (insOf prog s) (s.r (insOf prog s).rs1.toNat) (s.r (insOf prog s).rs2.toNat)).1).halt)), .agg [.v (.int .u32 ((((accessP s (insOf prog s) (s.r (insOf prog s).rs1.toNat) (s.r (insOf prog s).rs2.toNat)).2).pc : Nat) : Int)), .v (.int .u32 ((((accessP s (insOf prog s) (s.r (insOf prog s).rs1.toNat) (s.r (insOf prog s).rs2.toNat)).2).next : Nat) : Int)), .v (.int .i64 (((accessP s (insOf prog s) (s.r (insOf prog s).rs1.toNat) (s.r (insOf prog s).rs2.toNat)).2).rd)), .v (.int .u32 ((((accessP s (insOf prog s) (s.r (insOf prog s).rs1.toNat) (s.r (insOf prog s).rs2.toNat)).2).value : Nat) : Int)), .v (.int .u32 ((((accessP s (insOf prog s) (s.r (insOf prog s).rs1.toNat) (s.r (insOf prog s).rs2.toNat)).2).addr : Nat) : Int)), .v (.int .i64 (((accessP s (insOf prog s) (s.r (insOf prog s).rs1.toNat) (s.r (insOf prog s).rs2.toNat)).2).size)), .v (.bool (((accessP s (insOf prog s) (s.r (insOf prog s).rs1.toNat) (s.r (insOf prog s).rs2.toNat)).2).store)), .v (.int .i64 (((accessP s (insOf prog s) (s.r (insOf prog s).rs1.toNat) (s.r (insOf prog s).rs2.toNat)).2).halt)), .v (.int .i64 (((accessP s (insOf prog s) (s.r (insOf prog s).rs1.toNat) (s.r (insOf prog s).rs2.toNat)).2).took))]]) rfl rfl rfl rfl (.inl rfl) rfl (dAccess s (insOf prog s) (s.r (insOf prog s).rs1.toNat) (s.r (insOf prog s).rs2.toNat) hs hd.2.2.2.2.2.2 (hs.r _) (hs.r _) hv.1 hv.2) ?_
              refine rOk (d := 80) (x := .agg (stL (((accessP s (insOf prog s) (s.r (insOf prog s).rs1.toNat) (s.r (insOf prog s).rs2.toNat)).1).pc) (((accessP s (insOf prog s) (s.r (insOf prog s).rs1.toNat) (s.r (insOf prog s).rs2.toNat)).1).r) (((accessP s (insOf prog s) (s.r (insOf prog s).rs1.toNat) (s.r (insOf prog s).rs2.toNat)).1).mem) (((accessP s (insOf prog s) (s.r (insOf prog s).rs1.toNat) (s.r (insOf prog s).rs2.toNat)).1).halt))) rfl rfl rfl ?_
              refine rOk (d := 81) (x := .agg [.v (.int .u32 ((((accessP s (insOf prog s) (s.r (insOf prog s).rs1.toNat) (s.r (insOf prog s).rs2.toNat)).2).pc : Nat) : Int)), .v (.int .u32 ((((accessP s (insOf prog s) (s.r (insOf prog s).rs1.toNat) (s.r (insOf prog s).rs2.toNat)).2).next : Nat) : Int)), .v (.int .i64 (((accessP s (insOf prog s) (s.r (insOf prog s).rs1.toNat) (s.r (insOf prog s).rs2.toNat)).2).rd)), .v (.int .u32 ((((accessP s (insOf prog s) (s.r (insOf prog s).rs1.toNat) (s.r (insOf prog s).rs2.toNat)).2).value : Nat) : Int)), .v (.int .u32 ((((accessP s (insOf prog s) (s.r (insOf prog s).rs1.toNat) (s.r (insOf prog s).rs2.toNat)).2).addr : Nat) : Int)), .v (.int .i64 (((accessP s (insOf prog s) (s.r (insOf prog s).rs1.toNat) (s.r (insOf prog s).rs2.toNat)).2).size)), .v (.bool (((accessP s (insOf prog s) (s.r (insOf prog s).rs1.toNat) (s.r (insOf prog s).rs2.toNat)).2).store)), .v (.int .i64 (((accessP s (insOf prog s) (s.r (insOf prog s).rs1.toNat) (s.r (insOf prog s).rs2.toNat)).2).halt)), .v (.int .i64 (((accessP s (insOf prog s) (s.r (insOf prog s).rs1.toNat) (s.r (insOf prog s).rs2.toNat)).2).took))]) rfl rfl rfl ?_
              refine rFx0 (h' := upd _ 1 (some (.box (stL (((accessP s (insOf prog s) (s.r (insOf prog s).rs1.toNat) (s.r (insOf prog s).rs2.toNat)).1).pc) (((accessP s (insOf prog s) (s.r (insOf prog s).rs1.toNat) (s.r (insOf prog s).rs2.toNat)).1).r) (((accessP s (insOf prog s) (s.r (insOf prog s).rs1.toNat) (s.r (insOf prog s).rs2.toNat)).1).mem) (((accessP s (insOf prog s) (s.r (insOf prog s).rs1.toNat) (s.r (insOf prog s).rs2.toNat)).1).halt))))) rfl rfl (rfl) (trivial) ?_
              refine rFx0 (h' := upd _ 2 (some (.box [.v (.int .u32 ((((accessP s (insOf prog s) (s.r (insOf prog s).rs1.toNat) (s.r (insOf prog s).rs2.toNat)).2).pc : Nat) : Int)), .v (.int .u32 ((((accessP s (insOf prog s) (s.r (insOf prog s).rs1.toNat) (s.r (insOf prog s).rs2.toNat)).2).next : Nat) : Int)), .v (.int .i64 (((accessP s (insOf prog s) (s.r (insOf prog s).rs1.toNat) (s.r (insOf prog s).rs2.toNat)).2).rd)), .v (.int .u32 ((((accessP s (insOf prog s) (s.r (insOf prog s).rs1.toNat) (s.r (insOf prog s).rs2.toNat)).2).value : Nat) : Int)), .v (.int .u32 ((((accessP s (insOf prog s) (s.r (insOf prog s).rs1.toNat) (s.r (insOf prog s).rs2.toNat)).2).addr : Nat) : Int)), .v (.int .i64 (((accessP s (insOf prog s) (s.r (insOf prog s).rs1.toNat) (s.r (insOf prog s).rs2.toNat)).2).size)), .v (.bool (((accessP s (insOf prog s) (s.r (insOf prog s).rs1.toNat) (s.r (insOf prog s).rs2.toNat)).2).store)), .v (.int .i64 (((accessP s (insOf prog s) (s.r (insOf prog s).rs1.toNat) (s.r (insOf prog s).rs2.toNat)).2).halt)), .v (.int .i64 (((accessP s (insOf prog s) (s.r (insOf prog s).rs1.toNat) (s.r (insOf prog s).rs2.toNat)).2).took))]))) rfl rfl (rfl) (trivial) ?_
              refine rEnd (n' := 63) rfl ?_
              refine cRet ?_
              exact finTA rfl trivial rfl (by unfold stepP doI; rw [if_pos (by simpa using h1), if_pos (by simpa using h2), if_neg (fun e => by rw [(decE_ne _).2 e] at h3; cases h3), if_neg (by simpa using h4), if_neg (by simpa using h5), if_pos (by simp at h6; first | exact .inl h6 | exact .inr h6)]; rfl)
            · skip
              refine cReg rfl ?_
              refine rOk (d := 74) (x := .v (.bool ((kindOf (insOf prog s).op) == 4))) rfl rfl (okB (eqN _ _)) ?_
              refine rOk (d := 72) (x := .v (.bool ((kindOf (insOf prog s).op) == 4))) rfl rfl rfl ?_
              refine rEnd (n' := 56) rfl ?_
              refine cCond (v := (kindOf (insOf prog s).op) == 4) rfl (fun h8 => ?_) (fun h8 => ?_)
              · skip
                refine cSeq ?_
                refine cReg rfl ?_
                refine rOk (d := 75) (x := .agg (stL s.pc s.r s.mem s.halt)) rfl rfl rfl ?_
                refine rOk (d := 76) (x := .agg [.v (.int .i64 ((insOf prog s).op)), .v (.int .i64 ((insOf prog s).rd)), .v (.int .i64 ((insOf prog s).rs1)), .v (.int .i64 ((insOf prog s).rs2)), .v (.int .u32 (((insOf prog s).imm : Nat) : Int))]) rfl rfl rfl ?_
                refine rOk (d := 77) (x := .v (.int .u32 ((s.r (((insOf prog s).rs1).toNat) : Nat) : Int))) rfl rfl rfl ?_
                refine rOk (d := 78) (x := .v (.int .u32 ((s.r (((insOf prog s).rs2).toNat) : Nat) : Int))) rfl rfl rfl ?_
                refine rCall (args := [.agg (stL s.pc s.r s.mem s.halt), .agg [.v (.int .i64 ((insOf prog s).op)), .v (.int .i64 ((insOf prog s).rd)), .v (.int .i64 ((insOf prog s).rs1)), .v (.int .i64 ((insOf prog s).rs2)), .v (.int .u32 (((insOf prog s).imm : Nat) : Int))], .v (.int .u32 ((s.r (((insOf prog s).rs1).toNat) : Nat) : Int)), .v (.int .u32 ((s.r (((insOf prog s).rs2).toNat) : Nat) : Int))]) (d := 79) (x := .tup [.agg (stL (((accessP s (insOf prog s) (s.r (insOf prog s).rs1.toNat) (s.r (insOf prog s).rs2.toNat)).1).pc) (((accessP s (insOf prog s) (s.r (insOf prog s).rs1.toNat) (s.r (insOf prog s).rs2.toNat)).1).r) (((accessP s (insOf prog s) (s.r (insOf prog s).rs1.toNat) (s.r (insOf prog s).rs2.toNat)).1).mem) (((accessP s (insOf prog s) (s.r (insOf prog s).rs1.toNat) (s.r (insOf prog s).rs2.toNat)).1).halt)), .agg [.v (.int .u32 ((((accessP s (insOf prog s) (s.r (insOf prog s).rs1.toNat) (s.r (insOf prog s).rs2.toNat)).2).pc : Nat) : Int)), .v (.int .u32 ((((accessP s (insOf prog s) (s.r (insOf prog s).rs1.toNat) (s.r (insOf prog s).rs2.toNat)).2).next : Nat) : Int)), .v (.int .i64 (((accessP s (insOf prog s) (s.r (insOf prog s).rs1.toNat) (s.r (insOf prog s).rs2.toNat)).2).rd)), .v (.int .u32 ((((accessP s (insOf prog s) (s.r (insOf prog s).rs1.toNat) (s.r (insOf prog s).rs2.toNat)).2).value : Nat) : Int)), .v (.int .u32 ((((accessP s (insOf prog s) (s.r (insOf prog s).rs1.toNat) (s.r (insOf prog s).rs2.toNat)).2).addr : Nat) : Int)), .v (.int .i64 (((accessP s (insOf prog s) (s.r (insOf prog s).rs1.toNat) (s.r (insOf prog s).rs2.toNat)).2).size)), .v (.bool (((accessP s (insOf prog s) (s.r (insOf prog s).rs1.toNat) (s.r (insOf prog s).rs2.toNat)).2).store)), .v (.int .i64 (((accessP s (insOf prog s) (s.r (insOf prog s).rs1.toNat) (s.r (insOf prog s).rs2.toNat)).2).halt)), .v (.int .i64 (((accessP s (insOf prog s) (s.r (insOf prog s).rs1.toNat) (s.r (insOf prog s).rs2.toNat)).2).took))]]) rfl rfl rfl rfl (.inl rfl) rfl (dAccess s (insOf prog s) (s.r (insOf prog s).rs1.toNat) (s.r (insOf prog s).rs2.toNat) hs hd.2.2.2.2.2.2 (hs.r _) (hs.r _) hv.1 hv.2) ?_
                refine rOk (d := 80) (x := .agg (stL (((accessP s (insOf prog s) (s.r (insOf prog s).rs1.toNat) (s.r (insOf prog s).rs2.toNat)).1).pc) (((accessP s (insOf prog s) (s.r (insOf prog s).rs1.toNat) (s.r (insOf prog s).rs2.toNat)).1).r) (((accessP s (insOf prog s) (s.r (insOf prog s).rs1.toNat) (s.r (insOf prog s).rs2.toNat)).1).mem) (((accessP s (insOf prog s) (s.r (insOf prog s).rs1.toNat) (s.r (insOf prog s).rs2.toNat)).1).halt))) rfl rfl rfl ?_
                refine rOk (d := 81) (x := .agg [.v (.int .u32 ((((accessP s (insOf prog s) (s.r (insOf prog s).rs1.toNat) (s.r (insOf prog s).rs2.toNat)).2).pc : Nat) : Int)), .v (.int .u32 ((((accessP s (insOf prog s) (s.r (insOf prog s).rs1.toNat) (s.r (insOf prog s).rs2.toNat)).2).next : Nat) : Int)), .v (.int .i64 (((accessP s (insOf prog s) (s.r (insOf prog s).rs1.toNat) (s.r (insOf prog s).rs2.toNat)).2).rd)), .v (.int .u32 ((((accessP s (insOf prog s) (s.r (insOf prog s).rs1.toNat) (s.r (insOf prog s).rs2.toNat)).2).value : Nat) : Int)), .v (.int .u32 ((((accessP s (insOf prog s) (s.r (insOf prog s).rs1.toNat) (s.r (insOf prog s).rs2.toNat)).2).addr : Nat) : Int)), .v (.int .i64 (((accessP s (insOf prog s) (s.r (insOf prog s).rs1.toNat) (s.r (insOf prog s).rs2.toNat)).2).size)), .v (.bool (((accessP s (insOf prog s) (s.r (insOf prog s).rs1.toNat) (s.r (insOf prog s).rs2.toNat)).2).store)), .v (.int .i64 (((accessP s (insOf prog s) (s.r (insOf prog s).rs1.toNat) (s.r (insOf prog s).rs2.toNat)).2).halt)), .v (.int .i64 (((accessP s (insOf prog s) (s.r (insOf prog s).rs1.toNat) (s.r (insOf prog s).rs2.toNat)).2).took))]) rfl rfl rfl ?_
                refine rFx0 (h' := upd _ 1 (some (.box (stL (((accessP s (insOf prog s) (s.r (insOf prog s).rs1.toNat) (s.r (insOf prog s).rs2.toNat)).1).pc) (((accessP s (insOf prog s) (s.r (insOf prog s).rs1.toNat) (s.r (insOf prog s).rs2.toNat)).1).r) (((accessP s (insOf prog s) (s.r (insOf prog s).rs1.toNat) (s.r (insOf prog s).rs2.toNat)).1).mem) (((accessP s (insOf prog s) (s.r (insOf prog s).rs1.toNat) (s.r (insOf prog s).rs2.toNat)).1).halt))))) rfl rfl (rfl) (trivial) ?_
                refine rFx0 (h' := upd _ 2 (some (.box [.v (.int .u32 ((((accessP s (insOf prog s) (s.r (insOf prog s).rs1.toNat) (s.r (insOf prog s).rs2.toNat)).2).pc : Nat) : Int)), .v (.int .u32 ((((accessP s (insOf prog s) (s.r (insOf prog s).rs1.toNat) (s.r (insOf prog s).rs2.toNat)).2).next : Nat) : Int)), .v (.int .i64 (((accessP s (insOf prog s) (s.r (insOf prog s).rs1.toNat) (s.r (insOf prog s).rs2.toNat)).2).rd)), .v (.int .u32 ((((accessP s (insOf prog s) (s.r (insOf prog s).rs1.toNat) (s.r (insOf prog s).rs2.toNat)).2).value : Nat) : Int)), .v (.int .u32 ((((accessP s (insOf prog s) (s.r (insOf prog s).rs1.toNat) (s.r (insOf prog s).rs2.toNat)).2).addr : Nat) : Int)), .v (.int .i64 (((accessP s (insOf prog s) (s.r (insOf prog s).rs1.toNat) (s.r (insOf prog s).rs2.toNat)).2).size)), .v (.bool (((accessP s (insOf prog s) (s.r (insOf prog s).rs1.toNat) (s.r (insOf prog s).rs2.toNat)).2).store)), .v (.int .i64 (((accessP s (insOf prog s) (s.r (insOf prog s).rs1.toNat) (s.r (insOf prog s).rs2.toNat)).2).halt)), .v (.int .i64 (((accessP s (insOf prog s) (s.r (insOf prog s).rs1.toNat) (s.r (insOf prog s).rs2.toNat)).2).took))]))) rfl rfl (rfl) (trivial) ?_
                refine rEnd (n' := 65) rfl ?_
                refine cRet ?_
                exact finTA rfl trivial rfl (by unfold stepP doI; rw [if_pos (by simpa using h1), if_pos (by simpa using h2), if_neg (fun e => by rw [(decE_ne _).2 e] at h3; cases h3), if_neg (by simpa using h4), if_neg (by simpa using h5), if_pos (by simp at h8; first | exact .inl h8 | exact .inr h8)]; rfl)
              · skip
                refine cSkip ?_
                refine cSeq ?_
                refine cReg rfl ?_
                refine rOk (d := 82) (x := .agg (stL s.pc s.r s.mem s.halt)) rfl rfl rfl ?_
                refine rOk (d := 83) (x := .agg [.v (.int .i64 ((insOf prog s).op)), .v (.int .i64 ((insOf prog s).rd)), .v (.int .i64 ((insOf prog s).rs1)), .v (.int .i64 ((insOf prog s).rs2)), .v (.int .u32 (((insOf prog s).imm : Nat) : Int))]) rfl rfl rfl ?_
                refine rOk (d := 84) (x := .v (.int .u32 ((s.r (((insOf prog s).rs1).toNat) : Nat) : Int))) rfl rfl rfl ?_
                refine rOk (d := 85) (x := .v (.int .u32 ((s.r (((insOf prog s).rs2).toNat) : Nat) : Int))) rfl rfl rfl ?_
                refine rCall (args := [.agg (stL s.pc s.r s.mem s.halt), .agg [.v (.int .i64 ((insOf prog s).op)), .v (.int .i64 ((insOf prog s).rd)), .v (.int .i64 ((insOf prog s).rs1)), .v (.int .i64 ((insOf prog s).rs2)), .v (.int .u32 (((insOf prog s).imm : Nat) : Int))], .v (.int .u32 ((s.r (((insOf prog s).rs1).toNat) : Nat) : Int)), .v (.int .u32 ((s.r (((insOf prog s).rs2).toNat) : Nat) : Int))]) (d := 86) (x := .tup [.agg (stL (((reckonP s (insOf prog s) (s.r (insOf prog s).rs1.toNat) (s.r (insOf prog s).rs2.toNat)).1).pc) (((reckonP s (insOf prog s) (s.r (insOf prog s).rs1.toNat) (s.r (insOf prog s).rs2.toNat)).1).r) (((reckonP s (insOf prog s) (s.r (insOf prog s).rs1.toNat) (s.r (insOf prog s).rs2.toNat)).1).mem) (((reckonP s (insOf prog s) (s.r (insOf prog s).rs1.toNat) (s.r (insOf prog s).rs2.toNat)).1).halt)), .agg [.v (.int .u32 ((((reckonP s (insOf prog s) (s.r (insOf prog s).rs1.toNat) (s.r (insOf prog s).rs2.toNat)).2).pc : Nat) : Int)), .v (.int .u32 ((((reckonP s (insOf prog s) (s.r (insOf prog s).rs1.toNat) (s.r (insOf prog s).rs2.toNat)).2).next : Nat) : Int)), .v (.int .i64 (((reckonP s (insOf prog s) (s.r (insOf prog s).rs1.toNat) (s.r (insOf prog s).rs2.toNat)).2).rd)), .v (.int .u32 ((((reckonP s (insOf prog s) (s.r (insOf prog s).rs1.toNat) (s.r (insOf prog s).rs2.toNat)).2).value : Nat) : Int)), .v (.int .u32 ((((reckonP s (insOf prog s) (s.r (insOf prog s).rs1.toNat) (s.r (insOf prog s).rs2.toNat)).2).addr : Nat) : Int)), .v (.int .i64 (((reckonP s (insOf prog s) (s.r (insOf prog s).rs1.toNat) (s.r (insOf prog s).rs2.toNat)).2).size)), .v (.bool (((reckonP s (insOf prog s) (s.r (insOf prog s).rs1.toNat) (s.r (insOf prog s).rs2.toNat)).2).store)), .v (.int .i64 (((reckonP s (insOf prog s) (s.r (insOf prog s).rs1.toNat) (s.r (insOf prog s).rs2.toNat)).2).halt)), .v (.int .i64 (((reckonP s (insOf prog s) (s.r (insOf prog s).rs1.toNat) (s.r (insOf prog s).rs2.toNat)).2).took))]]) rfl rfl rfl rfl (.inl rfl) rfl (dReckon s (insOf prog s) (s.r (insOf prog s).rs1.toNat) (s.r (insOf prog s).rs2.toNat) hs hd.2.2.2.2.2.2 (hs.r _) (hs.r _) hv.1 hv.2) ?_
                refine rOk (d := 87) (x := .agg (stL (((reckonP s (insOf prog s) (s.r (insOf prog s).rs1.toNat) (s.r (insOf prog s).rs2.toNat)).1).pc) (((reckonP s (insOf prog s) (s.r (insOf prog s).rs1.toNat) (s.r (insOf prog s).rs2.toNat)).1).r) (((reckonP s (insOf prog s) (s.r (insOf prog s).rs1.toNat) (s.r (insOf prog s).rs2.toNat)).1).mem) (((reckonP s (insOf prog s) (s.r (insOf prog s).rs1.toNat) (s.r (insOf prog s).rs2.toNat)).1).halt))) rfl rfl rfl ?_
                refine rOk (d := 88) (x := .agg [.v (.int .u32 ((((reckonP s (insOf prog s) (s.r (insOf prog s).rs1.toNat) (s.r (insOf prog s).rs2.toNat)).2).pc : Nat) : Int)), .v (.int .u32 ((((reckonP s (insOf prog s) (s.r (insOf prog s).rs1.toNat) (s.r (insOf prog s).rs2.toNat)).2).next : Nat) : Int)), .v (.int .i64 (((reckonP s (insOf prog s) (s.r (insOf prog s).rs1.toNat) (s.r (insOf prog s).rs2.toNat)).2).rd)), .v (.int .u32 ((((reckonP s (insOf prog s) (s.r (insOf prog s).rs1.toNat) (s.r (insOf prog s).rs2.toNat)).2).value : Nat) : Int)), .v (.int .u32 ((((reckonP s (insOf prog s) (s.r (insOf prog s).rs1.toNat) (s.r (insOf prog s).rs2.toNat)).2).addr : Nat) : Int)), .v (.int .i64 (((reckonP s (insOf prog s) (s.r (insOf prog s).rs1.toNat) (s.r (insOf prog s).rs2.toNat)).2).size)), .v (.bool (((reckonP s (insOf prog s) (s.r (insOf prog s).rs1.toNat) (s.r (insOf prog s).rs2.toNat)).2).store)), .v (.int .i64 (((reckonP s (insOf prog s) (s.r (insOf prog s).rs1.toNat) (s.r (insOf prog s).rs2.toNat)).2).halt)), .v (.int .i64 (((reckonP s (insOf prog s) (s.r (insOf prog s).rs1.toNat) (s.r (insOf prog s).rs2.toNat)).2).took))]) rfl rfl rfl ?_
                refine rFx0 (h' := upd _ 1 (some (.box (stL (((reckonP s (insOf prog s) (s.r (insOf prog s).rs1.toNat) (s.r (insOf prog s).rs2.toNat)).1).pc) (((reckonP s (insOf prog s) (s.r (insOf prog s).rs1.toNat) (s.r (insOf prog s).rs2.toNat)).1).r) (((reckonP s (insOf prog s) (s.r (insOf prog s).rs1.toNat) (s.r (insOf prog s).rs2.toNat)).1).mem) (((reckonP s (insOf prog s) (s.r (insOf prog s).rs1.toNat) (s.r (insOf prog s).rs2.toNat)).1).halt))))) rfl rfl (rfl) (trivial) ?_
                refine rFx0 (h' := upd _ 2 (some (.box [.v (.int .u32 ((((reckonP s (insOf prog s) (s.r (insOf prog s).rs1.toNat) (s.r (insOf prog s).rs2.toNat)).2).pc : Nat) : Int)), .v (.int .u32 ((((reckonP s (insOf prog s) (s.r (insOf prog s).rs1.toNat) (s.r (insOf prog s).rs2.toNat)).2).next : Nat) : Int)), .v (.int .i64 (((reckonP s (insOf prog s) (s.r (insOf prog s).rs1.toNat) (s.r (insOf prog s).rs2.toNat)).2).rd)), .v (.int .u32 ((((reckonP s (insOf prog s) (s.r (insOf prog s).rs1.toNat) (s.r (insOf prog s).rs2.toNat)).2).value : Nat) : Int)), .v (.int .u32 ((((reckonP s (insOf prog s) (s.r (insOf prog s).rs1.toNat) (s.r (insOf prog s).rs2.toNat)).2).addr : Nat) : Int)), .v (.int .i64 (((reckonP s (insOf prog s) (s.r (insOf prog s).rs1.toNat) (s.r (insOf prog s).rs2.toNat)).2).size)), .v (.bool (((reckonP s (insOf prog s) (s.r (insOf prog s).rs1.toNat) (s.r (insOf prog s).rs2.toNat)).2).store)), .v (.int .i64 (((reckonP s (insOf prog s) (s.r (insOf prog s).rs1.toNat) (s.r (insOf prog s).rs2.toNat)).2).halt)), .v (.int .i64 (((reckonP s (insOf prog s) (s.r (insOf prog s).rs1.toNat) (s.r (insOf prog s).rs2.toNat)).2).took))]))) rfl rfl (rfl) (trivial) ?_
                refine rEnd (n' := 65) rfl ?_
                refine cRet ?_
                exact finTA rfl trivial rfl (by unfold stepP doI; rw [if_pos (by simpa using h1), if_pos (by simpa using h2), if_neg (fun e => by rw [(decE_ne _).2 e] at h3; cases h3), if_neg (by simpa using h4), if_neg (by simpa using h5), if_neg (by simp at h6 h8; omega)]; rfl)
end Go.Proofs.YtahnhhbgkmlfcaaDoor
