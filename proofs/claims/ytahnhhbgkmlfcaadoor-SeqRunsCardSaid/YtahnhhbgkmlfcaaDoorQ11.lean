/- Package seq: walks on the second machine. -/
import Derived.Test.YtahnhhbgkmlfcaaDoorQ10
namespace Go.Proofs.YtahnhhbgkmlfcaaDoor
open Go.RowKit

abbrev rowU (n : Nat) : List AV := [.v (.int .u32 (n : Int))]
theorem bytesOfRows_map : ∀ (l : List UInt8), bytesOfRows (l.map fun b => [.v (.int .u8 (b.toNat : Int))]) = some l
 | [] => rfl
 | b :: l => by
  simp only [List.map_cons, bytesOfRows, bytesOfRows_map l]
  simp
theorem finTA {C : Ctx} {fn : Func} {r : AV} {st : ASt} {rs : List AV} (h1 : resA C st fn.results.toList = some rs) (h2 : lenOkA st.h (retA rs)) (h3 : closedA (datA st.h (retA rs)) = true) (h4 : datA st.h (retA rs) = r) : RetA C fn r st := retA_eq h1 h2 h3 h4

set_option maxRecDepth 100000 in
set_option maxHeartbeats 4000000 in
theorem dReads (i : SI) : DCall C0 28 [siA i] (.tup [.v (.int .i64 i.rs1), .v (.int .i64 i.rs2)]) := by
 refine DCall.intro c0Ok Tryd.func28 rfl rfl (by kernel_rfl) rfl ?_
 refine cSeq ?_
 refine cR ?_
 refine rFx (d := 1) (x := .ptr 0 0) (h' := upd _ 0 (some (.box [vI i.op, vI i.rd, vI i.rs1, vI i.rs2, vU i.imm]))) rfl rfl (rfl) (trivial) ?_
 refine rO 2 (vI 0) ?_
 refine rO 3 (vI 0) ?_
 refine rE 3 ?_
 refine cSeq ?_
 refine cR ?_
 refine rO 4 (.ptr 0 2) ?_
 refine rO 5 (vI i.rs1) ?_
 refine rO 6 (.ptr 0 3) ?_
 refine rO 7 (vI i.rs2) ?_
 refine rO 2 (vI i.rs1) ?_
 refine rO 3 (vI i.rs2) ?_
 refine rE 9 ?_
 refine cRet ?_
 exact retA_eq rfl trivial rfl rfl
set_option maxRecDepth 100000 in
set_option maxHeartbeats 4000000 in
theorem dHalt (s : St) (why : Int) (hs : s.ok) : DCall C0 26 [stA s, .v (.int .i64 why)] (two (haltP s why 0)) := by
 refine DCall.intro c0Ok Tryd.func26 rfl rfl (by kernel_rfl) rfl ?_
 refine cSeq ?_
 refine cR ?_
 refine rFx (d := 2) (x := .ptr 0 0) (h' := upd _ 0 (some (.box (stL s.pc s.r s.mem s.halt)))) rfl rfl (rfl) (trivial) ?_
 refine rFx (d := 4) (x := .ptr 1 0) (h' := upd _ 1 (some (.box (stL 0 (fun _ => 0) (⟨#[]⟩) 0)))) rfl rfl (rfl) (trivial) ?_
 refine rFx (d := 5) (x := .ptr 2 0) (h' := upd _ 2 (some (.box [.v (.int .u32 0), .v (.int .u32 0), vI 0, .v (.int .u32 0), .v (.int .u32 0), vI 0, .v (.bool false), vI 0, vI 0]))) rfl rfl (rfl) (trivial) ?_
 refine rE 3 ?_
 refine cSeq ?_
 refine cR ?_
 refine rO 7 (.ptr 0 0) ?_
 refine rO 8 (vU s.pc) ?_
 refine rO 9 (.ptr 0 0) ?_
 refine rO 10 (vU s.pc) ?_
 refine rO 11 (vI why) ?_
 refine rO 12 (.agg [vU s.pc, vU s.pc, vI 0, .v (.int .u32 0), .v (.int .u32 0), vI 0, .v (.bool false), vI why, vI 0]) ?_
 refine rFx (d := 6) (x := .ptr 9 0) (h' := upd _ 9 (some (.box [.v (.int .u32 0), .v (.int .u32 0), vI 0, .v (.int .u32 0), .v (.int .u32 0), vI 0, .v (.bool false), vI 0, vI 0]))) rfl rfl (rfl) (trivial) ?_
 refine rFx0 (h' := upd _ 9 (some (.box [vU s.pc, vU s.pc, vI 0, .v (.int .u32 0), .v (.int .u32 0), vI 0, .v (.bool false), vI why, vI 0]))) rfl rfl (rfl) (trivial) ?_
 refine rE 11 ?_
 refine cSeq ?_
 refine cR ?_
 refine rO 13 (vI why) ?_
 refine rO 14 (.ptr 0 34) ?_
 refine rFx0 (h' := upd _ 0 (some (.box (stL s.pc s.r s.mem why)))) rfl rfl (rfl) (trivial) ?_
 refine rE 14 ?_
 refine cSeq ?_
 refine cAny rfl ?_
 refine aGo [0, 1] (by kernel_rfl) rfl ⟨?_, ?_, trivial⟩
 ·skip
  refine sOk (d := 15) (x := .agg (stL s.pc s.r s.mem why)) rfl rfl rfl rfl ?_
  refine aGo [1, 2] (by kernel_rfl) rfl ⟨?_, ?_, trivial⟩
  ·skip
   refine sOk (d := 16) (x := .agg [vU s.pc, vU s.pc, vI 0, .v (.int .u32 0), .v (.int .u32 0), vI 0, .v (.bool false), vI why, vI 0]) rfl rfl rfl rfl ?_
   refine aGo [2] (by kernel_rfl) rfl ⟨?_, trivial⟩
   refine sFx0 (h' := upd _ 1 (some (.box (stL s.pc s.r s.mem why)))) rfl rfl rfl (rfl) (trivial) ?_
   refine aGo [3] (by kernel_rfl) rfl ⟨?_, trivial⟩
   refine sFx0 (h' := upd _ 2 (some (.box [vU s.pc, vU s.pc, vI 0, .v (.int .u32 0), .v (.int .u32 0), vI 0, .v (.bool false), vI why, vI 0]))) rfl rfl rfl (rfl) (trivial) ?_
   refine aEnd (n' := 18) (by kernel_rfl) rfl ?_
   refine cRet ?_
   exact retA_eq rfl trivial rfl rfl
  ·skip
   refine sFx0 (h' := upd _ 1 (some (.box (stL s.pc s.r s.mem why)))) rfl rfl rfl (rfl) (trivial) ?_
   refine aGo [1] (by kernel_rfl) rfl ⟨?_, trivial⟩
   refine sOk (d := 16) (x := .agg [vU s.pc, vU s.pc, vI 0, .v (.int .u32 0), .v (.int .u32 0), vI 0, .v (.bool false), vI why, vI 0]) rfl rfl rfl rfl ?_
   refine aGo [3] (by kernel_rfl) rfl ⟨?_, trivial⟩
   refine sFx0 (h' := upd _ 2 (some (.box [vU s.pc, vU s.pc, vI 0, .v (.int .u32 0), .v (.int .u32 0), vI 0, .v (.bool false), vI why, vI 0]))) rfl rfl rfl (rfl) (trivial) ?_
   refine aEnd (n' := 18) (by kernel_rfl) rfl ?_
   refine cRet ?_
   exact retA_eq rfl trivial rfl rfl
 ·skip
  refine sOk (d := 16) (x := .agg [vU s.pc, vU s.pc, vI 0, .v (.int .u32 0), .v (.int .u32 0), vI 0, .v (.bool false), vI why, vI 0]) rfl rfl rfl rfl ?_
  refine aGo [0] (by kernel_rfl) rfl ⟨?_, trivial⟩
  refine sOk (d := 15) (x := .agg (stL s.pc s.r s.mem why)) rfl rfl rfl rfl ?_
  refine aGo [2] (by kernel_rfl) rfl ⟨?_, trivial⟩
  refine sFx0 (h' := upd _ 1 (some (.box (stL s.pc s.r s.mem why)))) rfl rfl rfl (rfl) (trivial) ?_
  refine aGo [3] (by kernel_rfl) rfl ⟨?_, trivial⟩
  refine sFx0 (h' := upd _ 2 (some (.box [vU s.pc, vU s.pc, vI 0, .v (.int .u32 0), .v (.int .u32 0), vI 0, .v (.bool false), vI why, vI 0]))) rfl rfl rfl (rfl) (trivial) ?_
  refine aEnd (n' := 18) (by kernel_rfl) rfl ?_
  refine cRet ?_
  exact retA_eq rfl trivial rfl rfl
theorem fetch_at {prog : List Nat} {pc : Nat} (h1 : pc % 4 = 0) (h2 : pc / 4 < prog.length) : ∃ x, fetchP prog pc = some x ∧ prog[((pc / 4 : Nat) : Int).toNat]? = some x := by
 refine ⟨prog[pc / 4], ?_, ?_⟩
 ·unfold fetchP; rw [if_pos h1, List.getElem?_eq_getElem h2]
 ·rw [Int.toNat_natCast, List.getElem?_eq_getElem h2]
theorem fetch_no {prog : List Nat} {pc : Nat} (h : pc % 4 ≠ 0 ∨ prog.length ≤ pc / 4) : fetchP prog pc = none := by
 unfold fetchP
 split
 ·exact List.getElem?_eq_none (by omega)
 ·rfl
theorem fetchW_le {prog : List Nat} (hp : ∀ x ∈ prog, x ≤ 4294967295) (pc : Nat) : fetchW prog pc ≤ 4294967295 := by
 unfold fetchW fetchP
 split
 ·cases h : prog[pc / 4]? with
  | none => exact Nat.zero_le _
  | some x => exact hp x (List.mem_of_getElem? h)
 ·exact Nat.zero_le _
theorem addr_le (i : SI) (a : Nat) : addrOf i a ≤ 4294967295 := by unfold addrOf; omega
theorem up4_le (a : Nat) : up4 a ≤ 4294967295 := by unfold up4; omega
theorem readP_lt {m : ByteArray} (h : m.size ≤ 256) (a n : Nat) : (readP m a n).size < 9223372036854775808 := by
 unfold readP; rw [ByteArray.size_extract]; omega
theorem decE_ne (x : Nat) : (decE x != 0) = true ↔ opOf x = 0 := by
 unfold decE
 split <;> simp_all
theorem len_u64 {n : Nat} (h : n ≤ 1000000) : IntKind.wrap .u64 (((n : Nat) : Int)) = ((n : Nat) : Int) := by
 simp only [IntKind.wrap, IntKind.signed, IntKind.bits]
 simp
 omega
set_option maxRecDepth 100000 in
set_option maxHeartbeats 4000000 in
theorem dFetch (prog : List Nat) (pc : Nat) (clip : Bool) (hp : ∀ x ∈ prog, x ≤ 4294967295) (hl : prog.length ≤ 1000000) (hpc : pc ≤ 4294967295) : DCall C0 25 [.sl 1 (prog.map rowU) clip, .v (.int .u32 ((pc : Nat) : Int))] (.tup [.v (.int .u32 (fetchW prog pc : Int)), .v (.bool (fetchP prog pc).isSome)]) := by
 refine DCall.intro c0Ok Tryd.func25 rfl rfl (by kernel_rfl) rfl ?_
 refine cSeq ?_
 refine cR ?_
 refine rO 4 (.v (.int .u32 0)) ?_
 refine rO 5 (.v (.bool false)) ?_
 refine rE 2 ?_
 refine cSeq ?_
 refine cSeq ?_
 refine cR ?_
 refine rO 6 (vU pc) ?_
 have b1 : pc % 4 ≤ 3 := Nat.le_of_lt_succ (Nat.mod_lt _ (by decide))
 refine rNeed (d := 7) (x := vU (pc % 4)) rfl rfl rfl (by decide) ?_
 refine rOk (d := 8) (x := .v (.bool ((pc % 4) != 0))) rfl rfl (okB (neN _ _)) ?_
 refine rO 9 (.v (.bool ((pc % 4) != 0))) ?_
 refine gOk (d := 10) (x := vU pc) (g := !((pc % 4) != 0)) rfl rfl rfl rfl rfl rfl ?_
 have b2 : pc / 4 ≤ 1073741823 := Nat.div_le_div_right hpc
 refine gNeedS (d := 11) (x := vU (pc / 4)) (g := !((pc % 4) != 0)) rfl rfl rfl rfl (fun h => h) rfl (needI (modI b2 rfl)) (fun _ => by decide) ?_
 refine gOkS (d := 12) (x := .v (.int .u64 ((pc / 4 : Nat) : Int))) (g := !((pc % 4) != 0)) rfl rfl rfl rfl (fun h => h) rfl (okI (modI b2 rfl)) ?_
 refine gOk (d := 13) (x := .sl 1 (prog.map rowU) clip) (g := !((pc % 4) != 0)) rfl rfl rfl rfl rfl rfl ?_
 refine gOkS (d := 14) (x := vI ((prog.map rowU).length : Int)) (g := !((pc % 4) != 0)) rfl rfl rfl rfl (fun h => h) rfl rfl ?_
 refine gOkS (d := 15) (x := .v (.int .u64 ((prog.length : Nat) : Int))) (g := !((pc % 4) != 0)) rfl rfl rfl rfl (fun h => h) rfl (by show Res.ok (.v (.int .u64 (IntKind.wrap .u64 ((((prog.map rowU).length : Nat) : Int))))) = _; rw [List.length_map, len_u64 hl]) ?_
 refine gOkS (d := 16) (x := .v (.bool (decide ((pc / 4) ≥ prog.length)))) (g := !((pc % 4) != 0)) rfl rfl rfl rfl (fun h => by simp_all) rfl (okB (geN _ _)) ?_
 refine rNeed (d := 17) (x := .v (.bool (cond2 ((pc % 4) != 0) true (decide ((pc / 4) ≥ prog.length))))) rfl rfl rfl (by simp) ?_
 refine rE 14 ?_
 refine cCond (v := cond2 ((pc % 4) != 0) true (decide ((pc / 4) ≥ prog.length))) rfl (fun h1 => ?_) (fun h1 => ?_)
 ·skip
  refine cSeq ?_
  refine cR ?_
  refine rO 4 (.v (.int .u32 0)) ?_
  refine rO 5 (.v (.bool false)) ?_
  refine rE 16 ?_
  refine cRet ?_
  exact finTA rfl trivial rfl (by unfold fetchW; rw [fetch_no (by simp [cond2, bne] at h1; split at h1 <;> first | (left; assumption) | (right; assumption) | simp_all)]; rfl)
 ·skip
  refine cSkip ?_
  refine cSeq ?_
  refine cR ?_
  refine rO 18 (.sl 1 (prog.map rowU) clip) ?_
  refine rO 19 (vU pc) ?_
  have b3 : pc / 4 ≤ 1073741823 := Nat.div_le_div_right hpc
  refine rNeed (d := 20) (x := vU (pc / 4)) rfl rfl (needI (modI b3 rfl)) (by decide) ?_
  obtain ⟨x, hf, hxx⟩ := fetch_at (prog := prog) (pc := pc) (by simp [cond2, bne] at h1; split at h1 <;> simp_all) (by simp [cond2, bne] at h1; split at h1 <;> simp_all)
  have hx : x ≤ 4294967295 := hp x (List.mem_of_getElem? hxx)
  refine rIdx (rowU x) (d := 21) (x := .dp 1 0 (rowU x)) rfl rfl rfl (⟨by omega, by rw [List.getElem?_map]; exact congrArg (Option.map rowU) hxx⟩) rfl ?_
  refine rO 22 (vU x) ?_
  refine rO 4 (vU x) ?_
  refine rO 5 (.v (.bool true)) ?_
  refine rE 21 ?_
  refine cRet ?_
  exact finTA rfl trivial rfl (by unfold fetchW; rw [hf]; rfl)
theorem right_le {size : Nat} {addr : Nat} {n : Nat} (h : rightP (size : Int) addr (n : Int) = true) : addr + n ≤ size ∧ 0 < n ∧ n ≤ 4 := by
 simp only [rightP, Bool.and_eq_true, decide_eq_true_eq] at h
 omega
set_option maxRecDepth 100000 in
set_option maxHeartbeats 4000000 in
theorem dRead (m : ByteArray) (addr n : Nat) (hr : rightP (m.size : Int) addr (n : Int) = true) (hm : m.size ≤ 256) (ha : addr ≤ 4294967295) : DCall C0 59 [.v (.string m), .v (.int .u32 ((addr : Nat) : Int)), .v (.int .i64 ((n : Nat) : Int))] (.tup [.v (.string (readP m addr n)), .v (.int .i64 0)]) := by
 refine DCall.intro c0Ok Tryd.func59 rfl rfl (by kernel_rfl) rfl ?_
 have hn : n ≤ 4 := (right_le hr).2.2
 refine cSeq ?_
 refine cR ?_
 refine rO 6 (.v (.string (⟨#[]⟩))) ?_
 refine rO 7 (vI 0) ?_
 refine rE 2 ?_
 refine cSeq ?_
 refine cSeq ?_
 refine cR ?_
 refine rO 9 (.v (.string m)) ?_
 refine rO 10 (vI (m.size : Int)) ?_
 refine rO 11 (vU addr) ?_
 refine rO 12 (vN n) ?_
 refine rCall (args := [vI (m.size : Int), vU addr, vN n]) (d := 13) (x := .v (.bool (rightP (m.size : Int) addr (n : Int)))) rfl rfl rfl rfl (.inl rfl) rfl (dRight _ _ _ (by omega) (by omega)) ?_
 refine rO 14 (.v (.bool (!(rightP (m.size : Int) addr (n : Int))))) ?_
 refine rE 8 ?_
 refine cCond (v := !(rightP (m.size : Int) addr (n : Int))) rfl (fun h1 => by rw [hr] at h1; cases h1) (fun _ => ?_)
 refine cSkip ?_
 refine cSeq ?_
 refine cR ?_
 refine rO 15 (vU addr) ?_
 refine rOk (d := 16) (x := vN addr) rfl rfl (okI (wrapI64 ha rfl)) ?_
 refine rO 8 (vN addr) ?_
 refine rE 11 ?_
 refine cSeq ?_
 refine cR ?_
 refine rO 17 (.v (.string m)) ?_
 refine rO 18 (vN addr) ?_
 refine rO 19 (vN addr) ?_
 refine rO 20 (vN n) ?_
 have b1 : addr + n ≤ 4294967299 := Nat.add_le_add ha hn
 refine rOk (d := 21) (x := vN (addr + n)) rfl rfl (okI (wrapI64 b1 rfl)) ?_
 refine rNeed (d := 22) (x := .v (.string (m.extract addr (addr + n)))) rfl rfl rfl (by have q := right_le hr; refine ⟨?_, ?_, ?_⟩ <;> simp <;> omega) ?_
 refine rO 6 (.v (.string (m.extract addr (addr + n)))) ?_
 refine rO 7 (vI 0) ?_
 refine rE 19 ?_
 refine cRet ?_
 exact retA_eq rfl trivial rfl rfl
theorem rows_len (m : ByteArray) : (rowsOfBytes m).length = m.size := by simp [rowsOfBytes]
theorem write_rows (m b : ByteArray) (addr : Nat) (h : addr + b.size ≤ m.size) (h' : addr ≤ m.size) :
  bytesOfRows (((((((List.take addr (List.drop 0 (rowsOfBytes m))) ++ rowsOfBytes b).drop 0).take ((List.take addr (List.drop 0 (rowsOfBytes m))).length + (rowsOfBytes b).length)) ++ ((rowsOfBytes m).drop (0 + (addr + b.size))).take (((m.size : Int) - ((addr + b.size : Nat) : Int)).toNat)).drop 0).take
   ((((((List.take addr (List.drop 0 (rowsOfBytes m))) ++ rowsOfBytes b).drop 0).take ((List.take addr (List.drop 0 (rowsOfBytes m))).length + (rowsOfBytes b).length))).length + (((rowsOfBytes m).drop (0 + (addr + b.size))).take (((m.size : Int) - ((addr + b.size : Nat) : Int)).toNat)).length)) = some (m.data.toList.take addr ++ b.data.toList ++ m.data.toList.drop (addr + b.size)) := by
 simp only [List.drop_zero, Nat.zero_add]
 rw [← List.length_append, List.take_length, ← List.length_append, List.take_length]
 have e : (((m.size : Int) - ((addr + b.size : Nat) : Int)).toNat) = ((rowsOfBytes m).drop (addr + b.size)).length := by
  rw [List.length_drop, rows_len]; omega
 rw [e, List.take_length]
 simp only [rowsOfBytes]
 rw [← List.map_take, ← List.map_drop, ← List.map_append, ← List.map_append]
 exact bytesOfRows_map _
set_option maxRecDepth 100000 in
set_option maxHeartbeats 4000000 in
theorem dWrite (m : ByteArray) (addr : Nat) (b : ByteArray) (hr : rightP (m.size : Int) addr (b.size : Int) = true) (hm : m.size ≤ 256) (ha : addr ≤ 4294967295) : DCall C0 58 [.v (.string m), .v (.int .u32 ((addr : Nat) : Int)), .v (.string b)] (.tup [.v (.string (writeP m addr b)), .v (.int .i64 0)]) := by
 refine DCall.intro c0Ok Tryd.func58 rfl rfl (by kernel_rfl) rfl ?_
 have hn : b.size ≤ 4 := (right_le hr).2.2
 refine cSeq ?_
 refine cR ?_
 refine rO 6 (.v (.string (⟨#[]⟩))) ?_
 refine rO 7 (vI 0) ?_
 refine rE 2 ?_
 refine cSeq ?_
 refine cSeq ?_
 refine cR ?_
 refine rO 12 (.v (.string m)) ?_
 refine rO 13 (vN m.size) ?_
 refine rO 14 (vU addr) ?_
 refine rO 15 (.v (.string b)) ?_
 refine rO 16 (vN b.size) ?_
 refine rCall (args := [vN m.size, vU addr, vN b.size]) (d := 17) (x := .v (.bool (rightP (m.size : Int) addr (b.size : Int)))) rfl rfl rfl rfl (.inl rfl) rfl (dRight _ _ _ (by omega) (by omega)) ?_
 refine rO 18 (.v (.bool (!(rightP (m.size : Int) addr (b.size : Int))))) ?_
 refine rE 9 ?_
 refine cCond (v := !(rightP (m.size : Int) addr (b.size : Int))) rfl (fun h1 => by rw [hr] at h1; cases h1) (fun _ => ?_)
 refine cSkip ?_
 refine cSeq ?_
 refine cR ?_
 refine rO 19 (vU addr) ?_
 refine rOk (d := 20) (x := vN addr) rfl rfl (okI (wrapI64 ha rfl)) ?_
 refine rO 21 (.v (.string m)) ?_
 refine rFx (d := 22) (x := .osl 12 0 m.size false) (h' := upd _ 12 (some (.arr (rowsOfBytes m) 1))) rfl rfl (rfl) (by show m.size ≤ 1000000; omega) ?_
 refine rO 8 (vN addr) ?_
 refine rO 9 (.osl 12 0 m.size false) ?_
 refine rE 15 ?_
 refine cSeq ?_
 refine cR ?_
 refine rO 23 (.osl 12 0 m.size false) ?_
 refine rO 24 (vN addr) ?_
 refine rO 25 (vN addr) ?_
 refine rNeed (d := 26) (x := .osl 12 0 addr true) rfl rfl rfl (have q := right_le hr; ⟨Int.le_refl _, Int.natCast_nonneg _, rfl, by show (addr : Int) ≤ (m.size : Int); omega⟩) ?_
 refine rO 27 (.osl 12 0 m.size false) ?_
 refine rO 28 (vN addr) ?_
 refine rO 29 (.v (.string b)) ?_
 refine rO 30 (vN b.size) ?_
 have b1 : addr + b.size ≤ 4294967299 := Nat.add_le_add ha hn
 refine rOk (d := 31) (x := vN (addr + b.size)) rfl rfl (okI (wrapI64 b1 rfl)) ?_
 refine rNeed (d := 32) (x := .osl 12 (0 + (addr + b.size)) (((m.size : Int) - ((addr + b.size : Nat) : Int)).toNat) false) rfl rfl rfl (have q := right_le hr; ⟨Int.natCast_nonneg _, by show ((addr + b.size : Nat) : Int) ≤ (m.size : Int); omega, Int.le_refl _⟩) ?_
 refine rO 10 (.osl 12 0 addr true) ?_
 refine rO 11 (.osl 12 (0 + (addr + b.size)) (((m.size : Int) - ((addr + b.size : Nat) : Int)).toNat) false) ?_
 refine rE 27 ?_
 refine cSeq ?_
 refine cR ?_
 refine rO 33 (.osl 12 0 addr true) ?_
 refine rO 34 (.v (.string b)) ?_
 refine rFx (d := 35) (x := .osl 29 0 ((List.take addr (List.drop 0 (rowsOfBytes m))).length + (rowsOfBytes b).length) false) (h' := upd _ 29 (some (.arr ((List.take addr (List.drop 0 (rowsOfBytes m))) ++ rowsOfBytes b) 1))) rfl rfl (rfl) (have q := right_le hr; have q1 := rows_len m; have q2 := rows_len b; ⟨by simp only [List.drop_zero, List.length_take, q1, q2, capMax]; omega, by show 0 < (rowsOfBytes b).length; omega, by show 0 + addr ≤ (rowsOfBytes m).length; omega, trivial⟩) ?_
 refine rO 36 (.osl 12 (0 + (addr + b.size)) (((m.size : Int) - ((addr + b.size : Nat) : Int)).toNat) false) ?_
 refine rFx (d := 37) (x := .osl 31 0 (((((List.take addr (List.drop 0 (rowsOfBytes m))) ++ rowsOfBytes b).drop 0).take ((List.take addr (List.drop 0 (rowsOfBytes m))).length + (rowsOfBytes b).length)).length + (((rowsOfBytes m).drop (0 + (addr + b.size))).take (((m.size : Int) - ((addr + b.size : Nat) : Int)).toNat)).length) false) (h' := upd (upd _ 29 none) 31 (some (.arr (((((List.take addr (List.drop 0 (rowsOfBytes m))) ++ rowsOfBytes b).drop 0).take ((List.take addr (List.drop 0 (rowsOfBytes m))).length + (rowsOfBytes b).length)) ++ (((rowsOfBytes m).drop (0 + (addr + b.size))).take (((m.size : Int) - ((addr + b.size : Nat) : Int)).toNat))) 1))) rfl rfl (rfl) (have q := right_le hr; have q1 := rows_len m; have q2 := rows_len b; ⟨by show List.length ((((List.take addr (List.drop 0 (rowsOfBytes m))) ++ rowsOfBytes b).drop 0).take ((List.take addr (List.drop 0 (rowsOfBytes m))).length + (rowsOfBytes b).length)) + List.length (((rowsOfBytes m).drop (0 + (addr + b.size))).take (((m.size : Int) - ((addr + b.size : Nat) : Int)).toNat)) ≤ capMax; simp only [List.drop_zero, List.length_take, List.length_append, List.length_drop, q1, q2, capMax]; omega, by show 0 + ((List.take addr (List.drop 0 (rowsOfBytes m))).length + (rowsOfBytes b).length) = List.length ((List.take addr (List.drop 0 (rowsOfBytes m))) ++ rowsOfBytes b); rw [List.length_append]; omega, by show 0 + (addr + b.size) + (((m.size : Int) - ((addr + b.size : Nat) : Int)).toNat) ≤ (rowsOfBytes m).length; omega⟩) ?_
 refine rStr (m.data.toList.take addr ++ b.data.toList ++ m.data.toList.drop (addr + b.size)) (d := 38) rfl rfl rfl (by show 0 + (((((List.take addr (List.drop 0 (rowsOfBytes m))) ++ rowsOfBytes b).drop 0).take ((List.take addr (List.drop 0 (rowsOfBytes m))).length + (rowsOfBytes b).length)).length + (((rowsOfBytes m).drop (0 + (addr + b.size))).take (((m.size : Int) - ((addr + b.size : Nat) : Int)).toNat)).length) ≤ List.length (((((List.take addr (List.drop 0 (rowsOfBytes m))) ++ rowsOfBytes b).drop 0).take ((List.take addr (List.drop 0 (rowsOfBytes m))).length + (rowsOfBytes b).length)) ++ (((rowsOfBytes m).drop (0 + (addr + b.size))).take (((m.size : Int) - ((addr + b.size : Nat) : Int)).toNat))); rw [List.length_append]; omega) (by have q := right_le hr; exact write_rows m b addr (by omega) (by omega)) ?_
 refine rO 6 (.v (.string (⟨(m.data.toList.take addr ++ b.data.toList ++ m.data.toList.drop (addr + b.size)).toArray⟩))) ?_
 refine rO 7 (vI 0) ?_
 refine rE 35 ?_
 refine cRet ?_
 exact retA_eq rfl trivial rfl rfl
def upS (n : Nat) : Nat := if n ≤ 16 then 16 else if n ≤ 32 then 32 else if n ≤ 64 then 64 else if n ≤ 128 then 128 else 256
def cleanP (m : ByteArray) : ByteArray := ⟨((m.extract 0 (min m.size 256)).data.toList ++ List.replicate (upS (min m.size 256) - min m.size 256) 0).toArray⟩
theorem cut_size (m : ByteArray) : (m.extract 0 (min m.size 256)).size = min m.size 256 := by rw [ByteArray.size_extract]; omega
theorem cleanP_size (m : ByteArray) : (cleanP m).size = upS (min m.size 256) := by
 have h := cut_size m
 have h1 : (m.extract 0 (min m.size 256)).data.size = min m.size 256 := h
 show (cleanP m).data.size = _
 simp only [cleanP, List.size_toArray, List.length_append, Array.length_toList, List.length_replicate, h1]
 unfold upS
 repeat' (split <;> try omega)
theorem upS_le (n : Nat) : upS n ≤ 256 := by unfold upS; repeat' (split <;> try omega)
theorem upS_is {n j : Nat} (h4 : j ≤ 4) (h1 : n ≤ 16 * 2 ^ j) (h2 : j = 0 ∨ 16 * 2 ^ (j - 1) < n) : 16 * 2 ^ j = upS n := by
 have : j = 0 ∨ j = 1 ∨ j = 2 ∨ j = 3 ∨ j = 4 := by omega
 unfold upS
 rcases this with rfl | rfl | rfl | rfl | rfl <;> simp at h1 h2 ⊢ <;> repeat' (split <;> try omega)
theorem clean_lt {j n : Nat} (h4 : j ≤ 4) (h : 16 * 2 ^ j < min n 256) : j < 4 := by
 have : j = 0 ∨ j = 1 ∨ j = 2 ∨ j = 3 ∨ j = 4 := by omega
 rcases this with rfl | rfl | rfl | rfl | rfl <;> simp at h ⊢ <;> omega
theorem clean_rows (m : ByteArray) (s : Nat) (h : m.size ≤ s) : bytesOfRows (List.take s (List.drop 0 (List.take 0 (List.replicate s [AV.v (.int .u8 0)]) ++ List.take (min (rowsOfBytes m).length s) (rowsOfBytes m) ++ List.drop (0 + min (rowsOfBytes m).length s) (List.replicate s [AV.v (.int .u8 0)])))) = some (m.data.toList ++ List.replicate (s - m.size) 0) := by
 have q := rows_len m
 simp only [List.take_zero, List.nil_append, List.drop_zero, Nat.zero_add, q, Nat.min_eq_left h]
 have e1 : List.take m.size (rowsOfBytes m) = rowsOfBytes m := List.take_of_length_le (by rw [q]; exact Nat.le_refl _)
 rw [e1, List.drop_replicate, List.take_of_length_le (by simp [q]; omega)]
 have : List.replicate (s - m.size) [AV.v (.int .u8 0)] = (List.replicate (s - m.size) (0 : UInt8)).map fun b => [.v (.int .u8 (b.toNat : Int))] := by simp
 rw [this]
 simp only [rowsOfBytes]
 rw [← List.map_append]
 exact bytesOfRows_map _
set_option maxRecDepth 100000 in
set_option maxHeartbeats 4000000 in
theorem dClean (m : ByteArray) : DCall C0 32 [.v (.string m)] (.v (.string (cleanP m))) := by
 refine DCall.intro c0Ok Tryd.func32 rfl rfl (by kernel_rfl) rfl ?_
 refine cSeq ?_
 refine cR ?_
 refine rO 2 (.v (.string (⟨#[]⟩))) ?_
 refine rE 1 ?_
 refine cSeq ?_
 refine cR ?_
 refine rO 5 (.v (.string m)) ?_
 refine rO 6 (.v (.string m)) ?_
 refine rO 7 (vI (m.size : Int)) ?_
 refine rOk (d := 8) (x := .v (.int .i64 ((min m.size 256 : Nat) : Int))) rfl rfl (by show Res.ok (.v (.int .i64 (if (256 : Int) < (m.size : Int) then 256 else (m.size : Int)))) = _; congr 3; split <;> omega) ?_
 refine rNeed (d := 9) (x := .v (.string (m.extract 0 (min m.size 256)))) rfl rfl rfl (by refine ⟨?_, ?_, ?_⟩ <;> simp <;> omega) ?_
 refine rO 0 (.v (.string (m.extract 0 (min m.size 256)))) ?_
 refine rE 7 ?_
 refine cSeq ?_
 refine cR ?_
 refine rO 3 (vI 16) ?_
 refine rE 8 ?_
 refine cSeq ?_
 refine cBlock ?_
 refine cLoop (κ := Nat) (fun j => ⟨slotsF [(0, .v (.string (m.extract 0 (min m.size 256)))), (3, vN (16 * 2 ^ j))], heapF [], 8⟩) (fun j => j ≤ 4 ∧ (j = 0 ∨ 16 * 2 ^ (j - 1) < min m.size 256)) (fun j => 4 - j) 0 (fun s => s) (Weak.of_lists (fun s => s) ⟨⟨rfl, rfl⟩, ⟨rfl, rfl⟩, trivial⟩ trivial rfl) (⟨by decide, .inl rfl⟩) ?_
 intro j hj
 refine cSeq ?_
 refine cSeq ?_
 refine cR ?_
 refine rO 10 (vN (16 * 2 ^ j)) ?_
 refine rO 11 (.v (.string (m.extract 0 (min m.size 256)))) ?_
 refine rOk (d := 12) (x := vN (min m.size 256)) rfl rfl (congrArg (fun n : Nat => Res.ok (vI (n : Int))) (cut_size m)) ?_
 refine rOk (d := 13) (x := .v (.bool (decide ((16 * 2 ^ j) < (min m.size 256))))) rfl rfl (okB (ltN _ _)) ?_
 refine rE 12 ?_
 refine cCond (v := decide ((16 * 2 ^ j) < (min m.size 256))) rfl (fun h1 => ?_) (fun h1 => ?_)
 ·skip
  refine cSkip ?_
  refine cBlock ?_
  refine cR ?_
  refine rO 14 (vN (16 * 2 ^ j)) ?_
  refine rOk (d := 15) (x := .v (.int .i64 ((16 * 2 ^ (j + 1) : Nat) : Int))) rfl rfl (by show Res.ok (.v (.int .i64 (IntKind.wrap .i64 (((16 * 2 ^ j : Nat) : Int) * 2)))) = _; have p5 := Nat.pow_le_pow_right (n := 2) (by decide) hj.1; rw [wrap_i64 (by omega) (by omega)]; congr 3; rw [Nat.pow_succ]; omega) ?_
  refine rO 3 (vN (16 * 2 ^ (j + 1))) ?_
  refine rE 15 ?_
  refine ⟨j + 1, fun s => s, Weak.of_lists (fun s => s) ⟨⟨rfl, rfl⟩, ⟨rfl, rfl⟩, trivial⟩ trivial rfl, ⟨by have := clean_lt hj.1 (of_decide_eq_true h1); omega, .inr (by simpa using of_decide_eq_true h1)⟩, by have := clean_lt hj.1 (of_decide_eq_true h1); show 4 - (j + 1) < 4 - j; omega⟩
 ·skip
  refine cExit ?_
  refine cSeq ?_
  refine cR ?_
  refine rO 16 (vN (16 * 2 ^ j)) ?_
  refine rFx (d := 17) (x := .osl 13 0 (16 * 2 ^ j) false) (h' := upd _ 13 (some (.arr (List.replicate (16 * 2 ^ j) [AV.v (.int .u8 0)]) 1))) rfl rfl (rfl) (by have p5 := Nat.pow_le_pow_right (n := 2) (by decide) hj.1; refine ⟨by omega, by omega, ?_⟩; simp only [capMax]; omega) ?_
  refine rO 4 (.osl 13 0 (16 * 2 ^ j) false) ?_
  refine rE 15 ?_
  refine cSeq ?_
  refine cR ?_
  refine rO 18 (.osl 13 0 (16 * 2 ^ j) false) ?_
  refine rO 19 (.v (.string (m.extract 0 (min m.size 256)))) ?_
  refine rFx (d := 20) (x := vN (min (rowsOfBytes (m.extract 0 (min m.size 256))).length (16 * 2 ^ j))) (h' := upd _ 13 (some (.arr (List.take 0 (List.replicate (16 * 2 ^ j) [AV.v (.int .u8 0)]) ++ List.take (min (rowsOfBytes (m.extract 0 (min m.size 256))).length (16 * 2 ^ j)) (rowsOfBytes (m.extract 0 (min m.size 256))) ++ List.drop (0 + min (rowsOfBytes (m.extract 0 (min m.size 256))).length (16 * 2 ^ j)) (List.replicate (16 * 2 ^ j) [AV.v (.int .u8 0)])) 1))) rfl rfl (rfl) (⟨by simp, trivial⟩) ?_
  refine rE 18 ?_
  refine cSeq ?_
  refine cR ?_
  refine rO 21 (.osl 13 0 (16 * 2 ^ j) false) ?_
  refine rStr ((m.extract 0 (min m.size 256)).data.toList ++ List.replicate (upS (min m.size 256) - min m.size 256) 0) (d := 22) rfl rfl rfl (by show 0 + 16 * 2 ^ j ≤ List.length (List.take 0 (List.replicate (16 * 2 ^ j) [AV.v (.int .u8 0)]) ++ List.take (min (rowsOfBytes (m.extract 0 (min m.size 256))).length (16 * 2 ^ j)) (rowsOfBytes (m.extract 0 (min m.size 256))) ++ List.drop (0 + min (rowsOfBytes (m.extract 0 (min m.size 256))).length (16 * 2 ^ j)) (List.replicate (16 * 2 ^ j) [AV.v (.int .u8 0)])); have q := rows_len (m.extract 0 (min m.size 256)); have q2 := cut_size m; have := of_decide_eq_false h1; simp only [List.length_append, List.length_take, List.length_drop, List.length_replicate, q, q2]; omega) (by have e := clean_rows (m.extract 0 (min m.size 256)) (16 * 2 ^ j) (by have := of_decide_eq_false h1; rw [cut_size]; omega); rw [cut_size, upS_is hj.1 (by have := of_decide_eq_false h1; omega) hj.2] at e; rw [upS_is hj.1 (by have := of_decide_eq_false h1; omega) hj.2]; exact e) ?_
  refine rO 2 (.v (.string (cleanP m))) ?_
  refine rE 21 ?_
  refine cRet ?_
  exact retA_eq rfl trivial rfl rfl
set_option maxRecDepth 100000 in
set_option maxHeartbeats 4000000 in
theorem dNew (p : AV) (m : ByteArray) : DCall C0 16 [p, .v (.string m)] (stA ⟨0, fun _ => 0, cleanP m, 0⟩) := by
 refine DCall.intro c0Ok Tryd.func16 rfl rfl (by kernel_rfl) rfl ?_
 refine cSeq ?_
 refine cR ?_
 refine rFx (d := 4) (x := .ptr 0 0) (h' := upd _ 0 (some (.box (stL 0 (fun _ => 0) (⟨#[]⟩) 0)))) rfl rfl (rfl) (trivial) ?_
 refine rE 1 ?_
 refine cSeq ?_
 refine cR ?_
 refine rO 5 (.v (.string m)) ?_
 refine rCall (args := [.v (.string m)]) (d := 6) (x := .v (.string (cleanP m))) rfl rfl rfl rfl (.inl rfl) rfl (dClean m) ?_
 refine rO 7 (.agg (stL 0 (fun _ => 0) (cleanP m) 0)) ?_
 refine rFx0 (h' := upd _ 0 (some (.box (stL 0 (fun _ => 0) (cleanP m) 0)))) rfl rfl (rfl) (trivial) ?_
 refine rE 5 ?_
 refine cRet ?_
 exact retA_eq rfl ⟨trivial, trivial, trivial, trivial, trivial, trivial, trivial, trivial, trivial, trivial, trivial, trivial, trivial, trivial, trivial, trivial, trivial, trivial, trivial, trivial, trivial, trivial, trivial, trivial, trivial, trivial, trivial, trivial, trivial, trivial, trivial, trivial, trivial, trivial, trivial, trivial⟩ rfl rfl
set_option maxRecDepth 100000 in
set_option maxHeartbeats 4000000 in
theorem dAccess (s : St) (i : SI) (a b : Nat) (hs : s.ok) (hi : i.imm ≤ 4294967295) (ha : a ≤ 4294967295) (hb : b ≤ 4294967295) (hw0 : 0 ≤ wr i) (hw : wr i < 32) : DCall C0 30 [stA s, siA i, .v (.int .u32 (a : Int)), .v (.int .u32 (b : Int))] (two (accessP s i a b)) := by
 refine DCall.intro c0Ok Tryd.func30 rfl rfl (by kernel_rfl) rfl ?_
 refine cSeq ?_
 refine cR ?_
 refine rFx (d := 4) (x := .ptr 0 0) (h' := upd _ 0 (some (.box (stL s.pc s.r s.mem s.halt)))) rfl rfl (rfl) (trivial) ?_
 refine rFx (d := 5) (x := .ptr 1 0) (h' := upd _ 1 (some (.box [vI i.op, vI i.rd, vI i.rs1, vI i.rs2, vU i.imm]))) rfl rfl (rfl) (trivial) ?_
 refine rFx (d := 8) (x := .ptr 2 0) (h' := upd _ 2 (some (.box (stL 0 (fun _ => 0) (⟨#[]⟩) 0)))) rfl rfl (rfl) (trivial) ?_
 refine rFx (d := 9) (x := .ptr 3 0) (h' := upd _ 3 (some (.box [.v (.int .u32 0), .v (.int .u32 0), vI 0, .v (.int .u32 0), .v (.int .u32 0), vI 0, .v (.bool false), vI 0, vI 0]))) rfl rfl (rfl) (trivial) ?_
 refine rE 4 ?_
 refine cSeq ?_
 refine cR ?_
 refine rO 21 (vU a) ?_
 refine rO 22 (.ptr 1 4) ?_
 refine rO 23 (vU i.imm) ?_
 refine rO 24 (vU (addrOf i a)) ?_
 refine rO 25 (.agg [vI i.op, vI i.rd, vI i.rs1, vI i.rs2, vU i.imm]) ?_
 refine rCall (args := [.agg [vI i.op, vI i.rd, vI i.rs1, vI i.rs2, vU i.imm]]) (d := 26) (x := vN (sizeOf' i.op)) rfl rfl rfl rfl (.inl rfl) rfl (dSize i) ?_
 refine rO 10 (vU (addrOf i a)) ?_
 refine rO 11 (vN (sizeOf' i.op)) ?_
 refine rE 12 ?_
 refine cSeq ?_
 refine cR ?_
 refine rO 27 (.agg [vI i.op, vI i.rd, vI i.rs1, vI i.rs2, vU i.imm]) ?_
 refine rCall (args := [.agg [vI i.op, vI i.rd, vI i.rs1, vI i.rs2, vU i.imm]]) (d := 28) (x := vN (kindOf i.op)) rfl rfl rfl rfl (.inl rfl) rfl (dKind i) ?_
 refine rOk (d := 29) (x := .v (.bool ((kindOf i.op) == 4))) rfl rfl (okB (eqN _ _)) ?_
 refine rO 12 (.v (.bool ((kindOf i.op) == 4))) ?_
 refine rE 16 ?_
 refine cSeq ?_
 refine cSeq ?_
 refine cR ?_
 refine rO 30 (.ptr 0 33) ?_
 refine rO 31 (.v (.string s.mem)) ?_
 refine rO 32 (vI (s.mem.size : Int)) ?_
 refine rO 33 (vU (addrOf i a)) ?_
 refine rO 34 (vN (sizeOf' i.op)) ?_
 refine rCall (args := [vI (s.mem.size : Int), vU (addrOf i a), vN (sizeOf' i.op)]) (d := 35) (x := .v (.bool (rightP (s.mem.size : Int) (addrOf i a) ((sizeOf' i.op : Nat) : Int)))) rfl rfl rfl rfl (.inl rfl) rfl (dRight _ _ _ (by have := hs.mem; omega) (Nat.lt_succ_of_le (addr_le i a))) ?_
 refine rO 36 (.v (.bool (!(rightP (s.mem.size : Int) (addrOf i a) ((sizeOf' i.op : Nat) : Int))))) ?_
 refine rE 23 ?_
 refine cCond (v := !(rightP (s.mem.size : Int) (addrOf i a) ((sizeOf' i.op : Nat) : Int))) rfl (fun h1 => ?_) (fun h1 => ?_)
 ·skip
  refine cSeq ?_
  refine cR ?_
  refine rO 13 (vI 4) ?_
  refine rE 24 ?_
  refine cSeq ?_
  refine cSeq ?_
  refine cR ?_
  refine rO 37 (.v (.bool ((kindOf i.op) == 4))) ?_
  refine rE 25 ?_
  refine cCond (v := (kindOf i.op) == 4) rfl (fun h2 => ?_) (fun h2 => ?_)
  ·skip
   refine cR ?_
   refine rO 13 (vI 5) ?_
   refine rE 26 ?_
   refine cSeq ?_
   refine cR ?_
   refine rO 39 (.agg (stL s.pc s.r s.mem s.halt)) ?_
   refine rO 40 (vI 5) ?_
   refine rCall (args := [.agg (stL s.pc s.r s.mem s.halt), vI 5]) (d := 41) (x := .tup [.agg (stL s.pc s.r s.mem 5), .agg [vU s.pc, vU s.pc, vI 0, .v (.int .u32 0), .v (.int .u32 0), vI 0, .v (.bool false), vI 5, vI 0]]) rfl rfl rfl rfl (.inl rfl) rfl (dHalt s (5) hs) ?_
   refine rO 38 (.tup [.agg (stL s.pc s.r s.mem 5), .agg [vU s.pc, vU s.pc, vI 0, .v (.int .u32 0), .v (.int .u32 0), vI 0, .v (.bool false), vI 5, vI 0]]) ?_
   refine rO 42 (.agg (stL s.pc s.r s.mem 5)) ?_
   refine rO 43 (.agg [vU s.pc, vU s.pc, vI 0, .v (.int .u32 0), .v (.int .u32 0), vI 0, .v (.bool false), vI 5, vI 0]) ?_
   refine rFx (d := 14) (x := .ptr 32 0) (h' := upd _ 32 (some (.box (stL 0 (fun _ => 0) (⟨#[]⟩) 0)))) rfl rfl (rfl) (trivial) ?_
   refine rFx (d := 15) (x := .ptr 33 0) (h' := upd _ 33 (some (.box [.v (.int .u32 0), .v (.int .u32 0), vI 0, .v (.int .u32 0), .v (.int .u32 0), vI 0, .v (.bool false), vI 0, vI 0]))) rfl rfl (rfl) (trivial) ?_
   refine rFx0 (h' := upd _ 32 (some (.box (stL s.pc s.r s.mem 5)))) rfl rfl (rfl) (trivial) ?_
   refine rFx0 (h' := upd _ 33 (some (.box [vU s.pc, vU s.pc, vI 0, .v (.int .u32 0), .v (.int .u32 0), vI 0, .v (.bool false), vI 5, vI 0]))) rfl rfl (rfl) (trivial) ?_
   refine rE 36 ?_
   refine cSeq ?_
   refine cR ?_
   refine rO 44 (vU (addrOf i a)) ?_
   refine rO 45 (.ptr 33 4) ?_
   refine rFx0 (h' := upd _ 33 (some (.box [vU s.pc, vU s.pc, vI 0, .v (.int .u32 0), vU (addrOf i a), vI 0, .v (.bool false), vI 5, vI 0]))) rfl rfl (rfl) (trivial) ?_
   refine rE 39 ?_
   refine cSeq ?_
   refine cAny rfl ?_
   refine aGo [0, 1] (by kernel_rfl) rfl ⟨?_, ?_, trivial⟩
   ·skip
    refine sOk (d := 46) (x := .agg (stL s.pc s.r s.mem 5)) rfl rfl rfl rfl ?_
    refine aGo [1, 2] (by kernel_rfl) rfl ⟨?_, ?_, trivial⟩
    ·skip
     refine sOk (d := 47) (x := .agg [vU s.pc, vU s.pc, vI 0, .v (.int .u32 0), vU (addrOf i a), vI 0, .v (.bool false), vI 5, vI 0]) rfl rfl rfl rfl ?_
     refine aGo [2] (by kernel_rfl) rfl ⟨?_, trivial⟩
     refine sFx0 (h' := upd _ 2 (some (.box (stL s.pc s.r s.mem 5)))) rfl rfl rfl (rfl) (trivial) ?_
     refine aGo [3] (by kernel_rfl) rfl ⟨?_, trivial⟩
     refine sFx0 (h' := upd _ 3 (some (.box [vU s.pc, vU s.pc, vI 0, .v (.int .u32 0), vU (addrOf i a), vI 0, .v (.bool false), vI 5, vI 0]))) rfl rfl rfl (rfl) (trivial) ?_
     refine aEnd (n' := 43) (by kernel_rfl) rfl ?_
     refine cRet ?_
     exact finTA rfl trivial rfl (by unfold accessP; rw [if_neg (by simpa using h1), if_pos (by simpa using h2)]; rfl)
    ·skip
     refine sFx0 (h' := upd _ 2 (some (.box (stL s.pc s.r s.mem 5)))) rfl rfl rfl (rfl) (trivial) ?_
     refine aGo [1] (by kernel_rfl) rfl ⟨?_, trivial⟩
     refine sOk (d := 47) (x := .agg [vU s.pc, vU s.pc, vI 0, .v (.int .u32 0), vU (addrOf i a), vI 0, .v (.bool false), vI 5, vI 0]) rfl rfl rfl rfl ?_
     refine aGo [3] (by kernel_rfl) rfl ⟨?_, trivial⟩
     refine sFx0 (h' := upd _ 3 (some (.box [vU s.pc, vU s.pc, vI 0, .v (.int .u32 0), vU (addrOf i a), vI 0, .v (.bool false), vI 5, vI 0]))) rfl rfl rfl (rfl) (trivial) ?_
     refine aEnd (n' := 43) (by kernel_rfl) rfl ?_
     refine cRet ?_
     exact finTA rfl trivial rfl (by unfold accessP; rw [if_neg (by simpa using h1), if_pos (by simpa using h2)]; rfl)
   ·skip
    refine sOk (d := 47) (x := .agg [vU s.pc, vU s.pc, vI 0, .v (.int .u32 0), vU (addrOf i a), vI 0, .v (.bool false), vI 5, vI 0]) rfl rfl rfl rfl ?_
    refine aGo [0] (by kernel_rfl) rfl ⟨?_, trivial⟩
    refine sOk (d := 46) (x := .agg (stL s.pc s.r s.mem 5)) rfl rfl rfl rfl ?_
    refine aGo [2] (by kernel_rfl) rfl ⟨?_, trivial⟩
    refine sFx0 (h' := upd _ 2 (some (.box (stL s.pc s.r s.mem 5)))) rfl rfl rfl (rfl) (trivial) ?_
    refine aGo [3] (by kernel_rfl) rfl ⟨?_, trivial⟩
    refine sFx0 (h' := upd _ 3 (some (.box [vU s.pc, vU s.pc, vI 0, .v (.int .u32 0), vU (addrOf i a), vI 0, .v (.bool false), vI 5, vI 0]))) rfl rfl rfl (rfl) (trivial) ?_
    refine aEnd (n' := 43) (by kernel_rfl) rfl ?_
    refine cRet ?_
    exact finTA rfl trivial rfl (by unfold accessP; rw [if_neg (by simpa using h1), if_pos (by simpa using h2)]; rfl)
  ·skip
   refine cSkip ?_
   refine cSeq ?_
   refine cR ?_
   refine rO 39 (.agg (stL s.pc s.r s.mem s.halt)) ?_
   refine rO 40 (vI 4) ?_
   refine rCall (args := [.agg (stL s.pc s.r s.mem s.halt), vI 4]) (d := 41) (x := .tup [.agg (stL s.pc s.r s.mem 4), .agg [vU s.pc, vU s.pc, vI 0, .v (.int .u32 0), .v (.int .u32 0), vI 0, .v (.bool false), vI 4, vI 0]]) rfl rfl rfl rfl (.inl rfl) rfl (dHalt s (4) hs) ?_
   refine rO 38 (.tup [.agg (stL s.pc s.r s.mem 4), .agg [vU s.pc, vU s.pc, vI 0, .v (.int .u32 0), .v (.int .u32 0), vI 0, .v (.bool false), vI 4, vI 0]]) ?_
   refine rO 42 (.agg (stL s.pc s.r s.mem 4)) ?_
   refine rO 43 (.agg [vU s.pc, vU s.pc, vI 0, .v (.int .u32 0), .v (.int .u32 0), vI 0, .v (.bool false), vI 4, vI 0]) ?_
   refine rFx (d := 14) (x := .ptr 31 0) (h' := upd _ 31 (some (.box (stL 0 (fun _ => 0) (⟨#[]⟩) 0)))) rfl rfl (rfl) (trivial) ?_
   refine rFx (d := 15) (x := .ptr 32 0) (h' := upd _ 32 (some (.box [.v (.int .u32 0), .v (.int .u32 0), vI 0, .v (.int .u32 0), .v (.int .u32 0), vI 0, .v (.bool false), vI 0, vI 0]))) rfl rfl (rfl) (trivial) ?_
   refine rFx0 (h' := upd _ 31 (some (.box (stL s.pc s.r s.mem 4)))) rfl rfl (rfl) (trivial) ?_
   refine rFx0 (h' := upd _ 32 (some (.box [vU s.pc, vU s.pc, vI 0, .v (.int .u32 0), .v (.int .u32 0), vI 0, .v (.bool false), vI 4, vI 0]))) rfl rfl (rfl) (trivial) ?_
   refine rE 35 ?_
   refine cSeq ?_
   refine cR ?_
   refine rO 44 (vU (addrOf i a)) ?_
   refine rO 45 (.ptr 32 4) ?_
   refine rFx0 (h' := upd _ 32 (some (.box [vU s.pc, vU s.pc, vI 0, .v (.int .u32 0), vU (addrOf i a), vI 0, .v (.bool false), vI 4, vI 0]))) rfl rfl (rfl) (trivial) ?_
   refine rE 38 ?_
   refine cSeq ?_
   refine cAny rfl ?_
   refine aGo [0, 1] (by kernel_rfl) rfl ⟨?_, ?_, trivial⟩
   ·skip
    refine sOk (d := 46) (x := .agg (stL s.pc s.r s.mem 4)) rfl rfl rfl rfl ?_
    refine aGo [1, 2] (by kernel_rfl) rfl ⟨?_, ?_, trivial⟩
    ·skip
     refine sOk (d := 47) (x := .agg [vU s.pc, vU s.pc, vI 0, .v (.int .u32 0), vU (addrOf i a), vI 0, .v (.bool false), vI 4, vI 0]) rfl rfl rfl rfl ?_
     refine aGo [2] (by kernel_rfl) rfl ⟨?_, trivial⟩
     refine sFx0 (h' := upd _ 2 (some (.box (stL s.pc s.r s.mem 4)))) rfl rfl rfl (rfl) (trivial) ?_
     refine aGo [3] (by kernel_rfl) rfl ⟨?_, trivial⟩
     refine sFx0 (h' := upd _ 3 (some (.box [vU s.pc, vU s.pc, vI 0, .v (.int .u32 0), vU (addrOf i a), vI 0, .v (.bool false), vI 4, vI 0]))) rfl rfl rfl (rfl) (trivial) ?_
     refine aEnd (n' := 42) (by kernel_rfl) rfl ?_
     refine cRet ?_
     exact finTA rfl trivial rfl (by unfold accessP; rw [if_neg (by simpa using h1), if_neg (by simpa using h2)]; rfl)
    ·skip
     refine sFx0 (h' := upd _ 2 (some (.box (stL s.pc s.r s.mem 4)))) rfl rfl rfl (rfl) (trivial) ?_
     refine aGo [1] (by kernel_rfl) rfl ⟨?_, trivial⟩
     refine sOk (d := 47) (x := .agg [vU s.pc, vU s.pc, vI 0, .v (.int .u32 0), vU (addrOf i a), vI 0, .v (.bool false), vI 4, vI 0]) rfl rfl rfl rfl ?_
     refine aGo [3] (by kernel_rfl) rfl ⟨?_, trivial⟩
     refine sFx0 (h' := upd _ 3 (some (.box [vU s.pc, vU s.pc, vI 0, .v (.int .u32 0), vU (addrOf i a), vI 0, .v (.bool false), vI 4, vI 0]))) rfl rfl rfl (rfl) (trivial) ?_
     refine aEnd (n' := 42) (by kernel_rfl) rfl ?_
     refine cRet ?_
     exact finTA rfl trivial rfl (by unfold accessP; rw [if_neg (by simpa using h1), if_neg (by simpa using h2)]; rfl)
   ·skip
    refine sOk (d := 47) (x := .agg [vU s.pc, vU s.pc, vI 0, .v (.int .u32 0), vU (addrOf i a), vI 0, .v (.bool false), vI 4, vI 0]) rfl rfl rfl rfl ?_
    refine aGo [0] (by kernel_rfl) rfl ⟨?_, trivial⟩
    refine sOk (d := 46) (x := .agg (stL s.pc s.r s.mem 4)) rfl rfl rfl rfl ?_
    refine aGo [2] (by kernel_rfl) rfl ⟨?_, trivial⟩
    refine sFx0 (h' := upd _ 2 (some (.box (stL s.pc s.r s.mem 4)))) rfl rfl rfl (rfl) (trivial) ?_
    refine aGo [3] (by kernel_rfl) rfl ⟨?_, trivial⟩
    refine sFx0 (h' := upd _ 3 (some (.box [vU s.pc, vU s.pc, vI 0, .v (.int .u32 0), vU (addrOf i a), vI 0, .v (.bool false), vI 4, vI 0]))) rfl rfl rfl (rfl) (trivial) ?_
    refine aEnd (n' := 42) (by kernel_rfl) rfl ?_
    refine cRet ?_
    exact finTA rfl trivial rfl (by unfold accessP; rw [if_neg (by simpa using h1), if_neg (by simpa using h2)]; rfl)
 ·skip
  refine cSkip ?_
  refine cSeq ?_
  refine cR ?_
  refine rO 48 (.ptr 0 0) ?_
  refine rO 49 (vU s.pc) ?_
  refine rO 50 (.ptr 0 0) ?_
  refine rO 51 (vU s.pc) ?_
  refine rO 52 (vU (up4 s.pc)) ?_
  refine rO 53 (.agg [vI i.op, vI i.rd, vI i.rs1, vI i.rs2, vU i.imm]) ?_
  refine rCall (args := [.agg [vI i.op, vI i.rd, vI i.rs1, vI i.rs2, vU i.imm]]) (d := 54) (x := vI (wr i)) rfl rfl rfl rfl (.inl rfl) rfl (dWrites i) ?_
  refine rO 55 (vU (addrOf i a)) ?_
  refine rO 56 (vN (sizeOf' i.op)) ?_
  refine rO 57 (.v (.bool ((kindOf i.op) == 4))) ?_
  refine rO 58 (.agg [vU s.pc, vU (up4 s.pc), vI (wr i), .v (.int .u32 0), vU (addrOf i a), vN (sizeOf' i.op), .v (.bool ((kindOf i.op) == 4)), vI 0, vI 0]) ?_
  refine rFx (d := 16) (x := .ptr 34 0) (h' := upd _ 34 (some (.box [.v (.int .u32 0), .v (.int .u32 0), vI 0, .v (.int .u32 0), .v (.int .u32 0), vI 0, .v (.bool false), vI 0, vI 0]))) rfl rfl (rfl) (trivial) ?_
  refine rFx0 (h' := upd _ 34 (some (.box [vU s.pc, vU (up4 s.pc), vI (wr i), .v (.int .u32 0), vU (addrOf i a), vN (sizeOf' i.op), .v (.bool ((kindOf i.op) == 4)), vI 0, vI 0]))) rfl rfl (rfl) (trivial) ?_
  refine rE 36 ?_
  refine cSeq ?_
  refine cSeq ?_
  refine cR ?_
  refine rO 59 (.v (.bool ((kindOf i.op) == 4))) ?_
  refine rE 37 ?_
  refine cCond (v := (kindOf i.op) == 4) rfl (fun h3 => ?_) (fun h3 => ?_)
  ·skip
   refine cSeq ?_
   refine cR ?_
   refine rO 61 (vU b) ?_
   refine rO 62 (vN (sizeOf' i.op)) ?_
   refine rCall (args := [vU b, vN (sizeOf' i.op)]) (d := 63) (x := .tup [.v (.string (bytesP b (sizeOf' i.op))), vI 0]) rfl rfl rfl rfl (.inl rfl) rfl (dBytes b (sizeOf' i.op) (Nat.lt_succ_of_le hb) (size_le4 i.op)) ?_
   refine rO 60 (.tup [.v (.string (bytesP b (sizeOf' i.op))), vI 0]) ?_
   refine rO 64 (.v (.string (bytesP b (sizeOf' i.op)))) ?_
   refine rO 65 (vI 0) ?_
   refine rO 17 (.v (.string (bytesP b (sizeOf' i.op)))) ?_
   refine rO 18 (vI 0) ?_
   refine rE 45 ?_
   refine cSeq ?_
   refine cR ?_
   refine rO 67 (.v (.string (bytesP b (sizeOf' i.op)))) ?_
   refine rCall (args := [.v (.string (bytesP b (sizeOf' i.op)))]) (d := 68) (x := .tup [vU (valB b (sizeOf' i.op)), vI 0]) rfl rfl rfl rfl (.inl rfl) rfl (dJoin _ (by rw [bytesP_size]; exact size_le4 i.op)) ?_
   refine rO 66 (.tup [vU (valB b (sizeOf' i.op)), vI 0]) ?_
   refine rO 69 (vU (valB b (sizeOf' i.op))) ?_
   refine rO 70 (vI 0) ?_
   refine rO 71 (.ptr 34 3) ?_
   refine rFx0 (h' := upd _ 34 (some (.box [vU s.pc, vU (up4 s.pc), vI (wr i), vU (valB b (sizeOf' i.op)), vU (addrOf i a), vN (sizeOf' i.op), .v (.bool ((kindOf i.op) == 4)), vI 0, vI 0]))) rfl rfl (rfl) (trivial) ?_
   refine rE 52 ?_
   refine cR ?_
   refine rO 73 (.ptr 0 33) ?_
   refine rO 74 (.v (.string s.mem)) ?_
   refine rO 75 (vU (addrOf i a)) ?_
   refine rO 76 (.v (.string (bytesP b (sizeOf' i.op)))) ?_
   refine rCall (args := [.v (.string s.mem), vU (addrOf i a), .v (.string (bytesP b (sizeOf' i.op)))]) (d := 77) (x := .tup [.v (.string (writeP s.mem (addrOf i a) (bytesP b (sizeOf' i.op)))), vI 0]) rfl rfl rfl rfl (.inl rfl) rfl (dWrite _ _ _ (by rw [bytesP_size]; simpa using h1) hs.mem (addr_le i a)) ?_
   refine rO 72 (.tup [.v (.string (writeP s.mem (addrOf i a) (bytesP b (sizeOf' i.op)))), vI 0]) ?_
   refine rO 78 (.v (.string (writeP s.mem (addrOf i a) (bytesP b (sizeOf' i.op))))) ?_
   refine rO 79 (vI 0) ?_
   refine rO 80 (.ptr 0 33) ?_
   refine rFx0 (h' := upd _ 0 (some (.box (stL s.pc s.r (writeP s.mem (addrOf i a) (bytesP b (sizeOf' i.op))) s.halt)))) rfl rfl (rfl) (trivial) ?_
   refine rE 62 ?_
   refine cSeq ?_
   refine cR ?_
   refine rO 103 (.ptr 34 1) ?_
   refine rO 104 (vU (up4 s.pc)) ?_
   refine rO 105 (.ptr 0 0) ?_
   refine rFx0 (h' := upd _ 0 (some (.box (stL (up4 s.pc) s.r (writeP s.mem (addrOf i a) (bytesP b (sizeOf' i.op))) s.halt)))) rfl rfl (rfl) (trivial) ?_
   refine rE 66 ?_
   refine cSeq ?_
   refine cAny rfl ?_
   refine aGo [0, 1] (by kernel_rfl) rfl ⟨?_, ?_, trivial⟩
   ·skip
    refine sOk (d := 106) (x := .agg (stL (up4 s.pc) s.r (writeP s.mem (addrOf i a) (bytesP b (sizeOf' i.op))) s.halt)) rfl rfl rfl rfl ?_
    refine aGo [1, 2] (by kernel_rfl) rfl ⟨?_, ?_, trivial⟩
    ·skip
     refine sOk (d := 107) (x := .agg [vU s.pc, vU (up4 s.pc), vI (wr i), vU (valB b (sizeOf' i.op)), vU (addrOf i a), vN (sizeOf' i.op), .v (.bool ((kindOf i.op) == 4)), vI 0, vI 0]) rfl rfl rfl rfl ?_
     refine aGo [2] (by kernel_rfl) rfl ⟨?_, trivial⟩
     refine sFx0 (h' := upd _ 2 (some (.box (stL (up4 s.pc) s.r (writeP s.mem (addrOf i a) (bytesP b (sizeOf' i.op))) s.halt)))) rfl rfl rfl (rfl) (trivial) ?_
     refine aGo [3] (by kernel_rfl) rfl ⟨?_, trivial⟩
     refine sFx0 (h' := upd _ 3 (some (.box [vU s.pc, vU (up4 s.pc), vI (wr i), vU (valB b (sizeOf' i.op)), vU (addrOf i a), vN (sizeOf' i.op), .v (.bool ((kindOf i.op) == 4)), vI 0, vI 0]))) rfl rfl rfl (rfl) (trivial) ?_
     refine aEnd (n' := 70) (by kernel_rfl) rfl ?_
     refine cRet ?_
     exact finTA rfl trivial rfl (by unfold accessP; rw [if_pos (by simpa using h1), if_pos (by simpa using h3)]; rfl)
    ·skip
     refine sFx0 (h' := upd _ 2 (some (.box (stL (up4 s.pc) s.r (writeP s.mem (addrOf i a) (bytesP b (sizeOf' i.op))) s.halt)))) rfl rfl rfl (rfl) (trivial) ?_
     refine aGo [1] (by kernel_rfl) rfl ⟨?_, trivial⟩
     refine sOk (d := 107) (x := .agg [vU s.pc, vU (up4 s.pc), vI (wr i), vU (valB b (sizeOf' i.op)), vU (addrOf i a), vN (sizeOf' i.op), .v (.bool ((kindOf i.op) == 4)), vI 0, vI 0]) rfl rfl rfl rfl ?_
     refine aGo [3] (by kernel_rfl) rfl ⟨?_, trivial⟩
     refine sFx0 (h' := upd _ 3 (some (.box [vU s.pc, vU (up4 s.pc), vI (wr i), vU (valB b (sizeOf' i.op)), vU (addrOf i a), vN (sizeOf' i.op), .v (.bool ((kindOf i.op) == 4)), vI 0, vI 0]))) rfl rfl rfl (rfl) (trivial) ?_
     refine aEnd (n' := 70) (by kernel_rfl) rfl ?_
     refine cRet ?_
     exact finTA rfl trivial rfl (by unfold accessP; rw [if_pos (by simpa using h1), if_pos (by simpa using h3)]; rfl)
   ·skip
    refine sOk (d := 107) (x := .agg [vU s.pc, vU (up4 s.pc), vI (wr i), vU (valB b (sizeOf' i.op)), vU (addrOf i a), vN (sizeOf' i.op), .v (.bool ((kindOf i.op) == 4)), vI 0, vI 0]) rfl rfl rfl rfl ?_
    refine aGo [0] (by kernel_rfl) rfl ⟨?_, trivial⟩
    refine sOk (d := 106) (x := .agg (stL (up4 s.pc) s.r (writeP s.mem (addrOf i a) (bytesP b (sizeOf' i.op))) s.halt)) rfl rfl rfl rfl ?_
    refine aGo [2] (by kernel_rfl) rfl ⟨?_, trivial⟩
    refine sFx0 (h' := upd _ 2 (some (.box (stL (up4 s.pc) s.r (writeP s.mem (addrOf i a) (bytesP b (sizeOf' i.op))) s.halt)))) rfl rfl rfl (rfl) (trivial) ?_
    refine aGo [3] (by kernel_rfl) rfl ⟨?_, trivial⟩
    refine sFx0 (h' := upd _ 3 (some (.box [vU s.pc, vU (up4 s.pc), vI (wr i), vU (valB b (sizeOf' i.op)), vU (addrOf i a), vN (sizeOf' i.op), .v (.bool ((kindOf i.op) == 4)), vI 0, vI 0]))) rfl rfl rfl (rfl) (trivial) ?_
    refine aEnd (n' := 70) (by kernel_rfl) rfl ?_
    refine cRet ?_
    exact finTA rfl trivial rfl (by unfold accessP; rw [if_pos (by simpa using h1), if_pos (by simpa using h3)]; rfl)
  ·skip
   refine cSeq ?_
   refine cR ?_
   refine rO 81 (.ptr 34 2) ?_
   refine rO 82 (vI (wr i)) ?_
   refine rO 83 (.v (.bool ((wr i) != 0))) ?_
   refine rE 40 ?_
   refine cCond (v := (wr i) != 0) rfl (fun h4 => ?_) (fun h4 => ?_)
   ·skip
    refine cSeq ?_
    refine cR ?_
    refine rO 85 (.ptr 0 33) ?_
    refine rO 86 (.v (.string s.mem)) ?_
    refine rO 87 (vU (addrOf i a)) ?_
    refine rO 88 (vN (sizeOf' i.op)) ?_
    refine rCall (args := [.v (.string s.mem), vU (addrOf i a), vN (sizeOf' i.op)]) (d := 89) (x := .tup [.v (.string (readP s.mem (addrOf i a) (sizeOf' i.op))), vI 0]) rfl rfl rfl rfl (.inl rfl) rfl (dRead _ _ _ (by simpa using h1) hs.mem (addr_le i a)) ?_
    refine rO 84 (.tup [.v (.string (readP s.mem (addrOf i a) (sizeOf' i.op))), vI 0]) ?_
    refine rO 90 (.v (.string (readP s.mem (addrOf i a) (sizeOf' i.op)))) ?_
    refine rO 91 (vI 0) ?_
    refine rO 19 (.v (.string (readP s.mem (addrOf i a) (sizeOf' i.op)))) ?_
    refine rO 20 (vI 0) ?_
    refine rE 50 ?_
    refine cSeq ?_
    refine cR ?_
    refine rO 92 (.ptr 1 0) ?_
    refine rO 93 (vI i.op) ?_
    refine rO 94 (.v (.string (readP s.mem (addrOf i a) (sizeOf' i.op)))) ?_
    refine rCall (args := [vI i.op, .v (.string (readP s.mem (addrOf i a) (sizeOf' i.op)))]) (d := 95) (x := vU (loadP i.op (readP s.mem (addrOf i a) (sizeOf' i.op)))) rfl rfl rfl rfl (.inl rfl) rfl (dLoad _ _ (readP_lt hs.mem _ _)) ?_
    refine rO 96 (.ptr 34 3) ?_
    refine rFx0 (h' := upd _ 34 (some (.box [vU s.pc, vU (up4 s.pc), vI (wr i), vU (loadP i.op (readP s.mem (addrOf i a) (sizeOf' i.op))), vU (addrOf i a), vN (sizeOf' i.op), .v (.bool ((kindOf i.op) == 4)), vI 0, vI 0]))) rfl rfl (rfl) (trivial) ?_
    refine rE 56 ?_
    refine cR ?_
    refine rO 97 (.ptr 34 2) ?_
    refine rO 98 (vI (wr i)) ?_
    refine rO 99 (.ptr 34 3) ?_
    refine rO 100 (vU (loadP i.op (readP s.mem (addrOf i a) (sizeOf' i.op)))) ?_
    refine rO 101 (.ptr 0 1) ?_
    refine rNeed (d := 102) (x := .ptr 0 (1 + (wr i).toNat * 1)) rfl rfl rfl (by omega) ?_
    refine rFx0 (h' := upd _ 0 (some (.box (stL s.pc (setR s.r ((wr i).toNat) (loadP i.op (readP s.mem (addrOf i a) (sizeOf' i.op)))) s.mem s.halt)))) rfl rfl (stR (n := (wr i).toNat) (v := loadP i.op (readP s.mem (addrOf i a) (sizeOf' i.op))) (r := s.r) rfl rfl rfl (by omega)) (trivial) ?_
    refine rE 63 ?_
    refine cSeq ?_
    refine cR ?_
    refine rO 103 (.ptr 34 1) ?_
    refine rO 104 (vU (up4 s.pc)) ?_
    refine rO 105 (.ptr 0 0) ?_
    refine rFx0 (h' := upd _ 0 (some (.box (stL (up4 s.pc) (setR s.r ((wr i).toNat) (loadP i.op (readP s.mem (addrOf i a) (sizeOf' i.op)))) s.mem s.halt)))) rfl rfl (rfl) (trivial) ?_
    refine rE 67 ?_
    refine cSeq ?_
    refine cAny rfl ?_
    refine aGo [0, 1] (by kernel_rfl) rfl ⟨?_, ?_, trivial⟩
    ·skip
     refine sOk (d := 106) (x := .agg (stL (up4 s.pc) (setR s.r ((wr i).toNat) (loadP i.op (readP s.mem (addrOf i a) (sizeOf' i.op)))) s.mem s.halt)) rfl rfl rfl rfl ?_
     refine aGo [1, 2] (by kernel_rfl) rfl ⟨?_, ?_, trivial⟩
     ·skip
      refine sOk (d := 107) (x := .agg [vU s.pc, vU (up4 s.pc), vI (wr i), vU (loadP i.op (readP s.mem (addrOf i a) (sizeOf' i.op))), vU (addrOf i a), vN (sizeOf' i.op), .v (.bool ((kindOf i.op) == 4)), vI 0, vI 0]) rfl rfl rfl rfl ?_
      refine aGo [2] (by kernel_rfl) rfl ⟨?_, trivial⟩
      refine sFx0 (h' := upd _ 2 (some (.box (stL (up4 s.pc) (setR s.r ((wr i).toNat) (loadP i.op (readP s.mem (addrOf i a) (sizeOf' i.op)))) s.mem s.halt)))) rfl rfl rfl (rfl) (trivial) ?_
      refine aGo [3] (by kernel_rfl) rfl ⟨?_, trivial⟩
      refine sFx0 (h' := upd _ 3 (some (.box [vU s.pc, vU (up4 s.pc), vI (wr i), vU (loadP i.op (readP s.mem (addrOf i a) (sizeOf' i.op))), vU (addrOf i a), vN (sizeOf' i.op), .v (.bool ((kindOf i.op) == 4)), vI 0, vI 0]))) rfl rfl rfl (rfl) (trivial) ?_
      refine aEnd (n' := 71) (by kernel_rfl) rfl ?_
      refine cRet ?_
      exact finTA rfl trivial rfl (by unfold accessP; rw [if_pos (by simpa using h1), if_neg (by simpa using h3), if_neg (by simpa using h4)]; rfl)
     ·skip
      refine sFx0 (h' := upd _ 2 (some (.box (stL (up4 s.pc) (setR s.r ((wr i).toNat) (loadP i.op (readP s.mem (addrOf i a) (sizeOf' i.op)))) s.mem s.halt)))) rfl rfl rfl (rfl) (trivial) ?_
      refine aGo [1] (by kernel_rfl) rfl ⟨?_, trivial⟩
      refine sOk (d := 107) (x := .agg [vU s.pc, vU (up4 s.pc), vI (wr i), vU (loadP i.op (readP s.mem (addrOf i a) (sizeOf' i.op))), vU (addrOf i a), vN (sizeOf' i.op), .v (.bool ((kindOf i.op) == 4)), vI 0, vI 0]) rfl rfl rfl rfl ?_
      refine aGo [3] (by kernel_rfl) rfl ⟨?_, trivial⟩
      refine sFx0 (h' := upd _ 3 (some (.box [vU s.pc, vU (up4 s.pc), vI (wr i), vU (loadP i.op (readP s.mem (addrOf i a) (sizeOf' i.op))), vU (addrOf i a), vN (sizeOf' i.op), .v (.bool ((kindOf i.op) == 4)), vI 0, vI 0]))) rfl rfl rfl (rfl) (trivial) ?_
      refine aEnd (n' := 71) (by kernel_rfl) rfl ?_
      refine cRet ?_
      exact finTA rfl trivial rfl (by unfold accessP; rw [if_pos (by simpa using h1), if_neg (by simpa using h3), if_neg (by simpa using h4)]; rfl)
    ·skip
     refine sOk (d := 107) (x := .agg [vU s.pc, vU (up4 s.pc), vI (wr i), vU (loadP i.op (readP s.mem (addrOf i a) (sizeOf' i.op))), vU (addrOf i a), vN (sizeOf' i.op), .v (.bool ((kindOf i.op) == 4)), vI 0, vI 0]) rfl rfl rfl rfl ?_
     refine aGo [0] (by kernel_rfl) rfl ⟨?_, trivial⟩
     refine sOk (d := 106) (x := .agg (stL (up4 s.pc) (setR s.r ((wr i).toNat) (loadP i.op (readP s.mem (addrOf i a) (sizeOf' i.op)))) s.mem s.halt)) rfl rfl rfl rfl ?_
     refine aGo [2] (by kernel_rfl) rfl ⟨?_, trivial⟩
     refine sFx0 (h' := upd _ 2 (some (.box (stL (up4 s.pc) (setR s.r ((wr i).toNat) (loadP i.op (readP s.mem (addrOf i a) (sizeOf' i.op)))) s.mem s.halt)))) rfl rfl rfl (rfl) (trivial) ?_
     refine aGo [3] (by kernel_rfl) rfl ⟨?_, trivial⟩
     refine sFx0 (h' := upd _ 3 (some (.box [vU s.pc, vU (up4 s.pc), vI (wr i), vU (loadP i.op (readP s.mem (addrOf i a) (sizeOf' i.op))), vU (addrOf i a), vN (sizeOf' i.op), .v (.bool ((kindOf i.op) == 4)), vI 0, vI 0]))) rfl rfl rfl (rfl) (trivial) ?_
     refine aEnd (n' := 71) (by kernel_rfl) rfl ?_
     refine cRet ?_
     exact finTA rfl trivial rfl (by unfold accessP; rw [if_pos (by simpa using h1), if_neg (by simpa using h3), if_neg (by simpa using h4)]; rfl)
   ·skip
    refine cSkip ?_
    refine cSeq ?_
    refine cR ?_
    refine rO 103 (.ptr 34 1) ?_
    refine rO 104 (vU (up4 s.pc)) ?_
    refine rO 105 (.ptr 0 0) ?_
    refine rFx0 (h' := upd _ 0 (some (.box (stL (up4 s.pc) s.r s.mem s.halt)))) rfl rfl (rfl) (trivial) ?_
    refine rE 44 ?_
    refine cSeq ?_
    refine cAny rfl ?_
    refine aGo [0, 1] (by kernel_rfl) rfl ⟨?_, ?_, trivial⟩
    ·skip
     refine sOk (d := 106) (x := .agg (stL (up4 s.pc) s.r s.mem s.halt)) rfl rfl rfl rfl ?_
     refine aGo [1, 2] (by kernel_rfl) rfl ⟨?_, ?_, trivial⟩
     ·skip
      refine sOk (d := 107) (x := .agg [vU s.pc, vU (up4 s.pc), vI (wr i), .v (.int .u32 0), vU (addrOf i a), vN (sizeOf' i.op), .v (.bool ((kindOf i.op) == 4)), vI 0, vI 0]) rfl rfl rfl rfl ?_
      refine aGo [2] (by kernel_rfl) rfl ⟨?_, trivial⟩
      refine sFx0 (h' := upd _ 2 (some (.box (stL (up4 s.pc) s.r s.mem s.halt)))) rfl rfl rfl (rfl) (trivial) ?_
      refine aGo [3] (by kernel_rfl) rfl ⟨?_, trivial⟩
      refine sFx0 (h' := upd _ 3 (some (.box [vU s.pc, vU (up4 s.pc), vI (wr i), .v (.int .u32 0), vU (addrOf i a), vN (sizeOf' i.op), .v (.bool ((kindOf i.op) == 4)), vI 0, vI 0]))) rfl rfl rfl (rfl) (trivial) ?_
      refine aEnd (n' := 48) (by kernel_rfl) rfl ?_
      refine cRet ?_
      exact finTA rfl trivial rfl (by unfold accessP; rw [if_pos (by simpa using h1), if_neg (by simpa using h3), if_pos (by simpa using h4)]; rfl)
     ·skip
      refine sFx0 (h' := upd _ 2 (some (.box (stL (up4 s.pc) s.r s.mem s.halt)))) rfl rfl rfl (rfl) (trivial) ?_
      refine aGo [1] (by kernel_rfl) rfl ⟨?_, trivial⟩
      refine sOk (d := 107) (x := .agg [vU s.pc, vU (up4 s.pc), vI (wr i), .v (.int .u32 0), vU (addrOf i a), vN (sizeOf' i.op), .v (.bool ((kindOf i.op) == 4)), vI 0, vI 0]) rfl rfl rfl rfl ?_
      refine aGo [3] (by kernel_rfl) rfl ⟨?_, trivial⟩
      refine sFx0 (h' := upd _ 3 (some (.box [vU s.pc, vU (up4 s.pc), vI (wr i), .v (.int .u32 0), vU (addrOf i a), vN (sizeOf' i.op), .v (.bool ((kindOf i.op) == 4)), vI 0, vI 0]))) rfl rfl rfl (rfl) (trivial) ?_
      refine aEnd (n' := 48) (by kernel_rfl) rfl ?_
      refine cRet ?_
      exact finTA rfl trivial rfl (by unfold accessP; rw [if_pos (by simpa using h1), if_neg (by simpa using h3), if_pos (by simpa using h4)]; rfl)
    ·skip
     refine sOk (d := 107) (x := .agg [vU s.pc, vU (up4 s.pc), vI (wr i), .v (.int .u32 0), vU (addrOf i a), vN (sizeOf' i.op), .v (.bool ((kindOf i.op) == 4)), vI 0, vI 0]) rfl rfl rfl rfl ?_
     refine aGo [0] (by kernel_rfl) rfl ⟨?_, trivial⟩
     refine sOk (d := 106) (x := .agg (stL (up4 s.pc) s.r s.mem s.halt)) rfl rfl rfl rfl ?_
     refine aGo [2] (by kernel_rfl) rfl ⟨?_, trivial⟩
     refine sFx0 (h' := upd _ 2 (some (.box (stL (up4 s.pc) s.r s.mem s.halt)))) rfl rfl rfl (rfl) (trivial) ?_
     refine aGo [3] (by kernel_rfl) rfl ⟨?_, trivial⟩
     refine sFx0 (h' := upd _ 3 (some (.box [vU s.pc, vU (up4 s.pc), vI (wr i), .v (.int .u32 0), vU (addrOf i a), vN (sizeOf' i.op), .v (.bool ((kindOf i.op) == 4)), vI 0, vI 0]))) rfl rfl rfl (rfl) (trivial) ?_
     refine aEnd (n' := 48) (by kernel_rfl) rfl ?_
     refine cRet ?_
     exact finTA rfl trivial rfl (by unfold accessP; rw [if_pos (by simpa using h1), if_neg (by simpa using h3), if_pos (by simpa using h4)]; rfl)
set_option maxRecDepth 100000 in
set_option maxHeartbeats 4000000 in
theorem dReckon (s : St) (i : SI) (a b : Nat) (hs : s.ok) (hi : i.imm ≤ 4294967295) (ha : a ≤ 4294967295) (hb : b ≤ 4294967295) (hw0 : 0 ≤ wr i) (hw : wr i < 32) : DCall C0 31 [stA s, siA i, .v (.int .u32 (a : Int)), .v (.int .u32 (b : Int))] (two (reckonP s i a b)) := by
 refine DCall.intro c0Ok Tryd.func31 rfl rfl (by kernel_rfl) rfl ?_
 refine cSeq ?_
 refine cR ?_
 refine rFx (d := 4) (x := .ptr 0 0) (h' := upd _ 0 (some (.box (stL s.pc s.r s.mem s.halt)))) rfl rfl (rfl) (trivial) ?_
 refine rFx (d := 5) (x := .ptr 1 0) (h' := upd _ 1 (some (.box [vI i.op, vI i.rd, vI i.rs1, vI i.rs2, vU i.imm]))) rfl rfl (rfl) (trivial) ?_
 refine rFx (d := 8) (x := .ptr 2 0) (h' := upd _ 2 (some (.box (stL 0 (fun _ => 0) (⟨#[]⟩) 0)))) rfl rfl (rfl) (trivial) ?_
 refine rFx (d := 9) (x := .ptr 3 0) (h' := upd _ 3 (some (.box [.v (.int .u32 0), .v (.int .u32 0), vI 0, .v (.int .u32 0), .v (.int .u32 0), vI 0, .v (.bool false), vI 0, vI 0]))) rfl rfl (rfl) (trivial) ?_
 refine rE 4 ?_
 refine cSeq ?_
 refine cR ?_
 refine rO 13 (.ptr 0 0) ?_
 refine rO 14 (vU s.pc) ?_
 refine rO 15 (.ptr 0 0) ?_
 refine rO 16 (vU s.pc) ?_
 refine rO 17 (vU (up4 s.pc)) ?_
 refine rO 18 (.agg [vI i.op, vI i.rd, vI i.rs1, vI i.rs2, vU i.imm]) ?_
 refine rCall (args := [.agg [vI i.op, vI i.rd, vI i.rs1, vI i.rs2, vU i.imm]]) (d := 19) (x := vI (wr i)) rfl rfl rfl rfl (.inl rfl) rfl (dWrites i) ?_
 refine rO 20 (.agg [vU s.pc, vU (up4 s.pc), vI (wr i), .v (.int .u32 0), .v (.int .u32 0), vI 0, .v (.bool false), vI 0, vI 0]) ?_
 refine rFx (d := 10) (x := .ptr 12 0) (h' := upd _ 12 (some (.box [.v (.int .u32 0), .v (.int .u32 0), vI 0, .v (.int .u32 0), .v (.int .u32 0), vI 0, .v (.bool false), vI 0, vI 0]))) rfl rfl (rfl) (trivial) ?_
 refine rFx0 (h' := upd _ 12 (some (.box [vU s.pc, vU (up4 s.pc), vI (wr i), .v (.int .u32 0), .v (.int .u32 0), vI 0, .v (.bool false), vI 0, vI 0]))) rfl rfl (rfl) (trivial) ?_
 refine rE 14 ?_
 refine cSeq ?_
 refine cSeq ?_
 refine cR ?_
 refine rO 21 (.agg [vI i.op, vI i.rd, vI i.rs1, vI i.rs2, vU i.imm]) ?_
 refine rCall (args := [.agg [vI i.op, vI i.rd, vI i.rs1, vI i.rs2, vU i.imm]]) (d := 22) (x := vN (kindOf i.op)) rfl rfl rfl rfl (.inl rfl) rfl (dKind i) ?_
 refine rE 16 ?_
 refine cBlock ?_
 refine cSeq ?_
 refine cR ?_
 refine rOk (d := 24) (x := .v (.bool ((kindOf i.op) == 5))) rfl rfl (okB (eqN _ _)) ?_
 refine rO 23 (.v (.bool ((kindOf i.op) == 5))) ?_
 refine rE 18 ?_
 refine cCond (v := (kindOf i.op) == 5) rfl (fun h1 => ?_) (fun h1 => ?_)
 ·skip
  refine cSeq ?_
  refine cR ?_
  refine rO 26 (.agg [vI i.op, vI i.rd, vI i.rs1, vI i.rs2, vU i.imm]) ?_
  refine rO 27 (.ptr 0 0) ?_
  refine rO 28 (vU s.pc) ?_
  refine rO 29 (vU a) ?_
  refine rO 30 (vU b) ?_
  refine rCall (args := [.agg [vI i.op, vI i.rd, vI i.rs1, vI i.rs2, vU i.imm], vU s.pc, vU a, vU b]) (d := 31) (x := .tup [vU (nextP i.op i.imm s.pc a b), .v (.bool (decide (nextP i.op i.imm s.pc a b % 4 = 0)))]) rfl rfl rfl rfl (.inl rfl) rfl (dTarget i _ _ _ (Nat.lt_succ_of_le hi) (Nat.lt_succ_of_le hs.pc) (Nat.lt_succ_of_le ha) (Nat.lt_succ_of_le hb)) ?_
  refine rO 25 (.tup [vU (nextP i.op i.imm s.pc a b), .v (.bool (decide (nextP i.op i.imm s.pc a b % 4 = 0)))]) ?_
  refine rO 32 (vU (nextP i.op i.imm s.pc a b)) ?_
  refine rO 33 (.v (.bool (decide (nextP i.op i.imm s.pc a b % 4 = 0)))) ?_
  refine rO 11 (vU (nextP i.op i.imm s.pc a b)) ?_
  refine rO 12 (.v (.bool (decide (nextP i.op i.imm s.pc a b % 4 = 0)))) ?_
  refine rE 29 ?_
  refine cSeq ?_
  refine cSeq ?_
  refine cR ?_
  refine rO 34 (.v (.bool (decide (nextP i.op i.imm s.pc a b % 4 = 0)))) ?_
  refine rO 35 (.v (.bool (!(decide (nextP i.op i.imm s.pc a b % 4 = 0))))) ?_
  refine rE 31 ?_
  refine cCond (v := !(decide (nextP i.op i.imm s.pc a b % 4 = 0))) rfl (fun h2 => ?_) (fun h2 => ?_)
  ·skip
   refine cSeq ?_
   refine cR ?_
   refine rO 36 (.agg (stL s.pc s.r s.mem s.halt)) ?_
   refine rCall (args := [.agg (stL s.pc s.r s.mem s.halt), vI 3]) (d := 37) (x := .tup [.agg (stL s.pc s.r s.mem 3), .agg [vU s.pc, vU s.pc, vI 0, .v (.int .u32 0), .v (.int .u32 0), vI 0, .v (.bool false), vI 3, vI 0]]) rfl rfl rfl rfl (.inl rfl) rfl (dHalt s (3) hs) ?_
   refine rO 38 (.agg (stL s.pc s.r s.mem 3)) ?_
   refine rO 39 (.agg [vU s.pc, vU s.pc, vI 0, .v (.int .u32 0), .v (.int .u32 0), vI 0, .v (.bool false), vI 3, vI 0]) ?_
   refine rFx0 (h' := upd _ 2 (some (.box (stL s.pc s.r s.mem 3)))) rfl rfl (rfl) (trivial) ?_
   refine rFx0 (h' := upd _ 3 (some (.box [vU s.pc, vU s.pc, vI 0, .v (.int .u32 0), .v (.int .u32 0), vI 0, .v (.bool false), vI 3, vI 0]))) rfl rfl (rfl) (trivial) ?_
   refine rE 37 ?_
   refine cRet ?_
   exact finTA rfl trivial rfl (by unfold reckonP finP; rw [if_pos (by simpa using h1), if_neg (by simpa using h2)]; rfl)
  ·skip
   refine cSkip ?_
   refine cR ?_
   refine rO 40 (vU (nextP i.op i.imm s.pc a b)) ?_
   refine rO 41 (.ptr 12 1) ?_
   refine rFx0 (h' := upd _ 12 (some (.box [vU s.pc, vU (nextP i.op i.imm s.pc a b), vI (wr i), .v (.int .u32 0), .v (.int .u32 0), vI 0, .v (.bool false), vI 0, vI 0]))) rfl rfl (rfl) (trivial) ?_
   refine rE 34 ?_
   refine cSeq ?_
   refine cSeq ?_
   refine cR ?_
   refine rO 50 (.ptr 12 2) ?_
   refine rO 51 (vI (wr i)) ?_
   refine rO 52 (.v (.bool ((wr i) != 0))) ?_
   refine rE 37 ?_
   refine cCond (v := (wr i) != 0) rfl (fun h3 => ?_) (fun h3 => ?_)
   ·skip
    refine cSeq ?_
    refine cR ?_
    refine rO 53 (.agg [vI i.op, vI i.rd, vI i.rs1, vI i.rs2, vU i.imm]) ?_
    refine rO 54 (.ptr 0 0) ?_
    refine rO 55 (vU s.pc) ?_
    refine rO 56 (vU a) ?_
    refine rO 57 (vU b) ?_
    refine rCall (args := [.agg [vI i.op, vI i.rd, vI i.rs1, vI i.rs2, vU i.imm], vU s.pc, vU a, vU b]) (d := 58) (x := vU (valP i.op i.imm s.pc a b)) rfl rfl rfl rfl (.inl rfl) rfl (dValue i _ _ _ (Nat.lt_succ_of_le hi) (Nat.lt_succ_of_le hs.pc) (Nat.lt_succ_of_le ha) (Nat.lt_succ_of_le hb)) ?_
    refine rO 59 (.ptr 12 3) ?_
    refine rFx0 (h' := upd _ 12 (some (.box [vU s.pc, vU (nextP i.op i.imm s.pc a b), vI (wr i), vU (valP i.op i.imm s.pc a b), .v (.int .u32 0), vI 0, .v (.bool false), vI 0, vI 0]))) rfl rfl (rfl) (trivial) ?_
    refine rE 45 ?_
    refine cR ?_
    refine rO 60 (.ptr 12 2) ?_
    refine rO 61 (vI (wr i)) ?_
    refine rO 62 (.ptr 12 3) ?_
    refine rO 63 (vU (valP i.op i.imm s.pc a b)) ?_
    refine rO 64 (.ptr 0 1) ?_
    refine rNeed (d := 65) (x := .ptr 0 (1 + (wr i).toNat * 1)) rfl rfl rfl (by omega) ?_
    refine rFx0 (h' := upd _ 0 (some (.box (stL s.pc (setR s.r ((wr i).toNat) (valP i.op i.imm s.pc a b)) s.mem s.halt)))) rfl rfl (stR (n := (wr i).toNat) (v := valP i.op i.imm s.pc a b) (r := s.r) rfl rfl rfl (by omega)) (trivial) ?_
    refine rE 52 ?_
    refine cSeq ?_
    refine cR ?_
    refine rO 66 (.ptr 12 1) ?_
    refine rO 67 (vU (nextP i.op i.imm s.pc a b)) ?_
    refine rO 68 (.ptr 0 0) ?_
    refine rFx0 (h' := upd _ 0 (some (.box (stL (nextP i.op i.imm s.pc a b) (setR s.r ((wr i).toNat) (valP i.op i.imm s.pc a b)) s.mem s.halt)))) rfl rfl (rfl) (trivial) ?_
    refine rE 56 ?_
    refine cSeq ?_
    refine cAny rfl ?_
    refine aGo [0, 1] (by kernel_rfl) rfl ⟨?_, ?_, trivial⟩
    ·skip
     refine sOk (d := 69) (x := .agg (stL (nextP i.op i.imm s.pc a b) (setR s.r ((wr i).toNat) (valP i.op i.imm s.pc a b)) s.mem s.halt)) rfl rfl rfl rfl ?_
     refine aGo [1, 2] (by kernel_rfl) rfl ⟨?_, ?_, trivial⟩
     ·skip
      refine sOk (d := 70) (x := .agg [vU s.pc, vU (nextP i.op i.imm s.pc a b), vI (wr i), vU (valP i.op i.imm s.pc a b), .v (.int .u32 0), vI 0, .v (.bool false), vI 0, vI 0]) rfl rfl rfl rfl ?_
      refine aGo [2] (by kernel_rfl) rfl ⟨?_, trivial⟩
      refine sFx0 (h' := upd _ 2 (some (.box (stL (nextP i.op i.imm s.pc a b) (setR s.r ((wr i).toNat) (valP i.op i.imm s.pc a b)) s.mem s.halt)))) rfl rfl rfl (rfl) (trivial) ?_
      refine aGo [3] (by kernel_rfl) rfl ⟨?_, trivial⟩
      refine sFx0 (h' := upd _ 3 (some (.box [vU s.pc, vU (nextP i.op i.imm s.pc a b), vI (wr i), vU (valP i.op i.imm s.pc a b), .v (.int .u32 0), vI 0, .v (.bool false), vI 0, vI 0]))) rfl rfl rfl (rfl) (trivial) ?_
      refine aEnd (n' := 60) (by kernel_rfl) rfl ?_
      refine cRet ?_
      exact finTA rfl trivial rfl (by unfold reckonP finP; rw [if_pos (by simpa using h1), if_pos (by simpa using h2), if_neg (by simpa using h3)]; rfl)
     ·skip
      refine sFx0 (h' := upd _ 2 (some (.box (stL (nextP i.op i.imm s.pc a b) (setR s.r ((wr i).toNat) (valP i.op i.imm s.pc a b)) s.mem s.halt)))) rfl rfl rfl (rfl) (trivial) ?_
      refine aGo [1] (by kernel_rfl) rfl ⟨?_, trivial⟩
      refine sOk (d := 70) (x := .agg [vU s.pc, vU (nextP i.op i.imm s.pc a b), vI (wr i), vU (valP i.op i.imm s.pc a b), .v (.int .u32 0), vI 0, .v (.bool false), vI 0, vI 0]) rfl rfl rfl rfl ?_
      refine aGo [3] (by kernel_rfl) rfl ⟨?_, trivial⟩
      refine sFx0 (h' := upd _ 3 (some (.box [vU s.pc, vU (nextP i.op i.imm s.pc a b), vI (wr i), vU (valP i.op i.imm s.pc a b), .v (.int .u32 0), vI 0, .v (.bool false), vI 0, vI 0]))) rfl rfl rfl (rfl) (trivial) ?_
      refine aEnd (n' := 60) (by kernel_rfl) rfl ?_
      refine cRet ?_
      exact finTA rfl trivial rfl (by unfold reckonP finP; rw [if_pos (by simpa using h1), if_pos (by simpa using h2), if_neg (by simpa using h3)]; rfl)
    ·skip
     refine sOk (d := 70) (x := .agg [vU s.pc, vU (nextP i.op i.imm s.pc a b), vI (wr i), vU (valP i.op i.imm s.pc a b), .v (.int .u32 0), vI 0, .v (.bool false), vI 0, vI 0]) rfl rfl rfl rfl ?_
     refine aGo [0] (by kernel_rfl) rfl ⟨?_, trivial⟩
     refine sOk (d := 69) (x := .agg (stL (nextP i.op i.imm s.pc a b) (setR s.r ((wr i).toNat) (valP i.op i.imm s.pc a b)) s.mem s.halt)) rfl rfl rfl rfl ?_
     refine aGo [2] (by kernel_rfl) rfl ⟨?_, trivial⟩
     refine sFx0 (h' := upd _ 2 (some (.box (stL (nextP i.op i.imm s.pc a b) (setR s.r ((wr i).toNat) (valP i.op i.imm s.pc a b)) s.mem s.halt)))) rfl rfl rfl (rfl) (trivial) ?_
     refine aGo [3] (by kernel_rfl) rfl ⟨?_, trivial⟩
     refine sFx0 (h' := upd _ 3 (some (.box [vU s.pc, vU (nextP i.op i.imm s.pc a b), vI (wr i), vU (valP i.op i.imm s.pc a b), .v (.int .u32 0), vI 0, .v (.bool false), vI 0, vI 0]))) rfl rfl rfl (rfl) (trivial) ?_
     refine aEnd (n' := 60) (by kernel_rfl) rfl ?_
     refine cRet ?_
     exact finTA rfl trivial rfl (by unfold reckonP finP; rw [if_pos (by simpa using h1), if_pos (by simpa using h2), if_neg (by simpa using h3)]; rfl)
   ·skip
    refine cSkip ?_
    refine cSeq ?_
    refine cR ?_
    refine rO 66 (.ptr 12 1) ?_
    refine rO 67 (vU (nextP i.op i.imm s.pc a b)) ?_
    refine rO 68 (.ptr 0 0) ?_
    refine rFx0 (h' := upd _ 0 (some (.box (stL (nextP i.op i.imm s.pc a b) s.r s.mem s.halt)))) rfl rfl (rfl) (trivial) ?_
    refine rE 41 ?_
    refine cSeq ?_
    refine cAny rfl ?_
    refine aGo [0, 1] (by kernel_rfl) rfl ⟨?_, ?_, trivial⟩
    ·skip
     refine sOk (d := 69) (x := .agg (stL (nextP i.op i.imm s.pc a b) s.r s.mem s.halt)) rfl rfl rfl rfl ?_
     refine aGo [1, 2] (by kernel_rfl) rfl ⟨?_, ?_, trivial⟩
     ·skip
      refine sOk (d := 70) (x := .agg [vU s.pc, vU (nextP i.op i.imm s.pc a b), vI (wr i), .v (.int .u32 0), .v (.int .u32 0), vI 0, .v (.bool false), vI 0, vI 0]) rfl rfl rfl rfl ?_
      refine aGo [2] (by kernel_rfl) rfl ⟨?_, trivial⟩
      refine sFx0 (h' := upd _ 2 (some (.box (stL (nextP i.op i.imm s.pc a b) s.r s.mem s.halt)))) rfl rfl rfl (rfl) (trivial) ?_
      refine aGo [3] (by kernel_rfl) rfl ⟨?_, trivial⟩
      refine sFx0 (h' := upd _ 3 (some (.box [vU s.pc, vU (nextP i.op i.imm s.pc a b), vI (wr i), .v (.int .u32 0), .v (.int .u32 0), vI 0, .v (.bool false), vI 0, vI 0]))) rfl rfl rfl (rfl) (trivial) ?_
      refine aEnd (n' := 45) (by kernel_rfl) rfl ?_
      refine cRet ?_
      exact finTA rfl trivial rfl (by unfold reckonP finP; rw [if_pos (by simpa using h1), if_pos (by simpa using h2), if_pos (by simpa using h3)]; rfl)
     ·skip
      refine sFx0 (h' := upd _ 2 (some (.box (stL (nextP i.op i.imm s.pc a b) s.r s.mem s.halt)))) rfl rfl rfl (rfl) (trivial) ?_
      refine aGo [1] (by kernel_rfl) rfl ⟨?_, trivial⟩
      refine sOk (d := 70) (x := .agg [vU s.pc, vU (nextP i.op i.imm s.pc a b), vI (wr i), .v (.int .u32 0), .v (.int .u32 0), vI 0, .v (.bool false), vI 0, vI 0]) rfl rfl rfl rfl ?_
      refine aGo [3] (by kernel_rfl) rfl ⟨?_, trivial⟩
      refine sFx0 (h' := upd _ 3 (some (.box [vU s.pc, vU (nextP i.op i.imm s.pc a b), vI (wr i), .v (.int .u32 0), .v (.int .u32 0), vI 0, .v (.bool false), vI 0, vI 0]))) rfl rfl rfl (rfl) (trivial) ?_
      refine aEnd (n' := 45) (by kernel_rfl) rfl ?_
      refine cRet ?_
      exact finTA rfl trivial rfl (by unfold reckonP finP; rw [if_pos (by simpa using h1), if_pos (by simpa using h2), if_pos (by simpa using h3)]; rfl)
    ·skip
     refine sOk (d := 70) (x := .agg [vU s.pc, vU (nextP i.op i.imm s.pc a b), vI (wr i), .v (.int .u32 0), .v (.int .u32 0), vI 0, .v (.bool false), vI 0, vI 0]) rfl rfl rfl rfl ?_
     refine aGo [0] (by kernel_rfl) rfl ⟨?_, trivial⟩
     refine sOk (d := 69) (x := .agg (stL (nextP i.op i.imm s.pc a b) s.r s.mem s.halt)) rfl rfl rfl rfl ?_
     refine aGo [2] (by kernel_rfl) rfl ⟨?_, trivial⟩
     refine sFx0 (h' := upd _ 2 (some (.box (stL (nextP i.op i.imm s.pc a b) s.r s.mem s.halt)))) rfl rfl rfl (rfl) (trivial) ?_
     refine aGo [3] (by kernel_rfl) rfl ⟨?_, trivial⟩
     refine sFx0 (h' := upd _ 3 (some (.box [vU s.pc, vU (nextP i.op i.imm s.pc a b), vI (wr i), .v (.int .u32 0), .v (.int .u32 0), vI 0, .v (.bool false), vI 0, vI 0]))) rfl rfl rfl (rfl) (trivial) ?_
     refine aEnd (n' := 45) (by kernel_rfl) rfl ?_
     refine cRet ?_
     exact finTA rfl trivial rfl (by unfold reckonP finP; rw [if_pos (by simpa using h1), if_pos (by simpa using h2), if_pos (by simpa using h3)]; rfl)
 ·skip
  refine cSeq ?_
  refine cR ?_
  refine rOk (d := 43) (x := .v (.bool ((kindOf i.op) == 2))) rfl rfl (okB (eqN _ _)) ?_
  refine rO 42 (.v (.bool ((kindOf i.op) == 2))) ?_
  refine rE 20 ?_
  refine cCond (v := (kindOf i.op) == 2) rfl (fun h4 => ?_) (fun h4 => ?_)
  ·skip
   refine cR ?_
   refine rO 44 (.ptr 1 0) ?_
   refine rO 45 (vI i.op) ?_
   refine rO 46 (vU a) ?_
   refine rO 47 (vU b) ?_
   refine rCall (args := [vI i.op, vU a, vU b]) (d := 48) (x := vN (tookP i.op a b)) rfl rfl rfl rfl (.inl rfl) rfl (dTook _ _ _ (Nat.lt_succ_of_le ha) (Nat.lt_succ_of_le hb)) ?_
   refine rO 49 (.ptr 12 8) ?_
   refine rFx0 (h' := upd _ 12 (some (.box [vU s.pc, vU (up4 s.pc), vI (wr i), .v (.int .u32 0), .v (.int .u32 0), vI 0, .v (.bool false), vI 0, vN (tookP i.op a b)]))) rfl rfl (rfl) (trivial) ?_
   refine rE 27 ?_
   refine cSeq ?_
   refine cSeq ?_
   refine cR ?_
   refine rO 50 (.ptr 12 2) ?_
   refine rO 51 (vI (wr i)) ?_
   refine rO 52 (.v (.bool ((wr i) != 0))) ?_
   refine rE 30 ?_
   refine cCond (v := (wr i) != 0) rfl (fun h5 => ?_) (fun h5 => ?_)
   ·skip
    refine cSeq ?_
    refine cR ?_
    refine rO 53 (.agg [vI i.op, vI i.rd, vI i.rs1, vI i.rs2, vU i.imm]) ?_
    refine rO 54 (.ptr 0 0) ?_
    refine rO 55 (vU s.pc) ?_
    refine rO 56 (vU a) ?_
    refine rO 57 (vU b) ?_
    refine rCall (args := [.agg [vI i.op, vI i.rd, vI i.rs1, vI i.rs2, vU i.imm], vU s.pc, vU a, vU b]) (d := 58) (x := vU (valP i.op i.imm s.pc a b)) rfl rfl rfl rfl (.inl rfl) rfl (dValue i _ _ _ (Nat.lt_succ_of_le hi) (Nat.lt_succ_of_le hs.pc) (Nat.lt_succ_of_le ha) (Nat.lt_succ_of_le hb)) ?_
    refine rO 59 (.ptr 12 3) ?_
    refine rFx0 (h' := upd _ 12 (some (.box [vU s.pc, vU (up4 s.pc), vI (wr i), vU (valP i.op i.imm s.pc a b), .v (.int .u32 0), vI 0, .v (.bool false), vI 0, vN (tookP i.op a b)]))) rfl rfl (rfl) (trivial) ?_
    refine rE 38 ?_
    refine cR ?_
    refine rO 60 (.ptr 12 2) ?_
    refine rO 61 (vI (wr i)) ?_
    refine rO 62 (.ptr 12 3) ?_
    refine rO 63 (vU (valP i.op i.imm s.pc a b)) ?_
    refine rO 64 (.ptr 0 1) ?_
    refine rNeed (d := 65) (x := .ptr 0 (1 + (wr i).toNat * 1)) rfl rfl rfl (by omega) ?_
    refine rFx0 (h' := upd _ 0 (some (.box (stL s.pc (setR s.r ((wr i).toNat) (valP i.op i.imm s.pc a b)) s.mem s.halt)))) rfl rfl (stR (n := (wr i).toNat) (v := valP i.op i.imm s.pc a b) (r := s.r) rfl rfl rfl (by omega)) (trivial) ?_
    refine rE 45 ?_
    refine cSeq ?_
    refine cR ?_
    refine rO 66 (.ptr 12 1) ?_
    refine rO 67 (vU (up4 s.pc)) ?_
    refine rO 68 (.ptr 0 0) ?_
    refine rFx0 (h' := upd _ 0 (some (.box (stL (up4 s.pc) (setR s.r ((wr i).toNat) (valP i.op i.imm s.pc a b)) s.mem s.halt)))) rfl rfl (rfl) (trivial) ?_
    refine rE 49 ?_
    refine cSeq ?_
    refine cAny rfl ?_
    refine aGo [0, 1] (by kernel_rfl) rfl ⟨?_, ?_, trivial⟩
    ·skip
     refine sOk (d := 69) (x := .agg (stL (up4 s.pc) (setR s.r ((wr i).toNat) (valP i.op i.imm s.pc a b)) s.mem s.halt)) rfl rfl rfl rfl ?_
     refine aGo [1, 2] (by kernel_rfl) rfl ⟨?_, ?_, trivial⟩
     ·skip
      refine sOk (d := 70) (x := .agg [vU s.pc, vU (up4 s.pc), vI (wr i), vU (valP i.op i.imm s.pc a b), .v (.int .u32 0), vI 0, .v (.bool false), vI 0, vN (tookP i.op a b)]) rfl rfl rfl rfl ?_
      refine aGo [2] (by kernel_rfl) rfl ⟨?_, trivial⟩
      refine sFx0 (h' := upd _ 2 (some (.box (stL (up4 s.pc) (setR s.r ((wr i).toNat) (valP i.op i.imm s.pc a b)) s.mem s.halt)))) rfl rfl rfl (rfl) (trivial) ?_
      refine aGo [3] (by kernel_rfl) rfl ⟨?_, trivial⟩
      refine sFx0 (h' := upd _ 3 (some (.box [vU s.pc, vU (up4 s.pc), vI (wr i), vU (valP i.op i.imm s.pc a b), .v (.int .u32 0), vI 0, .v (.bool false), vI 0, vN (tookP i.op a b)]))) rfl rfl rfl (rfl) (trivial) ?_
      refine aEnd (n' := 53) (by kernel_rfl) rfl ?_
      refine cRet ?_
      exact finTA rfl trivial rfl (by unfold reckonP finP; rw [if_neg (by simpa using h1), if_neg (by simpa using h5), if_pos (by simpa using h4)]; rfl)
     ·skip
      refine sFx0 (h' := upd _ 2 (some (.box (stL (up4 s.pc) (setR s.r ((wr i).toNat) (valP i.op i.imm s.pc a b)) s.mem s.halt)))) rfl rfl rfl (rfl) (trivial) ?_
      refine aGo [1] (by kernel_rfl) rfl ⟨?_, trivial⟩
      refine sOk (d := 70) (x := .agg [vU s.pc, vU (up4 s.pc), vI (wr i), vU (valP i.op i.imm s.pc a b), .v (.int .u32 0), vI 0, .v (.bool false), vI 0, vN (tookP i.op a b)]) rfl rfl rfl rfl ?_
      refine aGo [3] (by kernel_rfl) rfl ⟨?_, trivial⟩
      refine sFx0 (h' := upd _ 3 (some (.box [vU s.pc, vU (up4 s.pc), vI (wr i), vU (valP i.op i.imm s.pc a b), .v (.int .u32 0), vI 0, .v (.bool false), vI 0, vN (tookP i.op a b)]))) rfl rfl rfl (rfl) (trivial) ?_
      refine aEnd (n' := 53) (by kernel_rfl) rfl ?_
      refine cRet ?_
      exact finTA rfl trivial rfl (by unfold reckonP finP; rw [if_neg (by simpa using h1), if_neg (by simpa using h5), if_pos (by simpa using h4)]; rfl)
    ·skip
     refine sOk (d := 70) (x := .agg [vU s.pc, vU (up4 s.pc), vI (wr i), vU (valP i.op i.imm s.pc a b), .v (.int .u32 0), vI 0, .v (.bool false), vI 0, vN (tookP i.op a b)]) rfl rfl rfl rfl ?_
     refine aGo [0] (by kernel_rfl) rfl ⟨?_, trivial⟩
     refine sOk (d := 69) (x := .agg (stL (up4 s.pc) (setR s.r ((wr i).toNat) (valP i.op i.imm s.pc a b)) s.mem s.halt)) rfl rfl rfl rfl ?_
     refine aGo [2] (by kernel_rfl) rfl ⟨?_, trivial⟩
     refine sFx0 (h' := upd _ 2 (some (.box (stL (up4 s.pc) (setR s.r ((wr i).toNat) (valP i.op i.imm s.pc a b)) s.mem s.halt)))) rfl rfl rfl (rfl) (trivial) ?_
     refine aGo [3] (by kernel_rfl) rfl ⟨?_, trivial⟩
     refine sFx0 (h' := upd _ 3 (some (.box [vU s.pc, vU (up4 s.pc), vI (wr i), vU (valP i.op i.imm s.pc a b), .v (.int .u32 0), vI 0, .v (.bool false), vI 0, vN (tookP i.op a b)]))) rfl rfl rfl (rfl) (trivial) ?_
     refine aEnd (n' := 53) (by kernel_rfl) rfl ?_
     refine cRet ?_
     exact finTA rfl trivial rfl (by unfold reckonP finP; rw [if_neg (by simpa using h1), if_neg (by simpa using h5), if_pos (by simpa using h4)]; rfl)
   ·skip
    refine cSkip ?_
    refine cSeq ?_
    refine cR ?_
    refine rO 66 (.ptr 12 1) ?_
    refine rO 67 (vU (up4 s.pc)) ?_
    refine rO 68 (.ptr 0 0) ?_
    refine rFx0 (h' := upd _ 0 (some (.box (stL (up4 s.pc) s.r s.mem s.halt)))) rfl rfl (rfl) (trivial) ?_
    refine rE 34 ?_
    refine cSeq ?_
    refine cAny rfl ?_
    refine aGo [0, 1] (by kernel_rfl) rfl ⟨?_, ?_, trivial⟩
    ·skip
     refine sOk (d := 69) (x := .agg (stL (up4 s.pc) s.r s.mem s.halt)) rfl rfl rfl rfl ?_
     refine aGo [1, 2] (by kernel_rfl) rfl ⟨?_, ?_, trivial⟩
     ·skip
      refine sOk (d := 70) (x := .agg [vU s.pc, vU (up4 s.pc), vI (wr i), .v (.int .u32 0), .v (.int .u32 0), vI 0, .v (.bool false), vI 0, vN (tookP i.op a b)]) rfl rfl rfl rfl ?_
      refine aGo [2] (by kernel_rfl) rfl ⟨?_, trivial⟩
      refine sFx0 (h' := upd _ 2 (some (.box (stL (up4 s.pc) s.r s.mem s.halt)))) rfl rfl rfl (rfl) (trivial) ?_
      refine aGo [3] (by kernel_rfl) rfl ⟨?_, trivial⟩
      refine sFx0 (h' := upd _ 3 (some (.box [vU s.pc, vU (up4 s.pc), vI (wr i), .v (.int .u32 0), .v (.int .u32 0), vI 0, .v (.bool false), vI 0, vN (tookP i.op a b)]))) rfl rfl rfl (rfl) (trivial) ?_
      refine aEnd (n' := 38) (by kernel_rfl) rfl ?_
      refine cRet ?_
      exact finTA rfl trivial rfl (by unfold reckonP finP; rw [if_neg (by simpa using h1), if_pos (by simpa using h5), if_pos (by simpa using h4)]; rfl)
     ·skip
      refine sFx0 (h' := upd _ 2 (some (.box (stL (up4 s.pc) s.r s.mem s.halt)))) rfl rfl rfl (rfl) (trivial) ?_
      refine aGo [1] (by kernel_rfl) rfl ⟨?_, trivial⟩
      refine sOk (d := 70) (x := .agg [vU s.pc, vU (up4 s.pc), vI (wr i), .v (.int .u32 0), .v (.int .u32 0), vI 0, .v (.bool false), vI 0, vN (tookP i.op a b)]) rfl rfl rfl rfl ?_
      refine aGo [3] (by kernel_rfl) rfl ⟨?_, trivial⟩
      refine sFx0 (h' := upd _ 3 (some (.box [vU s.pc, vU (up4 s.pc), vI (wr i), .v (.int .u32 0), .v (.int .u32 0), vI 0, .v (.bool false), vI 0, vN (tookP i.op a b)]))) rfl rfl rfl (rfl) (trivial) ?_
      refine aEnd (n' := 38) (by kernel_rfl) rfl ?_
      refine cRet ?_
      exact finTA rfl trivial rfl (by unfold reckonP finP; rw [if_neg (by simpa using h1), if_pos (by simpa using h5), if_pos (by simpa using h4)]; rfl)
    ·skip
     refine sOk (d := 70) (x := .agg [vU s.pc, vU (up4 s.pc), vI (wr i), .v (.int .u32 0), .v (.int .u32 0), vI 0, .v (.bool false), vI 0, vN (tookP i.op a b)]) rfl rfl rfl rfl ?_
     refine aGo [0] (by kernel_rfl) rfl ⟨?_, trivial⟩
     refine sOk (d := 69) (x := .agg (stL (up4 s.pc) s.r s.mem s.halt)) rfl rfl rfl rfl ?_
     refine aGo [2] (by kernel_rfl) rfl ⟨?_, trivial⟩
     refine sFx0 (h' := upd _ 2 (some (.box (stL (up4 s.pc) s.r s.mem s.halt)))) rfl rfl rfl (rfl) (trivial) ?_
     refine aGo [3] (by kernel_rfl) rfl ⟨?_, trivial⟩
     refine sFx0 (h' := upd _ 3 (some (.box [vU s.pc, vU (up4 s.pc), vI (wr i), .v (.int .u32 0), .v (.int .u32 0), vI 0, .v (.bool false), vI 0, vN (tookP i.op a b)]))) rfl rfl rfl (rfl) (trivial) ?_
     refine aEnd (n' := 38) (by kernel_rfl) rfl ?_
     refine cRet ?_
     exact finTA rfl trivial rfl (by unfold reckonP finP; rw [if_neg (by simpa using h1), if_pos (by simpa using h5), if_pos (by simpa using h4)]; rfl)
  ·skip
   refine cSkip ?_
   refine cSeq ?_
   refine cSeq ?_
   refine cR ?_
   refine rO 50 (.ptr 12 2) ?_
   refine rO 51 (vI (wr i)) ?_
   refine rO 52 (.v (.bool ((wr i) != 0))) ?_
   refine rE 23 ?_
   refine cCond (v := (wr i) != 0) rfl (fun h6 => ?_) (fun h6 => ?_)
   ·skip
    refine cSeq ?_
    refine cR ?_
    refine rO 53 (.agg [vI i.op, vI i.rd, vI i.rs1, vI i.rs2, vU i.imm]) ?_
    refine rO 54 (.ptr 0 0) ?_
    refine rO 55 (vU s.pc) ?_
    refine rO 56 (vU a) ?_
    refine rO 57 (vU b) ?_
    refine rCall (args := [.agg [vI i.op, vI i.rd, vI i.rs1, vI i.rs2, vU i.imm], vU s.pc, vU a, vU b]) (d := 58) (x := vU (valP i.op i.imm s.pc a b)) rfl rfl rfl rfl (.inl rfl) rfl (dValue i _ _ _ (Nat.lt_succ_of_le hi) (Nat.lt_succ_of_le hs.pc) (Nat.lt_succ_of_le ha) (Nat.lt_succ_of_le hb)) ?_
    refine rO 59 (.ptr 12 3) ?_
    refine rFx0 (h' := upd _ 12 (some (.box [vU s.pc, vU (up4 s.pc), vI (wr i), vU (valP i.op i.imm s.pc a b), .v (.int .u32 0), vI 0, .v (.bool false), vI 0, vI 0]))) rfl rfl (rfl) (trivial) ?_
    refine rE 31 ?_
    refine cR ?_
    refine rO 60 (.ptr 12 2) ?_
    refine rO 61 (vI (wr i)) ?_
    refine rO 62 (.ptr 12 3) ?_
    refine rO 63 (vU (valP i.op i.imm s.pc a b)) ?_
    refine rO 64 (.ptr 0 1) ?_
    refine rNeed (d := 65) (x := .ptr 0 (1 + (wr i).toNat * 1)) rfl rfl rfl (by omega) ?_
    refine rFx0 (h' := upd _ 0 (some (.box (stL s.pc (setR s.r ((wr i).toNat) (valP i.op i.imm s.pc a b)) s.mem s.halt)))) rfl rfl (stR (n := (wr i).toNat) (v := valP i.op i.imm s.pc a b) (r := s.r) rfl rfl rfl (by omega)) (trivial) ?_
    refine rE 38 ?_
    refine cSeq ?_
    refine cR ?_
    refine rO 66 (.ptr 12 1) ?_
    refine rO 67 (vU (up4 s.pc)) ?_
    refine rO 68 (.ptr 0 0) ?_
    refine rFx0 (h' := upd _ 0 (some (.box (stL (up4 s.pc) (setR s.r ((wr i).toNat) (valP i.op i.imm s.pc a b)) s.mem s.halt)))) rfl rfl (rfl) (trivial) ?_
    refine rE 42 ?_
    refine cSeq ?_
    refine cAny rfl ?_
    refine aGo [0, 1] (by kernel_rfl) rfl ⟨?_, ?_, trivial⟩
    ·skip
     refine sOk (d := 69) (x := .agg (stL (up4 s.pc) (setR s.r ((wr i).toNat) (valP i.op i.imm s.pc a b)) s.mem s.halt)) rfl rfl rfl rfl ?_
     refine aGo [1, 2] (by kernel_rfl) rfl ⟨?_, ?_, trivial⟩
     ·skip
      refine sOk (d := 70) (x := .agg [vU s.pc, vU (up4 s.pc), vI (wr i), vU (valP i.op i.imm s.pc a b), .v (.int .u32 0), vI 0, .v (.bool false), vI 0, vI 0]) rfl rfl rfl rfl ?_
      refine aGo [2] (by kernel_rfl) rfl ⟨?_, trivial⟩
      refine sFx0 (h' := upd _ 2 (some (.box (stL (up4 s.pc) (setR s.r ((wr i).toNat) (valP i.op i.imm s.pc a b)) s.mem s.halt)))) rfl rfl rfl (rfl) (trivial) ?_
      refine aGo [3] (by kernel_rfl) rfl ⟨?_, trivial⟩
      refine sFx0 (h' := upd _ 3 (some (.box [vU s.pc, vU (up4 s.pc), vI (wr i), vU (valP i.op i.imm s.pc a b), .v (.int .u32 0), vI 0, .v (.bool false), vI 0, vI 0]))) rfl rfl rfl (rfl) (trivial) ?_
      refine aEnd (n' := 46) (by kernel_rfl) rfl ?_
      refine cRet ?_
      exact finTA rfl trivial rfl (by unfold reckonP finP; rw [if_neg (by simpa using h1), if_neg (by simpa using h6), if_neg (by simpa using h4)]; rfl)
     ·skip
      refine sFx0 (h' := upd _ 2 (some (.box (stL (up4 s.pc) (setR s.r ((wr i).toNat) (valP i.op i.imm s.pc a b)) s.mem s.halt)))) rfl rfl rfl (rfl) (trivial) ?_
      refine aGo [1] (by kernel_rfl) rfl ⟨?_, trivial⟩
      refine sOk (d := 70) (x := .agg [vU s.pc, vU (up4 s.pc), vI (wr i), vU (valP i.op i.imm s.pc a b), .v (.int .u32 0), vI 0, .v (.bool false), vI 0, vI 0]) rfl rfl rfl rfl ?_
      refine aGo [3] (by kernel_rfl) rfl ⟨?_, trivial⟩
      refine sFx0 (h' := upd _ 3 (some (.box [vU s.pc, vU (up4 s.pc), vI (wr i), vU (valP i.op i.imm s.pc a b), .v (.int .u32 0), vI 0, .v (.bool false), vI 0, vI 0]))) rfl rfl rfl (rfl) (trivial) ?_
      refine aEnd (n' := 46) (by kernel_rfl) rfl ?_
      refine cRet ?_
      exact finTA rfl trivial rfl (by unfold reckonP finP; rw [if_neg (by simpa using h1), if_neg (by simpa using h6), if_neg (by simpa using h4)]; rfl)
    ·skip
     refine sOk (d := 70) (x := .agg [vU s.pc, vU (up4 s.pc), vI (wr i), vU (valP i.op i.imm s.pc a b), .v (.int .u32 0), vI 0, .v (.bool false), vI 0, vI 0]) rfl rfl rfl rfl ?_
     refine aGo [0] (by kernel_rfl) rfl ⟨?_, trivial⟩
     refine sOk (d := 69) (x := .agg (stL (up4 s.pc) (setR s.r ((wr i).toNat) (valP i.op i.imm s.pc a b)) s.mem s.halt)) rfl rfl rfl rfl ?_
     refine aGo [2] (by kernel_rfl) rfl ⟨?_, trivial⟩
     refine sFx0 (h' := upd _ 2 (some (.box (stL (up4 s.pc) (setR s.r ((wr i).toNat) (valP i.op i.imm s.pc a b)) s.mem s.halt)))) rfl rfl rfl (rfl) (trivial) ?_
     refine aGo [3] (by kernel_rfl) rfl ⟨?_, trivial⟩
     refine sFx0 (h' := upd _ 3 (some (.box [vU s.pc, vU (up4 s.pc), vI (wr i), vU (valP i.op i.imm s.pc a b), .v (.int .u32 0), vI 0, .v (.bool false), vI 0, vI 0]))) rfl rfl rfl (rfl) (trivial) ?_
     refine aEnd (n' := 46) (by kernel_rfl) rfl ?_
     refine cRet ?_
     exact finTA rfl trivial rfl (by unfold reckonP finP; rw [if_neg (by simpa using h1), if_neg (by simpa using h6), if_neg (by simpa using h4)]; rfl)
   ·skip
    refine cSkip ?_
    refine cSeq ?_
    refine cR ?_
    refine rO 66 (.ptr 12 1) ?_
    refine rO 67 (vU (up4 s.pc)) ?_
    refine rO 68 (.ptr 0 0) ?_
    refine rFx0 (h' := upd _ 0 (some (.box (stL (up4 s.pc) s.r s.mem s.halt)))) rfl rfl (rfl) (trivial) ?_
    refine rE 27 ?_
    refine cSeq ?_
    refine cAny rfl ?_
    refine aGo [0, 1] (by kernel_rfl) rfl ⟨?_, ?_, trivial⟩
    ·skip
     refine sOk (d := 69) (x := .agg (stL (up4 s.pc) s.r s.mem s.halt)) rfl rfl rfl rfl ?_
     refine aGo [1, 2] (by kernel_rfl) rfl ⟨?_, ?_, trivial⟩
     ·skip
      refine sOk (d := 70) (x := .agg [vU s.pc, vU (up4 s.pc), vI (wr i), .v (.int .u32 0), .v (.int .u32 0), vI 0, .v (.bool false), vI 0, vI 0]) rfl rfl rfl rfl ?_
      refine aGo [2] (by kernel_rfl) rfl ⟨?_, trivial⟩
      refine sFx0 (h' := upd _ 2 (some (.box (stL (up4 s.pc) s.r s.mem s.halt)))) rfl rfl rfl (rfl) (trivial) ?_
      refine aGo [3] (by kernel_rfl) rfl ⟨?_, trivial⟩
      refine sFx0 (h' := upd _ 3 (some (.box [vU s.pc, vU (up4 s.pc), vI (wr i), .v (.int .u32 0), .v (.int .u32 0), vI 0, .v (.bool false), vI 0, vI 0]))) rfl rfl rfl (rfl) (trivial) ?_
      refine aEnd (n' := 31) (by kernel_rfl) rfl ?_
      refine cRet ?_
      exact finTA rfl trivial rfl (by unfold reckonP finP; rw [if_neg (by simpa using h1), if_pos (by simpa using h6), if_neg (by simpa using h4)]; rfl)
     ·skip
      refine sFx0 (h' := upd _ 2 (some (.box (stL (up4 s.pc) s.r s.mem s.halt)))) rfl rfl rfl (rfl) (trivial) ?_
      refine aGo [1] (by kernel_rfl) rfl ⟨?_, trivial⟩
      refine sOk (d := 70) (x := .agg [vU s.pc, vU (up4 s.pc), vI (wr i), .v (.int .u32 0), .v (.int .u32 0), vI 0, .v (.bool false), vI 0, vI 0]) rfl rfl rfl rfl ?_
      refine aGo [3] (by kernel_rfl) rfl ⟨?_, trivial⟩
      refine sFx0 (h' := upd _ 3 (some (.box [vU s.pc, vU (up4 s.pc), vI (wr i), .v (.int .u32 0), .v (.int .u32 0), vI 0, .v (.bool false), vI 0, vI 0]))) rfl rfl rfl (rfl) (trivial) ?_
      refine aEnd (n' := 31) (by kernel_rfl) rfl ?_
      refine cRet ?_
      exact finTA rfl trivial rfl (by unfold reckonP finP; rw [if_neg (by simpa using h1), if_pos (by simpa using h6), if_neg (by simpa using h4)]; rfl)
    ·skip
     refine sOk (d := 70) (x := .agg [vU s.pc, vU (up4 s.pc), vI (wr i), .v (.int .u32 0), .v (.int .u32 0), vI 0, .v (.bool false), vI 0, vI 0]) rfl rfl rfl rfl ?_
     refine aGo [0] (by kernel_rfl) rfl ⟨?_, trivial⟩
     refine sOk (d := 69) (x := .agg (stL (up4 s.pc) s.r s.mem s.halt)) rfl rfl rfl rfl ?_
     refine aGo [2] (by kernel_rfl) rfl ⟨?_, trivial⟩
     refine sFx0 (h' := upd _ 2 (some (.box (stL (up4 s.pc) s.r s.mem s.halt)))) rfl rfl rfl (rfl) (trivial) ?_
     refine aGo [3] (by kernel_rfl) rfl ⟨?_, trivial⟩
     refine sFx0 (h' := upd _ 3 (some (.box [vU s.pc, vU (up4 s.pc), vI (wr i), .v (.int .u32 0), .v (.int .u32 0), vI 0, .v (.bool false), vI 0, vI 0]))) rfl rfl rfl (rfl) (trivial) ?_
     refine aEnd (n' := 31) (by kernel_rfl) rfl ?_
     refine cRet ?_
     exact finTA rfl trivial rfl (by unfold reckonP finP; rw [if_neg (by simpa using h1), if_pos (by simpa using h6), if_neg (by simpa using h4)]; rfl)
set_option maxRecDepth 100000 in
set_option maxHeartbeats 4000000 in
theorem dStep (prog : List Nat) (s : St) (clip : Bool) (hp : ∀ x ∈ prog, x ≤ 4294967295) (hl : prog.length ≤ 1000000) (hs : s.ok) : DCall C0 15 [.sl 1 (prog.map rowU) clip, stA s] (two (stepP prog s)) := by
 refine DCall.intro c0Ok Tryd.func15 rfl rfl (by kernel_rfl) rfl ?_
 have hd : 0 ≤ (insOf prog s).rd ∧ (insOf prog s).rd < 32 ∧ 0 ≤ (insOf prog s).rs1 ∧ (insOf prog s).rs1 < 32 ∧ 0 ≤ (insOf prog s).rs2 ∧ (insOf prog s).rs2 < 32 ∧ (insOf prog s).imm ≤ 4294967295 := by have := decN_rd (fetchW prog s.pc); exact ⟨this.1, this.2.1, this.2.2.1, this.2.2.2.1, this.2.2.2.2.1, this.2.2.2.2.2.1, Nat.le_of_lt_succ this.2.2.2.2.2.2⟩
 have hv := wr_lt (fetchW prog s.pc)
 refine cSeq ?_
 refine cR ?_
 refine rFx (d := 3) (x := .ptr 0 0) (h' := upd _ 0 (some (.box (stL s.pc s.r s.mem s.halt)))) rfl rfl (rfl) (trivial) ?_
 refine rFx (d := 4) (x := .ptr 1 0) (h' := upd _ 1 (some (.box (stL 0 (fun _ => 0) (⟨#[]⟩) 0)))) rfl rfl (rfl) (trivial) ?_
 refine rFx (d := 5) (x := .ptr 2 0) (h' := upd _ 2 (some (.box [.v (.int .u32 0), .v (.int .u32 0), vI 0, .v (.int .u32 0), .v (.int .u32 0), vI 0, .v (.bool false), vI 0, vI 0]))) rfl rfl (rfl) (trivial) ?_
 refine rE 3 ?_
 refine cSeq ?_
 refine cSeq ?_
 refine cR ?_
 refine rO 14 (.ptr 0 34) ?_
 refine rO 15 (vI s.halt) ?_
 refine rO 16 (.v (.bool (s.halt != 0))) ?_
 refine rE 6 ?_
 refine cCond (v := s.halt != 0) rfl (fun h1 => ?_) (fun h1 => ?_)
 ·skip
  refine cSeq ?_
  refine cR ?_
  refine rO 17 (.agg (stL s.pc s.r s.mem s.halt)) ?_
  refine rO 18 (.agg [.v (.int .u32 0), .v (.int .u32 0), vI 0, .v (.int .u32 0), .v (.int .u32 0), vI 0, .v (.bool false), vI 0, vI 0]) ?_
  refine rFx0 (h' := upd _ 1 (some (.box (stL s.pc s.r s.mem s.halt)))) rfl rfl (rfl) (trivial) ?_
  refine rFx0 (h' := upd _ 2 (some (.box [.v (.int .u32 0), .v (.int .u32 0), vI 0, .v (.int .u32 0), .v (.int .u32 0), vI 0, .v (.bool false), vI 0, vI 0]))) rfl rfl (rfl) (trivial) ?_
  refine rE 10 ?_
  refine cRet ?_
  exact finTA rfl trivial rfl (by unfold stepP doI; rw [if_neg (by simpa using h1)]; rfl)
 ·skip
  refine cSkip ?_
  refine cSeq ?_
  refine cR ?_
  refine rO 20 (.sl 1 (prog.map rowU) clip) ?_
  refine rO 21 (.ptr 0 0) ?_
  refine rO 22 (vU s.pc) ?_
  refine rCall (args := [.sl 1 (prog.map rowU) clip, vU s.pc]) (d := 23) (x := .tup [vU (fetchW prog s.pc), .v (.bool ((fetchP prog s.pc).isSome))]) rfl rfl rfl rfl (.inl rfl) rfl (dFetch prog s.pc clip hp hl hs.pc) ?_
  refine rO 19 (.tup [vU (fetchW prog s.pc), .v (.bool ((fetchP prog s.pc).isSome))]) ?_
  refine rO 24 (vU (fetchW prog s.pc)) ?_
  refine rO 25 (.v (.bool ((fetchP prog s.pc).isSome))) ?_
  refine rO 6 (vU (fetchW prog s.pc)) ?_
  refine rO 7 (.v (.bool ((fetchP prog s.pc).isSome))) ?_
  refine rE 15 ?_
  refine cSeq ?_
  refine cSeq ?_
  refine cR ?_
  refine rO 26 (.v (.bool ((fetchP prog s.pc).isSome))) ?_
  refine rO 27 (.v (.bool (!((fetchP prog s.pc).isSome)))) ?_
  refine rE 17 ?_
  refine cCond (v := !((fetchP prog s.pc).isSome)) rfl (fun h2 => ?_) (fun h2 => ?_)
  ·skip
   refine cSeq ?_
   refine cR ?_
   refine rO 28 (.agg (stL s.pc s.r s.mem s.halt)) ?_
   refine rCall (args := [.agg (stL s.pc s.r s.mem s.halt), vI 1]) (d := 29) (x := .tup [.agg (stL s.pc s.r s.mem 1), .agg [vU s.pc, vU s.pc, vI 0, .v (.int .u32 0), .v (.int .u32 0), vI 0, .v (.bool false), vI 1, vI 0]]) rfl rfl rfl rfl (.inl rfl) rfl (dHalt s (1) hs) ?_
   refine rO 30 (.agg (stL s.pc s.r s.mem 1)) ?_
   refine rO 31 (.agg [vU s.pc, vU s.pc, vI 0, .v (.int .u32 0), .v (.int .u32 0), vI 0, .v (.bool false), vI 1, vI 0]) ?_
   refine rFx0 (h' := upd _ 1 (some (.box (stL s.pc s.r s.mem 1)))) rfl rfl (rfl) (trivial) ?_
   refine rFx0 (h' := upd _ 2 (some (.box [vU s.pc, vU s.pc, vI 0, .v (.int .u32 0), .v (.int .u32 0), vI 0, .v (.bool false), vI 1, vI 0]))) rfl rfl (rfl) (trivial) ?_
   refine rE 23 ?_
   refine cRet ?_
   exact finTA rfl trivial rfl (by unfold stepP doI; rw [if_pos (by simpa using h1), if_neg (by simpa using h2)]; rfl)
  ·skip
   refine cSkip ?_
   refine cSeq ?_
   refine cR ?_
   refine rO 33 (vU (fetchW prog s.pc)) ?_
   refine rCall (args := [vU (fetchW prog s.pc)]) (d := 34) (x := .tup [.agg [vI ((insOf prog s).op), vI ((insOf prog s).rd), vI ((insOf prog s).rs1), vI ((insOf prog s).rs2), vU ((insOf prog s).imm)], vN (decE (fetchW prog s.pc))]) rfl rfl rfl rfl (.inl rfl) rfl (dDecode _ (Nat.lt_succ_of_le (fetchW_le hp s.pc))) ?_
   refine rO 32 (.tup [.agg [vI ((insOf prog s).op), vI ((insOf prog s).rd), vI ((insOf prog s).rs1), vI ((insOf prog s).rs2), vU ((insOf prog s).imm)], vN (decE (fetchW prog s.pc))]) ?_
   refine rO 35 (.agg [vI ((insOf prog s).op), vI ((insOf prog s).rd), vI ((insOf prog s).rs1), vI ((insOf prog s).rs2), vU ((insOf prog s).imm)]) ?_
   refine rO 36 (vN (decE (fetchW prog s.pc))) ?_
   refine rFx (d := 8) (x := .ptr 22 0) (h' := upd _ 22 (some (.box [vI 0, vI 0, vI 0, vI 0, .v (.int .u32 0)]))) rfl rfl (rfl) (trivial) ?_
   refine rFx0 (h' := upd _ 22 (some (.box [vI ((insOf prog s).op), vI ((insOf prog s).rd), vI ((insOf prog s).rs1), vI ((insOf prog s).rs2), vU ((insOf prog s).imm)]))) rfl rfl (rfl) (trivial) ?_
   refine rO 9 (vN (decE (fetchW prog s.pc))) ?_
   refine rE 25 ?_
   refine cSeq ?_
   refine cSeq ?_
   refine cR ?_
   refine rO 37 (vN (decE (fetchW prog s.pc))) ?_
   refine rOk (d := 38) (x := .v (.bool ((decE (fetchW prog s.pc)) != 0))) rfl rfl (okB (neN _ _)) ?_
   refine rE 27 ?_
   refine cCond (v := (decE (fetchW prog s.pc)) != 0) rfl (fun h3 => ?_) (fun h3 => ?_)
   ·skip
    refine cSeq ?_
    refine cR ?_
    refine rO 39 (.agg (stL s.pc s.r s.mem s.halt)) ?_
    refine rCall (args := [.agg (stL s.pc s.r s.mem s.halt), vI 2]) (d := 40) (x := .tup [.agg (stL s.pc s.r s.mem 2), .agg [vU s.pc, vU s.pc, vI 0, .v (.int .u32 0), .v (.int .u32 0), vI 0, .v (.bool false), vI 2, vI 0]]) rfl rfl rfl rfl (.inl rfl) rfl (dHalt s (2) hs) ?_
    refine rO 41 (.agg (stL s.pc s.r s.mem 2)) ?_
    refine rO 42 (.agg [vU s.pc, vU s.pc, vI 0, .v (.int .u32 0), .v (.int .u32 0), vI 0, .v (.bool false), vI 2, vI 0]) ?_
    refine rFx0 (h' := upd _ 1 (some (.box (stL s.pc s.r s.mem 2)))) rfl rfl (rfl) (trivial) ?_
    refine rFx0 (h' := upd _ 2 (some (.box [vU s.pc, vU s.pc, vI 0, .v (.int .u32 0), .v (.int .u32 0), vI 0, .v (.bool false), vI 2, vI 0]))) rfl rfl (rfl) (trivial) ?_
    refine rE 33 ?_
    refine cRet ?_
    exact finTA rfl trivial rfl (by unfold stepP doI; rw [if_pos (by simpa using h1), if_pos (by simpa using h2), if_pos ((decE_ne _).1 h3)]; rfl)
   ·skip
    refine cSkip ?_
    refine cSeq ?_
    refine cSeq ?_
    refine cR ?_
    refine rO 43 (.ptr 22 0) ?_
    refine rO 44 (vI ((insOf prog s).op)) ?_
    refine rE 29 ?_
    refine cBlock ?_
    refine cSeq ?_
    refine cR ?_
    refine rO 46 (.v (.bool (((insOf prog s).op) == 47))) ?_
    refine rO 45 (.v (.bool (((insOf prog s).op) == 47))) ?_
    refine rE 31 ?_
    refine cCond (v := ((insOf prog s).op) == 47) rfl (fun h4 => ?_) (fun h4 => ?_)
    ·skip
     refine cSeq ?_
     refine cR ?_
     refine rO 47 (.agg (stL s.pc s.r s.mem s.halt)) ?_
     refine rCall (args := [.agg (stL s.pc s.r s.mem s.halt), vI 6]) (d := 48) (x := .tup [.agg (stL s.pc s.r s.mem 6), .agg [vU s.pc, vU s.pc, vI 0, .v (.int .u32 0), .v (.int .u32 0), vI 0, .v (.bool false), vI 6, vI 0]]) rfl rfl rfl rfl (.inl rfl) rfl (dHalt s (6) hs) ?_
     refine rO 49 (.agg (stL s.pc s.r s.mem 6)) ?_
     refine rO 50 (.agg [vU s.pc, vU s.pc, vI 0, .v (.int .u32 0), .v (.int .u32 0), vI 0, .v (.bool false), vI 6, vI 0]) ?_
     refine rFx0 (h' := upd _ 1 (some (.box (stL s.pc s.r s.mem 6)))) rfl rfl (rfl) (trivial) ?_
     refine rFx0 (h' := upd _ 2 (some (.box [vU s.pc, vU s.pc, vI 0, .v (.int .u32 0), .v (.int .u32 0), vI 0, .v (.bool false), vI 6, vI 0]))) rfl rfl (rfl) (trivial) ?_
     refine rE 37 ?_
     refine cRet ?_
     exact finTA rfl trivial rfl (by unfold stepP doI; rw [if_pos (by simpa using h1), if_pos (by simpa using h2), if_neg (fun e => by rw [(decE_ne _).2 e] at h3; cases h3), if_pos (by simpa using h4)]; rfl)
    ·skip
     refine cSeq ?_
     refine cR ?_
     refine rO 52 (.v (.bool (((insOf prog s).op) == 48))) ?_
     refine rO 51 (.v (.bool (((insOf prog s).op) == 48))) ?_
     refine rE 33 ?_
     refine cCond (v := ((insOf prog s).op) == 48) rfl (fun h5 => ?_) (fun h5 => ?_)
     ·skip
      refine cSeq ?_
      refine cR ?_
      refine rO 53 (.agg (stL s.pc s.r s.mem s.halt)) ?_
      refine rCall (args := [.agg (stL s.pc s.r s.mem s.halt), vI 7]) (d := 54) (x := .tup [.agg (stL s.pc s.r s.mem 7), .agg [vU s.pc, vU s.pc, vI 0, .v (.int .u32 0), .v (.int .u32 0), vI 0, .v (.bool false), vI 7, vI 0]]) rfl rfl rfl rfl (.inl rfl) rfl (dHalt s (7) hs) ?_
      refine rO 55 (.agg (stL s.pc s.r s.mem 7)) ?_
      refine rO 56 (.agg [vU s.pc, vU s.pc, vI 0, .v (.int .u32 0), .v (.int .u32 0), vI 0, .v (.bool false), vI 7, vI 0]) ?_
      refine rFx0 (h' := upd _ 1 (some (.box (stL s.pc s.r s.mem 7)))) rfl rfl (rfl) (trivial) ?_
      refine rFx0 (h' := upd _ 2 (some (.box [vU s.pc, vU s.pc, vI 0, .v (.int .u32 0), .v (.int .u32 0), vI 0, .v (.bool false), vI 7, vI 0]))) rfl rfl (rfl) (trivial) ?_
      refine rE 39 ?_
      refine cRet ?_
      exact finTA rfl trivial rfl (by unfold stepP doI; rw [if_pos (by simpa using h1), if_pos (by simpa using h2), if_neg (fun e => by rw [(decE_ne _).2 e] at h3; cases h3), if_neg (by simpa using h4), if_pos (by simpa using h5)]; rfl)
     ·skip
      refine cSkip ?_
      refine cSeq ?_
      refine cR ?_
      refine rO 58 (.agg [vI ((insOf prog s).op), vI ((insOf prog s).rd), vI ((insOf prog s).rs1), vI ((insOf prog s).rs2), vU ((insOf prog s).imm)]) ?_
      refine rCall (args := [.agg [vI ((insOf prog s).op), vI ((insOf prog s).rd), vI ((insOf prog s).rs1), vI ((insOf prog s).rs2), vU ((insOf prog s).imm)]]) (d := 59) (x := .tup [vI ((insOf prog s).rs1), vI ((insOf prog s).rs2)]) rfl rfl rfl rfl (.inl rfl) rfl (dReads (insOf prog s)) ?_
      refine rO 57 (.tup [vI ((insOf prog s).rs1), vI ((insOf prog s).rs2)]) ?_
      refine rO 60 (vI ((insOf prog s).rs1)) ?_
      refine rO 61 (vI ((insOf prog s).rs2)) ?_
      refine rO 10 (vI ((insOf prog s).rs1)) ?_
      refine rO 11 (vI ((insOf prog s).rs2)) ?_
      refine rE 40 ?_
      refine cSeq ?_
      refine cR ?_
      refine rO 62 (vI ((insOf prog s).rs1)) ?_
      refine rO 63 (.ptr 0 1) ?_
      refine rNeed (d := 64) (x := .ptr 0 (1 + ((insOf prog s).rs1).toNat * 1)) rfl rfl rfl (by omega) ?_
      refine rOk (d := 65) (x := vU (s.r (((insOf prog s).rs1).toNat))) rfl rfl (ldR s.pc s.r s.mem s.halt (((insOf prog s).rs1).toNat) (by omega)) ?_
      refine rO 66 (vI ((insOf prog s).rs2)) ?_
      refine rO 67 (.ptr 0 1) ?_
      refine rNeed (d := 68) (x := .ptr 0 (1 + ((insOf prog s).rs2).toNat * 1)) rfl rfl rfl (by omega) ?_
      refine rOk (d := 69) (x := vU (s.r (((insOf prog s).rs2).toNat))) rfl rfl (ldR s.pc s.r s.mem s.halt (((insOf prog s).rs2).toNat) (by omega)) ?_
      refine rO 12 (vU (s.r (((insOf prog s).rs1).toNat))) ?_
      refine rO 13 (vU (s.r (((insOf prog s).rs2).toNat))) ?_
      refine rE 50 ?_
      refine cSeq ?_
      refine cSeq ?_
      refine cR ?_
      refine rO 70 (.agg [vI ((insOf prog s).op), vI ((insOf prog s).rd), vI ((insOf prog s).rs1), vI ((insOf prog s).rs2), vU ((insOf prog s).imm)]) ?_
      refine rCall (args := [.agg [vI ((insOf prog s).op), vI ((insOf prog s).rd), vI ((insOf prog s).rs1), vI ((insOf prog s).rs2), vU ((insOf prog s).imm)]]) (d := 71) (x := vN (kindOf (insOf prog s).op)) rfl rfl rfl rfl (.inl rfl) rfl (dKind (insOf prog s)) ?_
      refine rE 52 ?_
      refine cBlock ?_
      refine cSeq ?_
      refine cSeq ?_
      refine cR ?_
      refine rOk (d := 73) (x := .v (.bool ((kindOf (insOf prog s).op) == 3))) rfl rfl (okB (eqN _ _)) ?_
      refine rO 72 (.v (.bool ((kindOf (insOf prog s).op) == 3))) ?_
      refine rE 54 ?_
      refine cCond (v := (kindOf (insOf prog s).op) == 3) rfl (fun h6 => ?_) (fun h6 => ?_)
      ·skip
       refine cSkip ?_
       refine cCond (v := (kindOf (insOf prog s).op) == 3) rfl (fun _ => ?_) (fun h7 => Bool.noConfusion (h6.symm.trans h7))
       refine cSeq ?_
       refine cR ?_
       refine rO 75 (.agg (stL s.pc s.r s.mem s.halt)) ?_
       refine rO 76 (.agg [vI ((insOf prog s).op), vI ((insOf prog s).rd), vI ((insOf prog s).rs1), vI ((insOf prog s).rs2), vU ((insOf prog s).imm)]) ?_
       refine rO 77 (vU (s.r (((insOf prog s).rs1).toNat))) ?_
       refine rO 78 (vU (s.r (((insOf prog s).rs2).toNat))) ?_
       refine rCall (args := [.agg (stL s.pc s.r s.mem s.halt), .agg [vI ((insOf prog s).op), vI ((insOf prog s).rd), vI ((insOf prog s).rs1), vI ((insOf prog s).rs2), vU ((insOf prog s).imm)], vU (s.r (((insOf prog s).rs1).toNat)), vU (s.r (((insOf prog s).rs2).toNat))]) (d := 79) (x := .tup [.agg (stL (((accessP s (insOf prog s) (s.r (insOf prog s).rs1.toNat) (s.r (insOf prog s).rs2.toNat)).1).pc) (((accessP s (insOf prog s) (s.r (insOf prog s).rs1.toNat) (s.r (insOf prog s).rs2.toNat)).1).r) (((accessP s (insOf prog s) (s.r (insOf prog s).rs1.toNat) (s.r (insOf prog s).rs2.toNat)).1).mem) (((accessP s (insOf prog s) (s.r (insOf prog s).rs1.toNat) (s.r (insOf prog s).rs2.toNat)).1).halt)), .agg [vU (((accessP s (insOf prog s) (s.r (insOf prog s).rs1.toNat) (s.r (insOf prog s).rs2.toNat)).2).pc), vU (((accessP s (insOf prog s) (s.r (insOf prog s).rs1.toNat) (s.r (insOf prog s).rs2.toNat)).2).next), vI (((accessP s (insOf prog s) (s.r (insOf prog s).rs1.toNat) (s.r (insOf prog s).rs2.toNat)).2).rd), vU (((accessP s (insOf prog s) (s.r (insOf prog s).rs1.toNat) (s.r (insOf prog s).rs2.toNat)).2).value), vU (((accessP s (insOf prog s) (s.r (insOf prog s).rs1.toNat) (s.r (insOf prog s).rs2.toNat)).2).addr), vI (((accessP s (insOf prog s) (s.r (insOf prog s).rs1.toNat) (s.r (insOf prog s).rs2.toNat)).2).size), .v (.bool (((accessP s (insOf prog s) (s.r (insOf prog s).rs1.toNat) (s.r (insOf prog s).rs2.toNat)).2).store)), vI (((accessP s (insOf prog s) (s.r (insOf prog s).rs1.toNat) (s.r (insOf prog s).rs2.toNat)).2).halt), vI (((accessP s (insOf prog s) (s.r (insOf prog s).rs1.toNat) (s.r (insOf prog s).rs2.toNat)).2).took)]]) rfl rfl rfl rfl (.inl rfl) rfl (dAccess s (insOf prog s) (s.r (insOf prog s).rs1.toNat) (s.r (insOf prog s).rs2.toNat) hs hd.2.2.2.2.2.2 (hs.r _) (hs.r _) hv.1 hv.2) ?_
       refine rO 80 (.agg (stL (((accessP s (insOf prog s) (s.r (insOf prog s).rs1.toNat) (s.r (insOf prog s).rs2.toNat)).1).pc) (((accessP s (insOf prog s) (s.r (insOf prog s).rs1.toNat) (s.r (insOf prog s).rs2.toNat)).1).r) (((accessP s (insOf prog s) (s.r (insOf prog s).rs1.toNat) (s.r (insOf prog s).rs2.toNat)).1).mem) (((accessP s (insOf prog s) (s.r (insOf prog s).rs1.toNat) (s.r (insOf prog s).rs2.toNat)).1).halt))) ?_
       refine rO 81 (.agg [vU (((accessP s (insOf prog s) (s.r (insOf prog s).rs1.toNat) (s.r (insOf prog s).rs2.toNat)).2).pc), vU (((accessP s (insOf prog s) (s.r (insOf prog s).rs1.toNat) (s.r (insOf prog s).rs2.toNat)).2).next), vI (((accessP s (insOf prog s) (s.r (insOf prog s).rs1.toNat) (s.r (insOf prog s).rs2.toNat)).2).rd), vU (((accessP s (insOf prog s) (s.r (insOf prog s).rs1.toNat) (s.r (insOf prog s).rs2.toNat)).2).value), vU (((accessP s (insOf prog s) (s.r (insOf prog s).rs1.toNat) (s.r (insOf prog s).rs2.toNat)).2).addr), vI (((accessP s (insOf prog s) (s.r (insOf prog s).rs1.toNat) (s.r (insOf prog s).rs2.toNat)).2).size), .v (.bool (((accessP s (insOf prog s) (s.r (insOf prog s).rs1.toNat) (s.r (insOf prog s).rs2.toNat)).2).store)), vI (((accessP s (insOf prog s) (s.r (insOf prog s).rs1.toNat) (s.r (insOf prog s).rs2.toNat)).2).halt), vI (((accessP s (insOf prog s) (s.r (insOf prog s).rs1.toNat) (s.r (insOf prog s).rs2.toNat)).2).took)]) ?_
       refine rFx0 (h' := upd _ 1 (some (.box (stL (((accessP s (insOf prog s) (s.r (insOf prog s).rs1.toNat) (s.r (insOf prog s).rs2.toNat)).1).pc) (((accessP s (insOf prog s) (s.r (insOf prog s).rs1.toNat) (s.r (insOf prog s).rs2.toNat)).1).r) (((accessP s (insOf prog s) (s.r (insOf prog s).rs1.toNat) (s.r (insOf prog s).rs2.toNat)).1).mem) (((accessP s (insOf prog s) (s.r (insOf prog s).rs1.toNat) (s.r (insOf prog s).rs2.toNat)).1).halt))))) rfl rfl (rfl) (trivial) ?_
       refine rFx0 (h' := upd _ 2 (some (.box [vU (((accessP s (insOf prog s) (s.r (insOf prog s).rs1.toNat) (s.r (insOf prog s).rs2.toNat)).2).pc), vU (((accessP s (insOf prog s) (s.r (insOf prog s).rs1.toNat) (s.r (insOf prog s).rs2.toNat)).2).next), vI (((accessP s (insOf prog s) (s.r (insOf prog s).rs1.toNat) (s.r (insOf prog s).rs2.toNat)).2).rd), vU (((accessP s (insOf prog s) (s.r (insOf prog s).rs1.toNat) (s.r (insOf prog s).rs2.toNat)).2).value), vU (((accessP s (insOf prog s) (s.r (insOf prog s).rs1.toNat) (s.r (insOf prog s).rs2.toNat)).2).addr), vI (((accessP s (insOf prog s) (s.r (insOf prog s).rs1.toNat) (s.r (insOf prog s).rs2.toNat)).2).size), .v (.bool (((accessP s (insOf prog s) (s.r (insOf prog s).rs1.toNat) (s.r (insOf prog s).rs2.toNat)).2).store)), vI (((accessP s (insOf prog s) (s.r (insOf prog s).rs1.toNat) (s.r (insOf prog s).rs2.toNat)).2).halt), vI (((accessP s (insOf prog s) (s.r (insOf prog s).rs1.toNat) (s.r (insOf prog s).rs2.toNat)).2).took)]))) rfl rfl (rfl) (trivial) ?_
       refine rE 63 ?_
       refine cRet ?_
       exact finTA rfl trivial rfl (by unfold stepP doI; rw [if_pos (by simpa using h1), if_pos (by simpa using h2), if_neg (fun e => by rw [(decE_ne _).2 e] at h3; cases h3), if_neg (by simpa using h4), if_neg (by simpa using h5), if_pos (by simp at h6; first | exact .inl h6 | exact .inr h6)]; rfl)
      ·skip
       refine cR ?_
       refine rOk (d := 74) (x := .v (.bool ((kindOf (insOf prog s).op) == 4))) rfl rfl (okB (eqN _ _)) ?_
       refine rO 72 (.v (.bool ((kindOf (insOf prog s).op) == 4))) ?_
       refine rE 56 ?_
       refine cCond (v := (kindOf (insOf prog s).op) == 4) rfl (fun h8 => ?_) (fun h8 => ?_)
       ·skip
        refine cSeq ?_
        refine cR ?_
        refine rO 75 (.agg (stL s.pc s.r s.mem s.halt)) ?_
        refine rO 76 (.agg [vI ((insOf prog s).op), vI ((insOf prog s).rd), vI ((insOf prog s).rs1), vI ((insOf prog s).rs2), vU ((insOf prog s).imm)]) ?_
        refine rO 77 (vU (s.r (((insOf prog s).rs1).toNat))) ?_
        refine rO 78 (vU (s.r (((insOf prog s).rs2).toNat))) ?_
        refine rCall (args := [.agg (stL s.pc s.r s.mem s.halt), .agg [vI ((insOf prog s).op), vI ((insOf prog s).rd), vI ((insOf prog s).rs1), vI ((insOf prog s).rs2), vU ((insOf prog s).imm)], vU (s.r (((insOf prog s).rs1).toNat)), vU (s.r (((insOf prog s).rs2).toNat))]) (d := 79) (x := .tup [.agg (stL (((accessP s (insOf prog s) (s.r (insOf prog s).rs1.toNat) (s.r (insOf prog s).rs2.toNat)).1).pc) (((accessP s (insOf prog s) (s.r (insOf prog s).rs1.toNat) (s.r (insOf prog s).rs2.toNat)).1).r) (((accessP s (insOf prog s) (s.r (insOf prog s).rs1.toNat) (s.r (insOf prog s).rs2.toNat)).1).mem) (((accessP s (insOf prog s) (s.r (insOf prog s).rs1.toNat) (s.r (insOf prog s).rs2.toNat)).1).halt)), .agg [vU (((accessP s (insOf prog s) (s.r (insOf prog s).rs1.toNat) (s.r (insOf prog s).rs2.toNat)).2).pc), vU (((accessP s (insOf prog s) (s.r (insOf prog s).rs1.toNat) (s.r (insOf prog s).rs2.toNat)).2).next), vI (((accessP s (insOf prog s) (s.r (insOf prog s).rs1.toNat) (s.r (insOf prog s).rs2.toNat)).2).rd), vU (((accessP s (insOf prog s) (s.r (insOf prog s).rs1.toNat) (s.r (insOf prog s).rs2.toNat)).2).value), vU (((accessP s (insOf prog s) (s.r (insOf prog s).rs1.toNat) (s.r (insOf prog s).rs2.toNat)).2).addr), vI (((accessP s (insOf prog s) (s.r (insOf prog s).rs1.toNat) (s.r (insOf prog s).rs2.toNat)).2).size), .v (.bool (((accessP s (insOf prog s) (s.r (insOf prog s).rs1.toNat) (s.r (insOf prog s).rs2.toNat)).2).store)), vI (((accessP s (insOf prog s) (s.r (insOf prog s).rs1.toNat) (s.r (insOf prog s).rs2.toNat)).2).halt), vI (((accessP s (insOf prog s) (s.r (insOf prog s).rs1.toNat) (s.r (insOf prog s).rs2.toNat)).2).took)]]) rfl rfl rfl rfl (.inl rfl) rfl (dAccess s (insOf prog s) (s.r (insOf prog s).rs1.toNat) (s.r (insOf prog s).rs2.toNat) hs hd.2.2.2.2.2.2 (hs.r _) (hs.r _) hv.1 hv.2) ?_
        refine rO 80 (.agg (stL (((accessP s (insOf prog s) (s.r (insOf prog s).rs1.toNat) (s.r (insOf prog s).rs2.toNat)).1).pc) (((accessP s (insOf prog s) (s.r (insOf prog s).rs1.toNat) (s.r (insOf prog s).rs2.toNat)).1).r) (((accessP s (insOf prog s) (s.r (insOf prog s).rs1.toNat) (s.r (insOf prog s).rs2.toNat)).1).mem) (((accessP s (insOf prog s) (s.r (insOf prog s).rs1.toNat) (s.r (insOf prog s).rs2.toNat)).1).halt))) ?_
        refine rO 81 (.agg [vU (((accessP s (insOf prog s) (s.r (insOf prog s).rs1.toNat) (s.r (insOf prog s).rs2.toNat)).2).pc), vU (((accessP s (insOf prog s) (s.r (insOf prog s).rs1.toNat) (s.r (insOf prog s).rs2.toNat)).2).next), vI (((accessP s (insOf prog s) (s.r (insOf prog s).rs1.toNat) (s.r (insOf prog s).rs2.toNat)).2).rd), vU (((accessP s (insOf prog s) (s.r (insOf prog s).rs1.toNat) (s.r (insOf prog s).rs2.toNat)).2).value), vU (((accessP s (insOf prog s) (s.r (insOf prog s).rs1.toNat) (s.r (insOf prog s).rs2.toNat)).2).addr), vI (((accessP s (insOf prog s) (s.r (insOf prog s).rs1.toNat) (s.r (insOf prog s).rs2.toNat)).2).size), .v (.bool (((accessP s (insOf prog s) (s.r (insOf prog s).rs1.toNat) (s.r (insOf prog s).rs2.toNat)).2).store)), vI (((accessP s (insOf prog s) (s.r (insOf prog s).rs1.toNat) (s.r (insOf prog s).rs2.toNat)).2).halt), vI (((accessP s (insOf prog s) (s.r (insOf prog s).rs1.toNat) (s.r (insOf prog s).rs2.toNat)).2).took)]) ?_
        refine rFx0 (h' := upd _ 1 (some (.box (stL (((accessP s (insOf prog s) (s.r (insOf prog s).rs1.toNat) (s.r (insOf prog s).rs2.toNat)).1).pc) (((accessP s (insOf prog s) (s.r (insOf prog s).rs1.toNat) (s.r (insOf prog s).rs2.toNat)).1).r) (((accessP s (insOf prog s) (s.r (insOf prog s).rs1.toNat) (s.r (insOf prog s).rs2.toNat)).1).mem) (((accessP s (insOf prog s) (s.r (insOf prog s).rs1.toNat) (s.r (insOf prog s).rs2.toNat)).1).halt))))) rfl rfl (rfl) (trivial) ?_
        refine rFx0 (h' := upd _ 2 (some (.box [vU (((accessP s (insOf prog s) (s.r (insOf prog s).rs1.toNat) (s.r (insOf prog s).rs2.toNat)).2).pc), vU (((accessP s (insOf prog s) (s.r (insOf prog s).rs1.toNat) (s.r (insOf prog s).rs2.toNat)).2).next), vI (((accessP s (insOf prog s) (s.r (insOf prog s).rs1.toNat) (s.r (insOf prog s).rs2.toNat)).2).rd), vU (((accessP s (insOf prog s) (s.r (insOf prog s).rs1.toNat) (s.r (insOf prog s).rs2.toNat)).2).value), vU (((accessP s (insOf prog s) (s.r (insOf prog s).rs1.toNat) (s.r (insOf prog s).rs2.toNat)).2).addr), vI (((accessP s (insOf prog s) (s.r (insOf prog s).rs1.toNat) (s.r (insOf prog s).rs2.toNat)).2).size), .v (.bool (((accessP s (insOf prog s) (s.r (insOf prog s).rs1.toNat) (s.r (insOf prog s).rs2.toNat)).2).store)), vI (((accessP s (insOf prog s) (s.r (insOf prog s).rs1.toNat) (s.r (insOf prog s).rs2.toNat)).2).halt), vI (((accessP s (insOf prog s) (s.r (insOf prog s).rs1.toNat) (s.r (insOf prog s).rs2.toNat)).2).took)]))) rfl rfl (rfl) (trivial) ?_
        refine rE 65 ?_
        refine cRet ?_
        exact finTA rfl trivial rfl (by unfold stepP doI; rw [if_pos (by simpa using h1), if_pos (by simpa using h2), if_neg (fun e => by rw [(decE_ne _).2 e] at h3; cases h3), if_neg (by simpa using h4), if_neg (by simpa using h5), if_pos (by simp at h8; first | exact .inl h8 | exact .inr h8)]; rfl)
       ·skip
        refine cSkip ?_
        refine cSeq ?_
        refine cR ?_
        refine rO 82 (.agg (stL s.pc s.r s.mem s.halt)) ?_
        refine rO 83 (.agg [vI ((insOf prog s).op), vI ((insOf prog s).rd), vI ((insOf prog s).rs1), vI ((insOf prog s).rs2), vU ((insOf prog s).imm)]) ?_
        refine rO 84 (vU (s.r (((insOf prog s).rs1).toNat))) ?_
        refine rO 85 (vU (s.r (((insOf prog s).rs2).toNat))) ?_
        refine rCall (args := [.agg (stL s.pc s.r s.mem s.halt), .agg [vI ((insOf prog s).op), vI ((insOf prog s).rd), vI ((insOf prog s).rs1), vI ((insOf prog s).rs2), vU ((insOf prog s).imm)], vU (s.r (((insOf prog s).rs1).toNat)), vU (s.r (((insOf prog s).rs2).toNat))]) (d := 86) (x := .tup [.agg (stL (((reckonP s (insOf prog s) (s.r (insOf prog s).rs1.toNat) (s.r (insOf prog s).rs2.toNat)).1).pc) (((reckonP s (insOf prog s) (s.r (insOf prog s).rs1.toNat) (s.r (insOf prog s).rs2.toNat)).1).r) (((reckonP s (insOf prog s) (s.r (insOf prog s).rs1.toNat) (s.r (insOf prog s).rs2.toNat)).1).mem) (((reckonP s (insOf prog s) (s.r (insOf prog s).rs1.toNat) (s.r (insOf prog s).rs2.toNat)).1).halt)), .agg [vU (((reckonP s (insOf prog s) (s.r (insOf prog s).rs1.toNat) (s.r (insOf prog s).rs2.toNat)).2).pc), vU (((reckonP s (insOf prog s) (s.r (insOf prog s).rs1.toNat) (s.r (insOf prog s).rs2.toNat)).2).next), vI (((reckonP s (insOf prog s) (s.r (insOf prog s).rs1.toNat) (s.r (insOf prog s).rs2.toNat)).2).rd), vU (((reckonP s (insOf prog s) (s.r (insOf prog s).rs1.toNat) (s.r (insOf prog s).rs2.toNat)).2).value), vU (((reckonP s (insOf prog s) (s.r (insOf prog s).rs1.toNat) (s.r (insOf prog s).rs2.toNat)).2).addr), vI (((reckonP s (insOf prog s) (s.r (insOf prog s).rs1.toNat) (s.r (insOf prog s).rs2.toNat)).2).size), .v (.bool (((reckonP s (insOf prog s) (s.r (insOf prog s).rs1.toNat) (s.r (insOf prog s).rs2.toNat)).2).store)), vI (((reckonP s (insOf prog s) (s.r (insOf prog s).rs1.toNat) (s.r (insOf prog s).rs2.toNat)).2).halt), vI (((reckonP s (insOf prog s) (s.r (insOf prog s).rs1.toNat) (s.r (insOf prog s).rs2.toNat)).2).took)]]) rfl rfl rfl rfl (.inl rfl) rfl (dReckon s (insOf prog s) (s.r (insOf prog s).rs1.toNat) (s.r (insOf prog s).rs2.toNat) hs hd.2.2.2.2.2.2 (hs.r _) (hs.r _) hv.1 hv.2) ?_
        refine rO 87 (.agg (stL (((reckonP s (insOf prog s) (s.r (insOf prog s).rs1.toNat) (s.r (insOf prog s).rs2.toNat)).1).pc) (((reckonP s (insOf prog s) (s.r (insOf prog s).rs1.toNat) (s.r (insOf prog s).rs2.toNat)).1).r) (((reckonP s (insOf prog s) (s.r (insOf prog s).rs1.toNat) (s.r (insOf prog s).rs2.toNat)).1).mem) (((reckonP s (insOf prog s) (s.r (insOf prog s).rs1.toNat) (s.r (insOf prog s).rs2.toNat)).1).halt))) ?_
        refine rO 88 (.agg [vU (((reckonP s (insOf prog s) (s.r (insOf prog s).rs1.toNat) (s.r (insOf prog s).rs2.toNat)).2).pc), vU (((reckonP s (insOf prog s) (s.r (insOf prog s).rs1.toNat) (s.r (insOf prog s).rs2.toNat)).2).next), vI (((reckonP s (insOf prog s) (s.r (insOf prog s).rs1.toNat) (s.r (insOf prog s).rs2.toNat)).2).rd), vU (((reckonP s (insOf prog s) (s.r (insOf prog s).rs1.toNat) (s.r (insOf prog s).rs2.toNat)).2).value), vU (((reckonP s (insOf prog s) (s.r (insOf prog s).rs1.toNat) (s.r (insOf prog s).rs2.toNat)).2).addr), vI (((reckonP s (insOf prog s) (s.r (insOf prog s).rs1.toNat) (s.r (insOf prog s).rs2.toNat)).2).size), .v (.bool (((reckonP s (insOf prog s) (s.r (insOf prog s).rs1.toNat) (s.r (insOf prog s).rs2.toNat)).2).store)), vI (((reckonP s (insOf prog s) (s.r (insOf prog s).rs1.toNat) (s.r (insOf prog s).rs2.toNat)).2).halt), vI (((reckonP s (insOf prog s) (s.r (insOf prog s).rs1.toNat) (s.r (insOf prog s).rs2.toNat)).2).took)]) ?_
        refine rFx0 (h' := upd _ 1 (some (.box (stL (((reckonP s (insOf prog s) (s.r (insOf prog s).rs1.toNat) (s.r (insOf prog s).rs2.toNat)).1).pc) (((reckonP s (insOf prog s) (s.r (insOf prog s).rs1.toNat) (s.r (insOf prog s).rs2.toNat)).1).r) (((reckonP s (insOf prog s) (s.r (insOf prog s).rs1.toNat) (s.r (insOf prog s).rs2.toNat)).1).mem) (((reckonP s (insOf prog s) (s.r (insOf prog s).rs1.toNat) (s.r (insOf prog s).rs2.toNat)).1).halt))))) rfl rfl (rfl) (trivial) ?_
        refine rFx0 (h' := upd _ 2 (some (.box [vU (((reckonP s (insOf prog s) (s.r (insOf prog s).rs1.toNat) (s.r (insOf prog s).rs2.toNat)).2).pc), vU (((reckonP s (insOf prog s) (s.r (insOf prog s).rs1.toNat) (s.r (insOf prog s).rs2.toNat)).2).next), vI (((reckonP s (insOf prog s) (s.r (insOf prog s).rs1.toNat) (s.r (insOf prog s).rs2.toNat)).2).rd), vU (((reckonP s (insOf prog s) (s.r (insOf prog s).rs1.toNat) (s.r (insOf prog s).rs2.toNat)).2).value), vU (((reckonP s (insOf prog s) (s.r (insOf prog s).rs1.toNat) (s.r (insOf prog s).rs2.toNat)).2).addr), vI (((reckonP s (insOf prog s) (s.r (insOf prog s).rs1.toNat) (s.r (insOf prog s).rs2.toNat)).2).size), .v (.bool (((reckonP s (insOf prog s) (s.r (insOf prog s).rs1.toNat) (s.r (insOf prog s).rs2.toNat)).2).store)), vI (((reckonP s (insOf prog s) (s.r (insOf prog s).rs1.toNat) (s.r (insOf prog s).rs2.toNat)).2).halt), vI (((reckonP s (insOf prog s) (s.r (insOf prog s).rs1.toNat) (s.r (insOf prog s).rs2.toNat)).2).took)]))) rfl rfl (rfl) (trivial) ?_
        refine rE 65 ?_
        refine cRet ?_
        exact finTA rfl trivial rfl (by unfold stepP doI; rw [if_pos (by simpa using h1), if_pos (by simpa using h2), if_neg (fun e => by rw [(decE_ne _).2 e] at h3; cases h3), if_neg (by simpa using h4), if_neg (by simpa using h5), if_neg (by simp at h6 h8; omega)]; rfl)
end Go.Proofs.YtahnhhbgkmlfcaaDoor
