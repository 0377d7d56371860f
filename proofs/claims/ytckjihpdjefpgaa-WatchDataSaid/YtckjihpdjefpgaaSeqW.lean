
/- Package seq: walks on the second machine. -/
import Derived.Test.YtckjihpdjefpgaaSeqM
namespace Go.Proofs.Ytckjihpdjefpgaa
open Go.RowKit

abbrev rowU (n : Nat) : List AV := [.v (.int .u32 (n : Int))]
theorem bytesOfRows_map : ∀ (l : List UInt8), bytesOfRows (l.map fun b => [.v (.int .u8 (b.toNat : Int))]) = some l
  | [] => rfl
  | b :: l => by
    simp only [List.map_cons, bytesOfRows, bytesOfRows_map l]
    simp
theorem finTA {C : Ctx} {fn : Func} {r : AV} {st : ASt} {rs : List AV} (h1 : resA C st fn.results.toList = some rs) (h2 : lenOkA st.h (retA rs)) (h3 : closedA (datA st.h (retA rs)) = true) (h4 : datA st.h (retA rs) = r) : RetA C fn r st := retA_eq h1 h2 h3 h4

theorem fetch_at {prog : List Nat} {pc : Nat} (h1 : pc % 4 = 0) (h2 : pc / 4 < prog.length) : ∃ x, fetchP prog pc = some x ∧ prog[((pc / 4 : Nat) : Int).toNat]? = some x := by
  refine ⟨prog[pc / 4], ?_, ?_⟩
  · unfold fetchP; rw [if_pos h1, List.getElem?_eq_getElem h2]
  · rw [Int.toNat_natCast, List.getElem?_eq_getElem h2]
theorem fetch_no {prog : List Nat} {pc : Nat} (h : pc % 4 ≠ 0 ∨ prog.length ≤ pc / 4) : fetchP prog pc = none := by
  unfold fetchP
  split
  · exact List.getElem?_eq_none (by omega)
  · rfl
theorem fetchW_le {prog : List Nat} (hp : ∀ x ∈ prog, x ≤ 4294967295) (pc : Nat) : fetchW prog pc ≤ 4294967295 := by
  unfold fetchW fetchP
  split
  · cases h : prog[pc / 4]? with
    | none => exact Nat.zero_le _
    | some x => exact hp x (List.mem_of_getElem? h)
  · exact Nat.zero_le _
theorem addr_le (i : SI) (a : Nat) : addrOf i a ≤ 4294967295 := by unfold addrOf; omega
theorem up4_le (a : Nat) : up4 a ≤ 4294967295 := by unfold up4; omega
theorem readP_lt {m : ByteArray} (h : m.size ≤ 256) (a n : Nat) : (readP m a n).size < 9223372036854775808 := by
  unfold readP; rw [ByteArray.size_extract]; omega
theorem decE_ne (x : Nat) : (decE x != 0) = true ↔ opOf x = 0 := by
  unfold decE
  split <;> simp_all
theorem len_u64 {n : Nat} (h : n ≤ 2000000) : IntKind.wrap .u64 (((n : Nat) : Int)) = ((n : Nat) : Int) := by
  simp only [IntKind.wrap, IntKind.signed, IntKind.bits]
  simp
  omega
theorem right_le {size : Nat} {addr : Nat} {n : Nat} (h : rightP (size : Int) addr (n : Int) = true) : addr + n ≤ size ∧ 0 < n ∧ n ≤ 4 := by
  simp only [rightP, Bool.and_eq_true, decide_eq_true_eq] at h
  omega
theorem rows_len (m : ByteArray) : (rowsOfBytes m).length = m.size := by simp [rowsOfBytes]
theorem write_rows (m b : ByteArray) (addr : Nat) (h : addr + b.size ≤ m.size) (h' : addr ≤ m.size) :
    bytesOfRows (((((((List.take addr (List.drop 0 (rowsOfBytes m))) ++ rowsOfBytes b).drop 0).take ((List.take addr (List.drop 0 (rowsOfBytes m))).length + (rowsOfBytes b).length)) ++ ((rowsOfBytes m).drop (0 + (addr + b.size))).take (((m.size : Int) - ((addr + b.size : Nat) : Int)).toNat)).drop 0).take
      ((((((List.take addr (List.drop 0 (rowsOfBytes m))) ++ rowsOfBytes b).drop 0).take ((List.take addr (List.drop 0 (rowsOfBytes m))).length + (rowsOfBytes b).length))).length + (((rowsOfBytes m).drop (0 + (addr + b.size))).take (((m.size : Int) - ((addr + b.size : Nat) : Int)).toNat)).length)) = some (m.data.toList.take addr ++ b.data.toList ++ m.data.toList.drop (addr + b.size)) := by
  simp only [List.drop_zero, Nat.zero_add]
  rw [← List.length_append, List.take_length, ← List.length_append, List.take_length]
  have e : (((m.size : Int) - ((addr + b.size : Nat) : Int)).toNat) = ((rowsOfBytes m).drop (addr + b.size)).length := by
    rw [List.length_drop, rows_len]; omega
  rw [e, List.take_length]
  simp only [rowsOfBytes]
  rw [← List.map_take, ← List.map_drop, ← List.map_append, ← List.map_append]
  exact bytesOfRows_map _
def upS (n : Nat) : Nat := if n ≤ 16 then 16 else if n ≤ 32 then 32 else if n ≤ 64 then 64 else if n ≤ 128 then 128 else 256
def cleanP (m : ByteArray) : ByteArray := ⟨((m.extract 0 (min m.size 256)).data.toList ++ List.replicate (upS (min m.size 256) - min m.size 256) 0).toArray⟩
theorem cut_size (m : ByteArray) : (m.extract 0 (min m.size 256)).size = min m.size 256 := by rw [ByteArray.size_extract]; omega
theorem cleanP_size (m : ByteArray) : (cleanP m).size = upS (min m.size 256) := by
  have h := cut_size m
  have h1 : (m.extract 0 (min m.size 256)).data.size = min m.size 256 := h
  show (cleanP m).data.size = _
  simp only [cleanP, List.size_toArray, List.length_append, Array.length_toList, List.length_replicate, h1]
  unfold upS
  repeat' (split <;> try omega)
theorem upS_le (n : Nat) : upS n ≤ 256 := by unfold upS; repeat' (split <;> try omega)
theorem upS_is {n j : Nat} (h4 : j ≤ 4) (h1 : n ≤ 16 * 2 ^ j) (h2 : j = 0 ∨ 16 * 2 ^ (j - 1) < n) : 16 * 2 ^ j = upS n := by
  have : j = 0 ∨ j = 1 ∨ j = 2 ∨ j = 3 ∨ j = 4 := by omega
  unfold upS
  rcases this with rfl | rfl | rfl | rfl | rfl <;> simp at h1 h2 ⊢ <;> repeat' (split <;> try omega)
theorem clean_lt {j n : Nat} (h4 : j ≤ 4) (h : 16 * 2 ^ j < min n 256) : j < 4 := by
  have : j = 0 ∨ j = 1 ∨ j = 2 ∨ j = 3 ∨ j = 4 := by omega
  rcases this with rfl | rfl | rfl | rfl | rfl <;> simp at h ⊢ <;> omega
theorem clean_rows (m : ByteArray) (s : Nat) (h : m.size ≤ s) : bytesOfRows (List.take s (List.drop 0 (List.take 0 (List.replicate s [AV.v (.int .u8 0)]) ++ List.take (min (rowsOfBytes m).length s) (rowsOfBytes m) ++ List.drop (0 + min (rowsOfBytes m).length s) (List.replicate s [AV.v (.int .u8 0)])))) = some (m.data.toList ++ List.replicate (s - m.size) 0) := by
  have q := rows_len m
  simp only [List.take_zero, List.nil_append, List.drop_zero, Nat.zero_add, q, Nat.min_eq_left h]
  have e1 : List.take m.size (rowsOfBytes m) = rowsOfBytes m := List.take_of_length_le (by rw [q]; exact Nat.le_refl _)
  rw [e1, List.drop_replicate, List.take_of_length_le (by simp [q]; omega)]
  have : List.replicate (s - m.size) [AV.v (.int .u8 0)] = (List.replicate (s - m.size) (0 : UInt8)).map fun b => [.v (.int .u8 (b.toNat : Int))] := by simp
  rw [this]
  simp only [rowsOfBytes]
  rw [← List.map_append]
  exact bytesOfRows_map _
set_option maxRecDepth 100000 in
set_option maxHeartbeats 4000000 in
theorem dClean (m : ByteArray) : DCall C0 88 [.v (.string m)] (.v (.string (cleanP m))) := by
  refine DCall.intro c0Ok Try.func88 rfl rfl (by kernel_rfl) rfl ?_
  refine cSeq ?_
  refine cReg rfl ?_
  refine rOk (d := 2) (x := .v (.string (⟨#[]⟩))) rfl rfl rfl ?_
  refine rEnd (n' := 1) rfl ?_
  refine cSeq ?_
  refine cReg rfl ?_
  refine rOk (d := 5) (x := .v (.string m)) rfl rfl rfl ?_
  refine rOk (d := 6) (x := .v (.string m)) rfl rfl rfl ?_
  refine rOk (d := 7) (x := .v (.int .i64 (m.size : Int))) rfl rfl rfl ?_
  refine rOk (d := 8) (x := .v (.int .i64 ((min m.size 256 : Nat) : Int))) rfl rfl (by show Res.ok (.v (.int .i64 (if (256 : Int) < (m.size : Int) then 256 else (m.size : Int)))) = _; congr 3; split <;> omega) ?_
  refine rNeed (d := 9) (x := .v (.string (m.extract 0 (min m.size 256)))) rfl rfl rfl (by refine ⟨?_, ?_, ?_⟩ <;> simp <;> omega) ?_
  refine rOk (d := 0) (x := .v (.string (m.extract 0 (min m.size 256)))) rfl rfl rfl ?_
  refine rEnd (n' := 7) rfl ?_
  refine cSeq ?_
  refine cReg rfl ?_
  refine rOk (d := 3) (x := .v (.int .i64 16)) rfl rfl rfl ?_
  refine rEnd (n' := 8) rfl ?_
  refine cSeq ?_
  refine cBlock ?_
  refine cLoop (κ := Nat) (fun j => ⟨slotsF [(0, .v (.string (m.extract 0 (min m.size 256)))), (3, .v (.int .i64 ((16 * 2 ^ j : Nat) : Int)))], heapF [], 8⟩) (fun j => j ≤ 4 ∧ (j = 0 ∨ 16 * 2 ^ (j - 1) < min m.size 256)) (fun j => 4 - j) 0 (fun s => s) (Weak.of_lists (fun s => s) ⟨⟨rfl, rfl⟩, ⟨rfl, rfl⟩, trivial⟩ trivial rfl) (⟨by decide, .inl rfl⟩) ?_
  intro j hj
  refine cSeq ?_
  refine cSeq ?_
  refine cReg rfl ?_
  refine rOk (d := 10) (x := .v (.int .i64 ((16 * 2 ^ j : Nat) : Int))) rfl rfl rfl ?_
  refine rOk (d := 11) (x := .v (.string (m.extract 0 (min m.size 256)))) rfl rfl rfl ?_
  refine rOk (d := 12) (x := .v (.int .i64 ((min m.size 256 : Nat) : Int))) rfl rfl (congrArg (fun n : Nat => Res.ok (.v (.int .i64 (n : Int)))) (cut_size m)) ?_
  refine rOk (d := 13) (x := .v (.bool (decide ((16 * 2 ^ j) < (min m.size 256))))) rfl rfl (okB (ltN _ _)) ?_
  refine rEnd (n' := 12) rfl ?_
  refine cCond (v := decide ((16 * 2 ^ j) < (min m.size 256))) rfl (fun h1 => ?_) (fun h1 => ?_)
  · skip
    refine cSkip ?_
    refine cBlock ?_
    refine cReg rfl ?_
    refine rOk (d := 14) (x := .v (.int .i64 ((16 * 2 ^ j : Nat) : Int))) rfl rfl rfl ?_
    refine rOk (d := 15) (x := .v (.int .i64 ((16 * 2 ^ (j + 1) : Nat) : Int))) rfl rfl (by show Res.ok (.v (.int .i64 (IntKind.wrap .i64 (((16 * 2 ^ j : Nat) : Int) * 2)))) = _; have p5 := Nat.pow_le_pow_right (n := 2) (by decide) hj.1; rw [wrap_i64 (by omega) (by omega)]; congr 3; rw [Nat.pow_succ]; omega) ?_
    refine rOk (d := 3) (x := .v (.int .i64 ((16 * 2 ^ (j + 1) : Nat) : Int))) rfl rfl rfl ?_
    refine rEnd (n' := 15) rfl ?_
    refine ⟨j + 1, fun s => s, Weak.of_lists (fun s => s) ⟨⟨rfl, rfl⟩, ⟨rfl, rfl⟩, trivial⟩ trivial rfl, ⟨by have := clean_lt hj.1 (of_decide_eq_true h1); omega, .inr (by simpa using of_decide_eq_true h1)⟩, by have := clean_lt hj.1 (of_decide_eq_true h1); show 4 - (j + 1) < 4 - j; omega⟩
  · skip
    refine cExit ?_
    refine cSeq ?_
    refine cReg rfl ?_
    refine rOk (d := 16) (x := .v (.int .i64 ((16 * 2 ^ j : Nat) : Int))) rfl rfl rfl ?_
    refine rFx (d := 17) (x := .osl 13 0 (16 * 2 ^ j) false) (h' := upd _ 13 (some (.arr (List.replicate (16 * 2 ^ j) [AV.v (.int .u8 0)]) 1))) rfl rfl (rfl) (by have p5 := Nat.pow_le_pow_right (n := 2) (by decide) hj.1; refine ⟨by omega, by omega, ?_⟩; simp only [capMax]; omega) ?_
    refine rOk (d := 4) (x := .osl 13 0 (16 * 2 ^ j) false) rfl rfl rfl ?_
    refine rEnd (n' := 15) rfl ?_
    refine cSeq ?_
    refine cReg rfl ?_
    refine rOk (d := 18) (x := .osl 13 0 (16 * 2 ^ j) false) rfl rfl rfl ?_
    refine rOk (d := 19) (x := .v (.string (m.extract 0 (min m.size 256)))) rfl rfl rfl ?_
    refine rFx (d := 20) (x := .v (.int .i64 ((min (rowsOfBytes (m.extract 0 (min m.size 256))).length (16 * 2 ^ j) : Nat) : Int))) (h' := upd _ 13 (some (.arr (List.take 0 (List.replicate (16 * 2 ^ j) [AV.v (.int .u8 0)]) ++ List.take (min (rowsOfBytes (m.extract 0 (min m.size 256))).length (16 * 2 ^ j)) (rowsOfBytes (m.extract 0 (min m.size 256))) ++ List.drop (0 + min (rowsOfBytes (m.extract 0 (min m.size 256))).length (16 * 2 ^ j)) (List.replicate (16 * 2 ^ j) [AV.v (.int .u8 0)])) 1))) rfl rfl (rfl) (⟨by simp, trivial⟩) ?_
    refine rEnd (n' := 18) rfl ?_
    refine cSeq ?_
    refine cReg rfl ?_
    refine rOk (d := 21) (x := .osl 13 0 (16 * 2 ^ j) false) rfl rfl rfl ?_
    refine rStr ((m.extract 0 (min m.size 256)).data.toList ++ List.replicate (upS (min m.size 256) - min m.size 256) 0) (d := 22) rfl rfl rfl (by show 0 + 16 * 2 ^ j ≤ List.length (List.take 0 (List.replicate (16 * 2 ^ j) [AV.v (.int .u8 0)]) ++ List.take (min (rowsOfBytes (m.extract 0 (min m.size 256))).length (16 * 2 ^ j)) (rowsOfBytes (m.extract 0 (min m.size 256))) ++ List.drop (0 + min (rowsOfBytes (m.extract 0 (min m.size 256))).length (16 * 2 ^ j)) (List.replicate (16 * 2 ^ j) [AV.v (.int .u8 0)])); have q := rows_len (m.extract 0 (min m.size 256)); have q2 := cut_size m; have := of_decide_eq_false h1; simp only [List.length_append, List.length_take, List.length_drop, List.length_replicate, q, q2]; omega) (by have e := clean_rows (m.extract 0 (min m.size 256)) (16 * 2 ^ j) (by have := of_decide_eq_false h1; rw [cut_size]; omega); rw [cut_size, upS_is hj.1 (by have := of_decide_eq_false h1; omega) hj.2] at e; rw [upS_is hj.1 (by have := of_decide_eq_false h1; omega) hj.2]; exact e) ?_
    refine rOk (d := 2) (x := .v (.string (cleanP m))) rfl rfl rfl ?_
    refine rEnd (n' := 21) rfl ?_
    refine cRet ?_
    exact retA_eq rfl trivial rfl rfl
end Go.Proofs.Ytckjihpdjefpgaa
