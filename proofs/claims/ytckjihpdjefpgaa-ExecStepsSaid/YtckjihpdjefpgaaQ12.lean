/- The reference: Decode, halted, Step; on the second machine. -/
import Derived.Test.YtckjihpdjefpgaaQ11
import Derived.Test.YtckjihpdjefpgaaRefDec
import Derived.Test.YtckjihpdjefpgaaStays
import Derived.Test.YtckjihpdjefpgaaExec2
import Derived.Test.YtckjihpdjefpgaaOpenE
import Derived.Test.YtckjihpdjefpgaaQ7
import Derived.WideShapes
namespace Go.Proofs.Ytckjihpdjefpgaa
open Go.RowKit

/-- The same machine, with late regions told by places of memory. -/
noncomputable def C1 : Ctx := { C0 with lt := true }
theorem c1Ok : CtxOk C1 := ⟨c0Ok.1, c0Ok.2, c0Ok.3⟩
theorem dc1 {f : FuncId} {args : List AV} {r : AV} (h : DCall C1 f args r) : DCall C0 f args r := h
theorem rDec (x : Nat) (hx : x < 4294967296) : DCall C0 16 [.v (.int .u32 (x : Int))] (.tup [siA (decN x), .v (.int .i64 ((decE x : Nat) : Int))]) := by
 by_cases hk : opOf x = 0
 ·have e1 : decN x = ⟨0, 0, 0, 0, 0⟩ := by unfold decN; rw [if_pos hk]; first | rfl | (unfold noSI; rfl)
  have e2 : decE x = 20 := by unfold decE; rw [if_pos hk]
  rw [e1, e2]
  exact .of_tup Try.func16 rfl rfl rfl rfl fun w => rdec_no x w hx hk
 ·have e2 : decE x = 0 := by unfold decE; rw [if_neg hk]
  rw [e2]
  exact .of_tup Try.func16 rfl rfl rfl rfl fun w => rdec_ok x w hx hk

theorem stR1 {ev : Operand → AV} {h : AH} {s b n v : Nat} {a x : Operand} {pc : Nat} {r : Nat → Nat} {m : ByteArray} {hl : Int} (ha : ev a = .ptr b (1 + n * 1)) (hb : h b = some (.box (stL pc r m hl))) (hx : ev x = .v (.int .u32 (v : Int))) (hn : n < 32) :
  opA C1 ev h s (.store 22 a x) = .fx True .any (upd h b (some (.box (stL pc (setR r n v) m hl)))) := by
 have hty : C1.ty 22 = some ti22 := rfl
 have hc : (1 + n * 1 + ([.v (.int .u32 (v : Int))] : List AV).length).ble (stL pc r m hl).length = true := Nat.ble_eq_true_of_le (by simp; omega)
 simp only [opA, hty, hx, cellsA, ha, hb]
 rw [show ([AV.v (Value.int IntKind.u32 (v : Int))].length.beq 1) = true from rfl]
 simp only
 rw [hc]
 simp only
 rw [putR _ _ _ _ _ _ hn]

set_option maxRecDepth 100000 in
set_option maxHeartbeats 4000000 in
theorem rHalted (s : St) (why : Int) (addr : Nat) (hs : s.ok) (ha : addr ≤ 4294967295) : DCall C0 41 [stA s, .v (.int .i64 why), .v (.int .u32 (addr : Int))] (two (haltP s why addr)) := by
 refine dc1 (DCall.intro c1Ok Try.func41 rfl rfl (by kernel_rfl) rfl ?_)
 refine cSeq ?_
 refine cR ?_
 refine rF 3 (.ptr 0 0) (upd _ 0 (some (.box (stL s.pc s.r s.mem s.halt)))) ?_
 refine rF 6 (.ptr 1 0) (upd _ 1 (some (.box (stL 0 (fun _ => 0) (⟨#[]⟩) 0)))) ?_
 refine rF 7 (.ptr 2 0) (upd _ 2 (some (.box [.v (.int .u32 0), .v (.int .u32 0), vI 0, .v (.int .u32 0), .v (.int .u32 0), vI 0, .v (.bool false), vI 0, vI 0]))) ?_
 refine rE 3 ?_
 refine cSeq ?_
 refine cR ?_
 refine rO 9 (.agg (stL s.pc s.r s.mem s.halt)) ?_
 refine rF 8 (.ptr 4 0) (upd _ 4 (some (.box (stL 0 (fun _ => 0) (⟨#[]⟩) 0)))) ?_
 refine rS (upd _ 4 (some (.box (stL s.pc s.r s.mem s.halt)))) ?_
 refine rE 6 ?_
 refine cSeq ?_
 refine cR ?_
 refine rO 10 (vI why) ?_
 refine rO 11 (.ptr 4 34) ?_
 refine rS (upd _ 4 (some (.box (stL s.pc s.r s.mem why)))) ?_
 refine rE 9 ?_
 refine cSeq ?_
 refine cLate rfl rfl ?_
 refine rO 12 (.agg (stL s.pc s.r s.mem why)) ?_
 refine rO 13 (.ptr 0 0) ?_
 refine rO 14 (vU s.pc) ?_
 refine rO 15 (.ptr 0 0) ?_
 refine rO 16 (vU s.pc) ?_
 refine rO 17 (vU addr) ?_
 refine rO 18 (vI why) ?_
 refine rO 19 (.agg [vU s.pc, vU s.pc, vI 0, .v (.int .u32 0), vU addr, vI 0, .v (.bool false), vI why, vI 0]) ?_
 refine rS (upd _ 1 (some (.box (stL s.pc s.r s.mem why)))) ?_
 refine rS (upd _ 2 (some (.box [vU s.pc, vU s.pc, vI 0, .v (.int .u32 0), vU addr, vI 0, .v (.bool false), vI why, vI 0]))) ?_
 refine rE 19 ?_
 refine And.intro (by kernel_rfl) ?_
 refine cRet ?_
 exact finTA rfl trivial rfl rfl
theorem decE_z {x : Nat} (h : ¬ decE x = 0) : opOf x = 0 := Classical.byContradiction fun q => h (by unfold decE; rw [if_neg q])
theorem decE_nz {x : Nat} (h : ¬ ¬ decE x = 0) : ¬ opOf x = 0 := fun q => h (by unfold decE; rw [if_pos q]; decide)

set_option maxRecDepth 100000 in
set_option maxHeartbeats 4000000 in
theorem rStep (prog : List Nat) (s : St) (clip : Bool) (hp : ∀ x ∈ prog, x ≤ 4294967295) (hl : prog.length ≤ 1000000) (hs : s.ok) : DCall C0 18 [.sl 1 (prog.map rowU) clip, stA s] (two (stepP prog s)) := by
 refine dc1 (DCall.intro c1Ok Try.func18 rfl rfl (by kernel_rfl) rfl ?_)
 have hfw := fetchW_le hp s.pc
 have hdec := rDec (fetchW prog s.pc) (Nat.lt_succ_of_le hfw)
 have hd := decN_rd (fetchW prog s.pc)
 have hv := wr_lt (fetchW prog s.pc)
 obtain ⟨i, hI⟩ : ∃ i, decN (fetchW prog s.pc) = i := ⟨_, rfl⟩
 have hI2 : insOf prog s = i := hI
 rw [hI] at hdec hd hv
 replace hd : 0 ≤ i.rd ∧ i.rd < 32 ∧ 0 ≤ i.rs1 ∧ i.rs1 < 32 ∧ 0 ≤ i.rs2 ∧ i.rs2 < 32 ∧ i.imm ≤ 4294967295 := ⟨hd.1, hd.2.1, hd.2.2.1, hd.2.2.2.1, hd.2.2.2.2.1, hd.2.2.2.2.2.1, Nat.le_of_lt_succ hd.2.2.2.2.2.2⟩
 obtain ⟨a, hA⟩ : ∃ a, s.r i.rs1.toNat = a := ⟨_, rfl⟩
 obtain ⟨b, hB⟩ : ∃ b, s.r i.rs2.toNat = b := ⟨_, rfl⟩
 have ha : a ≤ 4294967295 := hA ▸ hs.r _
 have hb : b ≤ 4294967295 := hB ▸ hs.r _
 have hnx : nextP i.op i.imm s.pc a b ≤ 4294967295 := Nat.le_of_lt_succ (nextP_lt _ _ _ _ _)
 refine cSeq ?_
 refine cR ?_
 refine rF 3 (.ptr 0 0) (upd _ 0 (some (.box (stL s.pc s.r s.mem s.halt)))) ?_
 refine rF 4 (.ptr 1 0) (upd _ 1 (some (.box (stL 0 (fun _ => 0) (⟨#[]⟩) 0)))) ?_
 refine rF 5 (.ptr 2 0) (upd _ 2 (some (.box [.v (.int .u32 0), .v (.int .u32 0), vI 0, .v (.int .u32 0), .v (.int .u32 0), vI 0, .v (.bool false), vI 0, vI 0]))) ?_
 refine rE 3 ?_
 refine cSeq ?_
 refine cSeq ?_
 refine cR ?_
 refine rO 18 (.ptr 0 34) ?_
 refine rO 19 (vI s.halt) ?_
 refine rO 20 (.v (.bool (s.halt != 0))) ?_
 refine rE 6 ?_
 refine cPr (¬ s.halt = 0) pNe (fun h1 => ?_) (fun h1 => ?_)
 ·skip
  refine cSeq ?_
  refine cR ?_
  refine rO 21 (.agg (stL s.pc s.r s.mem s.halt)) ?_
  refine rO 22 (.agg [.v (.int .u32 0), .v (.int .u32 0), vI 0, .v (.int .u32 0), .v (.int .u32 0), vI 0, .v (.bool false), vI 0, vI 0]) ?_
  refine rS (upd _ 1 (some (.box (stL s.pc s.r s.mem s.halt)))) ?_
  refine rS (upd _ 2 (some (.box [.v (.int .u32 0), .v (.int .u32 0), vI 0, .v (.int .u32 0), .v (.int .u32 0), vI 0, .v (.bool false), vI 0, vI 0]))) ?_
  refine rE 10 ?_
  refine cRet ?_
  exact finTA rfl trivial rfl (by unfold stepP; rw [if_neg h1]; rfl)
 ·skip
  refine cSkip ?_
  refine cSeq ?_
  refine cR ?_
  refine rO 24 (.sl 1 (prog.map rowU) clip) ?_
  refine rO 25 (.ptr 0 0) ?_
  refine rO 26 (vU s.pc) ?_
  refine rCall (args := [.sl 1 (prog.map rowU) clip, vU s.pc]) (d := 27) (x := .tup [vU (fetchW prog s.pc), .v (.bool ((fetchP prog s.pc).isSome))]) rfl rfl rfl rfl (.inl rfl) rfl (rFetch prog s.pc clip hp hl hs.pc) ?_
  refine rO 23 (.tup [vU (fetchW prog s.pc), .v (.bool ((fetchP prog s.pc).isSome))]) ?_
  refine rO 28 (vU (fetchW prog s.pc)) ?_
  refine rO 29 (.v (.bool ((fetchP prog s.pc).isSome))) ?_
  refine rO 6 (vU (fetchW prog s.pc)) ?_
  refine rO 7 (.v (.bool ((fetchP prog s.pc).isSome))) ?_
  refine rE 15 ?_
  refine cSeq ?_
  refine cSeq ?_
  refine cR ?_
  refine rO 30 (.v (.bool ((fetchP prog s.pc).isSome))) ?_
  refine rO 31 (.v (.bool (!((fetchP prog s.pc).isSome)))) ?_
  refine rE 17 ?_
  refine cPr (¬ (((fetchP prog s.pc).isSome) = true)) (pNot Iff.rfl) (fun h2 => ?_) (fun h2 => ?_)
  ·skip
   refine cSeq ?_
   refine cR ?_
   refine rO 32 (.agg (stL s.pc s.r s.mem s.halt)) ?_
   refine rCall (args := [.agg (stL s.pc s.r s.mem s.halt), vI 1, .v (.int .u32 0)]) (d := 33) (x := .tup [.agg (stL s.pc s.r s.mem 1), .agg [vU s.pc, vU s.pc, vI 0, .v (.int .u32 0), .v (.int .u32 0), vI 0, .v (.bool false), vI 1, vI 0]]) rfl rfl rfl rfl (.inl rfl) rfl (rHalted s (1) (0) hs (by decide)) ?_
   refine rO 34 (.agg (stL s.pc s.r s.mem 1)) ?_
   refine rO 35 (.agg [vU s.pc, vU s.pc, vI 0, .v (.int .u32 0), .v (.int .u32 0), vI 0, .v (.bool false), vI 1, vI 0]) ?_
   refine rS (upd _ 1 (some (.box (stL s.pc s.r s.mem 1)))) ?_
   refine rS (upd _ 2 (some (.box [vU s.pc, vU s.pc, vI 0, .v (.int .u32 0), .v (.int .u32 0), vI 0, .v (.bool false), vI 1, vI 0]))) ?_
   refine rE 23 ?_
   refine cRet ?_
   exact finTA rfl trivial rfl (by unfold stepP; rw [if_pos (Classical.not_not.1 h1), if_neg h2]; rfl)
  ·skip
   refine cSkip ?_
   refine cSeq ?_
   refine cR ?_
   refine rO 37 (vU (fetchW prog s.pc)) ?_
   refine rCall (args := [vU (fetchW prog s.pc)]) (d := 38) (x := .tup [.agg [vI i.op, vI i.rd, vI i.rs1, vI i.rs2, vU i.imm], vN (decE (fetchW prog s.pc))]) rfl rfl rfl rfl (.inl rfl) rfl (hdec) ?_
   refine rO 36 (.tup [.agg [vI i.op, vI i.rd, vI i.rs1, vI i.rs2, vU i.imm], vN (decE (fetchW prog s.pc))]) ?_
   refine rO 39 (.agg [vI i.op, vI i.rd, vI i.rs1, vI i.rs2, vU i.imm]) ?_
   refine rO 40 (vN (decE (fetchW prog s.pc))) ?_
   refine rF 8 (.ptr 22 0) (upd _ 22 (some (.box [vI 0, vI 0, vI 0, vI 0, .v (.int .u32 0)]))) ?_
   refine rS (upd _ 22 (some (.box [vI i.op, vI i.rd, vI i.rs1, vI i.rs2, vU i.imm]))) ?_
   refine rO 9 (vN (decE (fetchW prog s.pc))) ?_
   refine rE 25 ?_
   refine cSeq ?_
   refine cSeq ?_
   refine cR ?_
   refine rO 41 (vN (decE (fetchW prog s.pc))) ?_
   refine rX 42 (.v (.bool ((decE (fetchW prog s.pc)) != 0))) (okB (neN _ _)) ?_
   refine rE 27 ?_
   refine cPr (¬ (decE (fetchW prog s.pc)) = 0) pNe (fun h3 => ?_) (fun h3 => ?_)
   ·skip
    refine cSeq ?_
    refine cR ?_
    refine rO 43 (.agg (stL s.pc s.r s.mem s.halt)) ?_
    refine rCall (args := [.agg (stL s.pc s.r s.mem s.halt), vI 2, .v (.int .u32 0)]) (d := 44) (x := .tup [.agg (stL s.pc s.r s.mem 2), .agg [vU s.pc, vU s.pc, vI 0, .v (.int .u32 0), .v (.int .u32 0), vI 0, .v (.bool false), vI 2, vI 0]]) rfl rfl rfl rfl (.inl rfl) rfl (rHalted s (2) (0) hs (by decide)) ?_
    refine rO 45 (.agg (stL s.pc s.r s.mem 2)) ?_
    refine rO 46 (.agg [vU s.pc, vU s.pc, vI 0, .v (.int .u32 0), .v (.int .u32 0), vI 0, .v (.bool false), vI 2, vI 0]) ?_
    refine rS (upd _ 1 (some (.box (stL s.pc s.r s.mem 2)))) ?_
    refine rS (upd _ 2 (some (.box [vU s.pc, vU s.pc, vI 0, .v (.int .u32 0), .v (.int .u32 0), vI 0, .v (.bool false), vI 2, vI 0]))) ?_
    refine rE 33 ?_
    refine cRet ?_
    exact finTA rfl trivial rfl (by unfold stepP; rw [if_pos (Classical.not_not.1 h1), if_pos (Classical.not_not.1 h2), if_pos (decE_z h3)]; rfl)
   ·skip
    refine cSkip ?_
    refine cSeq ?_
    refine cSeq ?_
    refine cR ?_
    refine rO 47 (.ptr 22 0) ?_
    refine rO 48 (vI i.op) ?_
    refine rO 49 (.v (.bool (i.op == 47))) ?_
    refine rE 30 ?_
    refine cEq i.op 47 (fun h4 => ?_) (fun h4 => ?_)
    ·skip
     refine cSeq ?_
     refine cR ?_
     refine rO 50 (.agg (stL s.pc s.r s.mem s.halt)) ?_
     refine rCall (args := [.agg (stL s.pc s.r s.mem s.halt), vI 6, .v (.int .u32 0)]) (d := 51) (x := .tup [.agg (stL s.pc s.r s.mem 6), .agg [vU s.pc, vU s.pc, vI 0, .v (.int .u32 0), .v (.int .u32 0), vI 0, .v (.bool false), vI 6, vI 0]]) rfl rfl rfl rfl (.inl rfl) rfl (rHalted s (6) (0) hs (by decide)) ?_
     refine rO 52 (.agg (stL s.pc s.r s.mem 6)) ?_
     refine rO 53 (.agg [vU s.pc, vU s.pc, vI 0, .v (.int .u32 0), .v (.int .u32 0), vI 0, .v (.bool false), vI 6, vI 0]) ?_
     refine rS (upd _ 1 (some (.box (stL s.pc s.r s.mem 6)))) ?_
     refine rS (upd _ 2 (some (.box [vU s.pc, vU s.pc, vI 0, .v (.int .u32 0), .v (.int .u32 0), vI 0, .v (.bool false), vI 6, vI 0]))) ?_
     refine rE 36 ?_
     refine cRet ?_
     exact finTA rfl trivial rfl (by unfold stepP; rw [if_pos (Classical.not_not.1 h1), if_pos (Classical.not_not.1 h2), if_neg (decE_nz h3), hI2]; unfold doI; rw [if_pos h4]; rfl)
    ·skip
     refine cSkip ?_
     refine cSeq ?_
     refine cSeq ?_
     refine cR ?_
     refine rO 54 (.ptr 22 0) ?_
     refine rO 55 (vI i.op) ?_
     refine rO 56 (.v (.bool (i.op == 48))) ?_
     refine rE 33 ?_
     refine cEq i.op 48 (fun h5 => ?_) (fun h5 => ?_)
     ·skip
      refine cSeq ?_
      refine cR ?_
      refine rO 57 (.agg (stL s.pc s.r s.mem s.halt)) ?_
      refine rCall (args := [.agg (stL s.pc s.r s.mem s.halt), vI 7, .v (.int .u32 0)]) (d := 58) (x := .tup [.agg (stL s.pc s.r s.mem 7), .agg [vU s.pc, vU s.pc, vI 0, .v (.int .u32 0), .v (.int .u32 0), vI 0, .v (.bool false), vI 7, vI 0]]) rfl rfl rfl rfl (.inl rfl) rfl (rHalted s (7) (0) hs (by decide)) ?_
      refine rO 59 (.agg (stL s.pc s.r s.mem 7)) ?_
      refine rO 60 (.agg [vU s.pc, vU s.pc, vI 0, .v (.int .u32 0), .v (.int .u32 0), vI 0, .v (.bool false), vI 7, vI 0]) ?_
      refine rS (upd _ 1 (some (.box (stL s.pc s.r s.mem 7)))) ?_
      refine rS (upd _ 2 (some (.box [vU s.pc, vU s.pc, vI 0, .v (.int .u32 0), .v (.int .u32 0), vI 0, .v (.bool false), vI 7, vI 0]))) ?_
      refine rE 39 ?_
      refine cRet ?_
      exact finTA rfl trivial rfl (by unfold stepP; rw [if_pos (Classical.not_not.1 h1), if_pos (Classical.not_not.1 h2), if_neg (decE_nz h3), hI2]; unfold doI; rw [if_neg h4, if_pos h5]; rfl)
     ·skip
      refine cSkip ?_
      refine cSeq ?_
      refine cR ?_
      refine rO 61 (.ptr 22 2) ?_
      refine rO 62 (vI i.rs1) ?_
      refine rO 63 (.ptr 0 1) ?_
      refine rNeed (d := 64) (x := .ptr 0 (1 + (i.rs1).toNat * 1)) rfl rfl rfl (by omega) ?_
      refine rOk (d := 65) (x := vU a) rfl rfl ((ldR _ _ _ _ _ (by omega)).trans (by rw [hA])) ?_
      refine rO 10 (vU a) ?_
      refine rE 39 ?_
      refine cSeq ?_
      refine cR ?_
      refine rO 66 (.ptr 22 3) ?_
      refine rO 67 (vI i.rs2) ?_
      refine rO 68 (.ptr 0 1) ?_
      refine rNeed (d := 69) (x := .ptr 0 (1 + (i.rs2).toNat * 1)) rfl rfl rfl (by omega) ?_
      refine rOk (d := 70) (x := vU b) rfl rfl ((ldR _ _ _ _ _ (by omega)).trans (by rw [hB])) ?_
      refine rO 11 (vU b) ?_
      refine rE 45 ?_
      refine cSeq ?_
      refine cR ?_
      refine rO 71 (.ptr 22 0) ?_
      refine rO 72 (vI i.op) ?_
      refine rCall (args := [vI i.op]) (d := 73) (x := vN (kindOf i.op)) rfl rfl rfl rfl (.inl rfl) rfl (rKind i.op) ?_
      refine rO 12 (vN (kindOf i.op)) ?_
      refine rE 49 ?_
      refine cSeq ?_
      refine cR ?_
      refine rO 74 (.ptr 0 0) ?_
      refine rO 75 (vU s.pc) ?_
      refine rO 76 (.ptr 0 0) ?_
      refine rO 77 (vU s.pc) ?_
      refine rO 78 (vU (up4 s.pc)) ?_
      refine rO 79 (.agg [vI i.op, vI i.rd, vI i.rs1, vI i.rs2, vU i.imm]) ?_
      refine rCall (args := [.agg [vI i.op, vI i.rd, vI i.rs1, vI i.rs2, vU i.imm]]) (d := 80) (x := vI (wr i)) rfl rfl rfl rfl (.inl rfl) rfl (rWrites i) ?_
      refine rO 81 (.agg [vU s.pc, vU (up4 s.pc), vI (wr i), .v (.int .u32 0), .v (.int .u32 0), vI 0, .v (.bool false), vI 0, vI 0]) ?_
      refine rF 13 (.ptr 57 0) (upd _ 57 (some (.box [.v (.int .u32 0), .v (.int .u32 0), vI 0, .v (.int .u32 0), .v (.int .u32 0), vI 0, .v (.bool false), vI 0, vI 0]))) ?_
      refine rS (upd _ 57 (some (.box [vU s.pc, vU (up4 s.pc), vI (wr i), .v (.int .u32 0), .v (.int .u32 0), vI 0, .v (.bool false), vI 0, vI 0]))) ?_
      refine rE 59 ?_
      refine cSeq ?_
      refine cR ?_
      refine rO 82 (.agg [vI i.op, vI i.rd, vI i.rs1, vI i.rs2, vU i.imm]) ?_
      refine rO 83 (.ptr 0 0) ?_
      refine rO 84 (vU s.pc) ?_
      refine rO 85 (vU a) ?_
      refine rO 86 (vU b) ?_
      refine rCall (args := [.agg [vI i.op, vI i.rd, vI i.rs1, vI i.rs2, vU i.imm], vU s.pc, vU a, vU b]) (d := 87) (x := vU (valP i.op i.imm s.pc a b)) rfl rfl rfl rfl (.inl rfl) rfl (rValue i s.pc a b hd.2.2.2.2.2.2 hs.pc ha hb) ?_
      refine rO 14 (vU (valP i.op i.imm s.pc a b)) ?_
      refine rE 66 ?_
      refine cSeq ?_
      refine cR ?_
      refine rO 88 (.agg (stL s.pc s.r s.mem s.halt)) ?_
      refine rF 15 (.ptr 67 0) (upd _ 67 (some (.box (stL 0 (fun _ => 0) (⟨#[]⟩) 0)))) ?_
      refine rS (upd _ 67 (some (.box (stL s.pc s.r s.mem s.halt)))) ?_
      refine rE 69 ?_
      refine cSeq ?_
      refine cSeq ?_
      refine cR ?_
      refine rO 89 (vN (kindOf i.op)) ?_
      refine rX 90 (.v (.bool ((kindOf i.op) == 3))) (okB (eqN _ _)) ?_
      refine rO 91 (.v (.bool ((kindOf i.op) == 3))) ?_
      refine gO 92 (!((kindOf i.op) == 3)) (vN (kindOf i.op)) ?_
      refine gOkS (d := 93) (x := .v (.bool ((kindOf i.op) == 4))) (g := !((kindOf i.op) == 3)) rfl rfl rfl rfl (fun h => h) rfl (okB (eqN _ _)) ?_
      refine rNeed (d := 94) (x := .v (.bool (cond2 ((kindOf i.op) == 3) true ((kindOf i.op) == 4)))) rfl rfl rfl (by simp) ?_
      refine rE 75 ?_
      refine cPr ((kindOf i.op) = 3 ∨ (kindOf i.op) = 4) (c2or _ _ pEq pEq) (fun h6 => ?_) (fun h6 => ?_)
      ·skip
       refine cSeq ?_
       refine cR ?_
       refine rO 95 (vU a) ?_
       refine rO 96 (.ptr 22 4) ?_
       refine rO 97 (vU i.imm) ?_
       refine rO 98 (vU (addrOf i a)) ?_
       refine rO 99 (.ptr 57 4) ?_
       refine rS (upd _ 57 (some (.box [vU s.pc, vU (up4 s.pc), vI (wr i), .v (.int .u32 0), vU (addrOf i a), vI 0, .v (.bool false), vI 0, vI 0]))) ?_
       refine rE 81 ?_
       refine cSeq ?_
       refine cR ?_
       refine rO 100 (.ptr 22 0) ?_
       refine rO 101 (vI i.op) ?_
       refine rCall (args := [vI i.op]) (d := 102) (x := vN (sizeOf' i.op)) rfl rfl rfl rfl (.inl rfl) rfl (rSize i.op) ?_
       refine rO 103 (.ptr 57 5) ?_
       refine rS (upd _ 57 (some (.box [vU s.pc, vU (up4 s.pc), vI (wr i), .v (.int .u32 0), vU (addrOf i a), vN (sizeOf' i.op), .v (.bool false), vI 0, vI 0]))) ?_
       refine rE 86 ?_
       refine cSeq ?_
       refine cSeq ?_
       refine cR ?_
       refine rO 104 (.ptr 0 33) ?_
       refine rO 105 (.v (.string s.mem)) ?_
       refine rO 106 (vI (s.mem.size : Int)) ?_
       refine rO 107 (.ptr 57 4) ?_
       refine rO 108 (vU (addrOf i a)) ?_
       refine rO 109 (.ptr 57 5) ?_
       refine rO 110 (vN (sizeOf' i.op)) ?_
       refine rCall (args := [vI (s.mem.size : Int), vU (addrOf i a), vN (sizeOf' i.op)]) (d := 111) (x := .v (.bool (rightP (s.mem.size : Int) (addrOf i a) ((sizeOf' i.op : Nat) : Int)))) rfl rfl rfl rfl (.inl rfl) rfl (rRight s.mem.size (addrOf i a) (sizeOf' i.op) hs.mem (addr_le i a) (size_le4 i.op)) ?_
       refine rO 112 (.v (.bool (!(rightP (s.mem.size : Int) (addrOf i a) ((sizeOf' i.op : Nat) : Int))))) ?_
       refine rE 95 ?_
       refine cPr (¬ ((rightP (s.mem.size : Int) (addrOf i a) ((sizeOf' i.op : Nat) : Int)) = true)) (pNot Iff.rfl) (fun h7 => ?_) (fun h7 => ?_)
       ·skip
        refine cSeq ?_
        refine cSeq ?_
        refine cR ?_
        refine rO 113 (vN (kindOf i.op)) ?_
        refine rX 114 (.v (.bool ((kindOf i.op) == 3))) (okB (eqN _ _)) ?_
        refine rE 97 ?_
        refine cEq (kindOf i.op) 3 (fun h8 => ?_) (fun h8 => ?_)
        ·skip
         refine cSeq ?_
         refine cR ?_
         refine rO 115 (.agg (stL s.pc s.r s.mem s.halt)) ?_
         refine rO 116 (.ptr 57 4) ?_
         refine rO 117 (vU (addrOf i a)) ?_
         refine rCall (args := [.agg (stL s.pc s.r s.mem s.halt), vI 4, vU (addrOf i a)]) (d := 118) (x := .tup [.agg (stL s.pc s.r s.mem 4), .agg [vU s.pc, vU s.pc, vI 0, .v (.int .u32 0), vU (addrOf i a), vI 0, .v (.bool false), vI 4, vI 0]]) rfl rfl rfl rfl (.inl rfl) rfl (rHalted s (4) ((addrOf i a)) hs (addr_le i a)) ?_
         refine rO 119 (.agg (stL s.pc s.r s.mem 4)) ?_
         refine rO 120 (.agg [vU s.pc, vU s.pc, vI 0, .v (.int .u32 0), vU (addrOf i a), vI 0, .v (.bool false), vI 4, vI 0]) ?_
         refine rS (upd _ 1 (some (.box (stL s.pc s.r s.mem 4)))) ?_
         refine rS (upd _ 2 (some (.box [vU s.pc, vU s.pc, vI 0, .v (.int .u32 0), vU (addrOf i a), vI 0, .v (.bool false), vI 4, vI 0]))) ?_
         refine rE 105 ?_
         refine cRet ?_
         exact finTA rfl trivial rfl (by unfold stepP; rw [if_pos (Classical.not_not.1 h1), if_pos (Classical.not_not.1 h2), if_neg (decE_nz h3), hI2]; unfold doI; rw [if_neg h4, if_neg h5, if_pos h6, hA, hB]; unfold accessP; rw [if_neg h7, if_neg (by omega)]; rfl)
        ·skip
         refine cSkip ?_
         refine cSeq ?_
         refine cR ?_
         refine rO 121 (.agg (stL s.pc s.r s.mem s.halt)) ?_
         refine rO 122 (.ptr 57 4) ?_
         refine rO 123 (vU (addrOf i a)) ?_
         refine rCall (args := [.agg (stL s.pc s.r s.mem s.halt), vI 5, vU (addrOf i a)]) (d := 124) (x := .tup [.agg (stL s.pc s.r s.mem 5), .agg [vU s.pc, vU s.pc, vI 0, .v (.int .u32 0), vU (addrOf i a), vI 0, .v (.bool false), vI 5, vI 0]]) rfl rfl rfl rfl (.inl rfl) rfl (rHalted s (5) ((addrOf i a)) hs (addr_le i a)) ?_
         refine rO 125 (.agg (stL s.pc s.r s.mem 5)) ?_
         refine rO 126 (.agg [vU s.pc, vU s.pc, vI 0, .v (.int .u32 0), vU (addrOf i a), vI 0, .v (.bool false), vI 5, vI 0]) ?_
         refine rS (upd _ 1 (some (.box (stL s.pc s.r s.mem 5)))) ?_
         refine rS (upd _ 2 (some (.box [vU s.pc, vU s.pc, vI 0, .v (.int .u32 0), vU (addrOf i a), vI 0, .v (.bool false), vI 5, vI 0]))) ?_
         refine rE 105 ?_
         refine cRet ?_
         exact finTA rfl trivial rfl (by unfold stepP; rw [if_pos (Classical.not_not.1 h1), if_pos (Classical.not_not.1 h2), if_neg (decE_nz h3), hI2]; unfold doI; rw [if_neg h4, if_neg h5, if_pos h6, hA, hB]; unfold accessP; rw [if_neg h7, if_pos (by omega)]; rfl)
       ·skip
        refine cSkip ?_
        refine cSeq ?_
        refine cSeq ?_
        refine cR ?_
        refine rO 127 (vN (kindOf i.op)) ?_
        refine rX 128 (.v (.bool ((kindOf i.op) == 4))) (okB (eqN _ _)) ?_
        refine rE 97 ?_
        refine cEq (kindOf i.op) 4 (fun h9 => ?_) (fun h9 => ?_)
        ·skip
         refine cSeq ?_
         refine cR ?_
         refine rO 130 (vU b) ?_
         refine rO 131 (.ptr 57 5) ?_
         refine rO 132 (vN (sizeOf' i.op)) ?_
         refine rCall (args := [vU b, vN (sizeOf' i.op)]) (d := 133) (x := .tup [.v (.string (bytesP b (sizeOf' i.op))), vI 0]) rfl rfl rfl rfl (.inl rfl) rfl (rBytes b (sizeOf' i.op) hb (size_le4 i.op)) ?_
         have hrt := right_le (by simpa using h7)
         refine rO 129 (.tup [.v (.string (bytesP b (sizeOf' i.op))), vI 0]) ?_
         refine rO 134 (.v (.string (bytesP b (sizeOf' i.op)))) ?_
         refine rO 135 (vI 0) ?_
         refine rO 16 (.v (.string (bytesP b (sizeOf' i.op)))) ?_
         refine rO 17 (vI 0) ?_
         refine rE 106 ?_
         refine cSeq ?_
         refine cR ?_
         refine rO 136 (.ptr 0 33) ?_
         refine rO 137 (.v (.string s.mem)) ?_
         refine rO 138 (.ptr 57 4) ?_
         refine rO 139 (vU (addrOf i a)) ?_
         refine rO 140 (.v (.string (bytesP b (sizeOf' i.op)))) ?_
         refine rCall (args := [.v (.string s.mem), vU (addrOf i a), .v (.string (bytesP b (sizeOf' i.op)))]) (d := 141) (x := .v (.string (writeP s.mem (addrOf i a) (bytesP b (sizeOf' i.op))))) rfl rfl rfl rfl (.inl rfl) rfl (rWrite s.mem (addrOf i a) (bytesP b (sizeOf' i.op)) (by rw [bytesP_size]; exact hrt.1) hs.mem (addr_le i a) (by rw [bytesP_size]; exact size_le4 i.op)) ?_
         refine rO 142 (.ptr 67 33) ?_
         refine rS (upd _ 67 (some (.box (stL s.pc s.r (writeP s.mem (addrOf i a) (bytesP b (sizeOf' i.op))) s.halt)))) ?_
         refine rE 114 ?_
         refine cSeq ?_
         refine cR ?_
         refine rO 143 (.ptr 57 1) ?_
         refine rO 144 (vU (up4 s.pc)) ?_
         refine rO 145 (.ptr 67 0) ?_
         refine rS (upd _ 67 (some (.box (stL (up4 s.pc) s.r (writeP s.mem (addrOf i a) (bytesP b (sizeOf' i.op))) s.halt)))) ?_
         refine rE 118 ?_
         refine cSeq ?_
         refine cR ?_
         refine rO 146 (.ptr 57 6) ?_
         refine rS (upd _ 57 (some (.box [vU s.pc, vU (up4 s.pc), vI (wr i), .v (.int .u32 0), vU (addrOf i a), vN (sizeOf' i.op), .v (.bool true), vI 0, vI 0]))) ?_
         refine rE 120 ?_
         refine cSeq ?_
         refine cR ?_
         refine rO 148 (.v (.string (bytesP b (sizeOf' i.op)))) ?_
         refine rCall (args := [.v (.string (bytesP b (sizeOf' i.op)))]) (d := 149) (x := .tup [vU (valB b (sizeOf' i.op)), vI 0]) rfl rfl rfl rfl (.inl rfl) rfl (rJoin _ (by rw [bytesP_size]; exact size_le4 i.op)) ?_
         refine rO 147 (.tup [vU (valB b (sizeOf' i.op)), vI 0]) ?_
         refine rO 150 (vU (valB b (sizeOf' i.op))) ?_
         refine rO 151 (vI 0) ?_
         refine rO 14 (vU (valB b (sizeOf' i.op))) ?_
         refine rE 126 ?_
         refine cSeq ?_
         refine cR ?_
         refine rO 152 (vU (valB b (sizeOf' i.op))) ?_
         refine rO 153 (.ptr 57 3) ?_
         refine rS (upd _ 57 (some (.box [vU s.pc, vU (up4 s.pc), vI (wr i), vU (valB b (sizeOf' i.op)), vU (addrOf i a), vN (sizeOf' i.op), .v (.bool true), vI 0, vI 0]))) ?_
         refine rE 129 ?_
         refine cSeq ?_
         refine cLate rfl rfl ?_
         refine rO 154 (.agg (stL (up4 s.pc) s.r (writeP s.mem (addrOf i a) (bytesP b (sizeOf' i.op))) s.halt)) ?_
         refine rO 155 (.agg [vU s.pc, vU (up4 s.pc), vI (wr i), vU (valB b (sizeOf' i.op)), vU (addrOf i a), vN (sizeOf' i.op), .v (.bool true), vI 0, vI 0]) ?_
         refine rS (upd _ 1 (some (.box (stL (up4 s.pc) s.r (writeP s.mem (addrOf i a) (bytesP b (sizeOf' i.op))) s.halt)))) ?_
         refine rS (upd _ 2 (some (.box [vU s.pc, vU (up4 s.pc), vI (wr i), vU (valB b (sizeOf' i.op)), vU (addrOf i a), vN (sizeOf' i.op), .v (.bool true), vI 0, vI 0]))) ?_
         refine rE 133 ?_
         refine And.intro (by kernel_rfl) ?_
         refine cRet ?_
         exact finTA rfl trivial rfl (by unfold stepP; rw [if_pos (Classical.not_not.1 h1), if_pos (Classical.not_not.1 h2), if_neg (decE_nz h3), hI2]; unfold doI; rw [if_neg h4, if_neg h5, if_pos h6, hA, hB]; unfold accessP; rw [if_pos (Classical.not_not.1 h7), if_pos h9]; rw [show (kindOf i.op == 4) = true from beq_iff_eq.2 h9]; rfl)
        ·skip
         refine cSkip ?_
         refine cR ?_
         refine rO 156 (.ptr 22 0) ?_
         refine rO 157 (vI i.op) ?_
         refine rO 158 (.ptr 0 33) ?_
         have hrt := right_le (by simpa using h7)
         refine rO 159 (.v (.string s.mem)) ?_
         refine rO 160 (.ptr 57 4) ?_
         refine rO 161 (vU (addrOf i a)) ?_
         refine rO 162 (.ptr 57 5) ?_
         refine rO 163 (vN (sizeOf' i.op)) ?_
         refine rCall (args := [.v (.string s.mem), vU (addrOf i a), vN (sizeOf' i.op)]) (d := 164) (x := .v (.string (readP s.mem (addrOf i a) (sizeOf' i.op)))) rfl rfl rfl rfl (.inl rfl) rfl (rRead s.mem (addrOf i a) (sizeOf' i.op) hrt.1 (addr_le i a) (size_le4 i.op)) ?_
         refine rCall (args := [vI i.op, .v (.string (readP s.mem (addrOf i a) (sizeOf' i.op)))]) (d := 165) (x := vU (loadP i.op (readP s.mem (addrOf i a) (sizeOf' i.op)))) rfl rfl rfl rfl (.inl rfl) rfl (rLoad i.op _) ?_
         refine rO 14 (vU (loadP i.op (readP s.mem (addrOf i a) (sizeOf' i.op)))) ?_
         refine rE 108 ?_
         refine cSeq ?_
         refine cSeq ?_
         refine cR ?_
         refine rO 166 (vN (kindOf i.op)) ?_
         refine rX 167 (.v (.bool ((kindOf i.op) == 5))) (okB (eqN _ _)) ?_
         refine rE 110 ?_
         refine cEq (kindOf i.op) 5 (fun h10 => absurd h10 (by have := kind_spec i.op; omega)) (fun h10 => ?_)
         refine cSkip ?_
         refine cSeq ?_
         refine cSeq ?_
         refine cR ?_
         refine rO 183 (vN (kindOf i.op)) ?_
         refine rX 184 (.v (.bool ((kindOf i.op) == 2))) (okB (eqN _ _)) ?_
         refine rE 112 ?_
         refine cEq (kindOf i.op) 2 (fun h11 => absurd h11 (by have := kind_spec i.op; omega)) (fun h11 => ?_)
         refine cSkip ?_
         refine cSeq ?_
         refine cSeq ?_
         refine cR ?_
         refine rO 191 (.ptr 57 2) ?_
         refine rO 192 (vI (wr i)) ?_
         refine rO 193 (.v (.bool (decide ((wr i) > 0)))) ?_
         refine rE 115 ?_
         refine cPr ((wr i) > 0) pDec (fun h12 => ?_) (fun h12 => ?_)
         ·skip
          refine cSeq ?_
          refine cR ?_
          refine rO 194 (vU (loadP i.op (readP s.mem (addrOf i a) (sizeOf' i.op)))) ?_
          refine rO 195 (.ptr 57 3) ?_
          refine rS (upd _ 57 (some (.box [vU s.pc, vU (up4 s.pc), vI (wr i), vU (loadP i.op (readP s.mem (addrOf i a) (sizeOf' i.op))), vU (addrOf i a), vN (sizeOf' i.op), .v (.bool false), vI 0, vI 0]))) ?_
          refine rE 118 ?_
          refine cR ?_
          refine rO 196 (.ptr 57 2) ?_
          refine rO 197 (vI (wr i)) ?_
          refine rO 198 (vU (loadP i.op (readP s.mem (addrOf i a) (sizeOf' i.op)))) ?_
          refine rO 199 (.ptr 67 1) ?_
          refine rNeed (d := 200) (x := .ptr 67 (1 + (wr i).toNat * 1)) rfl rfl rfl (by omega) ?_
          refine rFx0 (h' := upd _ 67 (some (.box (stL s.pc (setR s.r ((wr i).toNat) (loadP i.op (readP s.mem (addrOf i a) (sizeOf' i.op)))) s.mem s.halt)))) rfl rfl (stR1 (n := (wr i).toNat) (v := loadP i.op (readP s.mem (addrOf i a) (sizeOf' i.op))) (r := s.r) rfl rfl rfl (by omega)) (trivial) ?_
          refine rE 124 ?_
          refine cSeq ?_
          refine cR ?_
          refine rO 201 (.ptr 57 1) ?_
          refine rO 202 (vU (up4 s.pc)) ?_
          refine rO 203 (.ptr 67 0) ?_
          refine rS (upd _ 67 (some (.box (stL (up4 s.pc) (setR s.r ((wr i).toNat) (loadP i.op (readP s.mem (addrOf i a) (sizeOf' i.op)))) s.mem s.halt)))) ?_
          refine rE 128 ?_
          refine cSeq ?_
          refine cLate rfl rfl ?_
          refine rO 204 (.agg (stL (up4 s.pc) (setR s.r ((wr i).toNat) (loadP i.op (readP s.mem (addrOf i a) (sizeOf' i.op)))) s.mem s.halt)) ?_
          refine rO 205 (.agg [vU s.pc, vU (up4 s.pc), vI (wr i), vU (loadP i.op (readP s.mem (addrOf i a) (sizeOf' i.op))), vU (addrOf i a), vN (sizeOf' i.op), .v (.bool false), vI 0, vI 0]) ?_
          refine rS (upd _ 1 (some (.box (stL (up4 s.pc) (setR s.r ((wr i).toNat) (loadP i.op (readP s.mem (addrOf i a) (sizeOf' i.op)))) s.mem s.halt)))) ?_
          refine rS (upd _ 2 (some (.box [vU s.pc, vU (up4 s.pc), vI (wr i), vU (loadP i.op (readP s.mem (addrOf i a) (sizeOf' i.op))), vU (addrOf i a), vN (sizeOf' i.op), .v (.bool false), vI 0, vI 0]))) ?_
          refine rE 132 ?_
          refine And.intro (by kernel_rfl) ?_
          refine cRet ?_
          exact finTA rfl trivial rfl (by unfold stepP; rw [if_pos (Classical.not_not.1 h1), if_pos (Classical.not_not.1 h2), if_neg (decE_nz h3), hI2]; unfold doI; rw [if_neg h4, if_neg h5, if_pos h6, hA, hB]; unfold accessP; rw [if_pos (Classical.not_not.1 h7), if_neg h9, if_neg (by omega)]; rw [show (kindOf i.op == 4) = false from beq_false_of_ne h9]; rfl)
         ·skip
          refine cSkip ?_
          refine cSeq ?_
          refine cR ?_
          refine rO 201 (.ptr 57 1) ?_
          refine rO 202 (vU (up4 s.pc)) ?_
          refine rO 203 (.ptr 67 0) ?_
          refine rS (upd _ 67 (some (.box (stL (up4 s.pc) s.r s.mem s.halt)))) ?_
          refine rE 119 ?_
          refine cSeq ?_
          refine cLate rfl rfl ?_
          refine rO 204 (.agg (stL (up4 s.pc) s.r s.mem s.halt)) ?_
          refine rO 205 (.agg [vU s.pc, vU (up4 s.pc), vI (wr i), .v (.int .u32 0), vU (addrOf i a), vN (sizeOf' i.op), .v (.bool false), vI 0, vI 0]) ?_
          refine rS (upd _ 1 (some (.box (stL (up4 s.pc) s.r s.mem s.halt)))) ?_
          refine rS (upd _ 2 (some (.box [vU s.pc, vU (up4 s.pc), vI (wr i), .v (.int .u32 0), vU (addrOf i a), vN (sizeOf' i.op), .v (.bool false), vI 0, vI 0]))) ?_
          refine rE 123 ?_
          refine And.intro (by kernel_rfl) ?_
          refine cRet ?_
          exact finTA rfl trivial rfl (by unfold stepP; rw [if_pos (Classical.not_not.1 h1), if_pos (Classical.not_not.1 h2), if_neg (decE_nz h3), hI2]; unfold doI; rw [if_neg h4, if_neg h5, if_pos h6, hA, hB]; unfold accessP; rw [if_pos (Classical.not_not.1 h7), if_neg h9, if_pos (by omega)]; rw [show (kindOf i.op == 4) = false from beq_false_of_ne h9]; rfl)
      ·skip
       refine cSkip ?_
       refine cSeq ?_
       refine cSeq ?_
       refine cR ?_
       refine rO 166 (vN (kindOf i.op)) ?_
       refine rX 167 (.v (.bool ((kindOf i.op) == 5))) (okB (eqN _ _)) ?_
       refine rE 77 ?_
       refine cEq (kindOf i.op) 5 (fun h13 => ?_) (fun h13 => ?_)
       ·skip
        refine cSeq ?_
        refine cR ?_
        refine rO 168 (.agg [vI i.op, vI i.rd, vI i.rs1, vI i.rs2, vU i.imm]) ?_
        refine rO 169 (.ptr 0 0) ?_
        refine rO 170 (vU s.pc) ?_
        refine rO 171 (vU a) ?_
        refine rO 172 (vU b) ?_
        refine rCall (args := [.agg [vI i.op, vI i.rd, vI i.rs1, vI i.rs2, vU i.imm], vU s.pc, vU a, vU b]) (d := 173) (x := vU (nextP i.op i.imm s.pc a b)) rfl rfl rfl rfl (.inl rfl) rfl (rNext i s.pc a b hd.2.2.2.2.2.2 hs.pc ha hb) ?_
        refine rO 174 (.ptr 57 1) ?_
        refine rS (upd _ 57 (some (.box [vU s.pc, vU (nextP i.op i.imm s.pc a b), vI (wr i), .v (.int .u32 0), .v (.int .u32 0), vI 0, .v (.bool false), vI 0, vI 0]))) ?_
        refine rE 85 ?_
        refine cSeq ?_
        refine cR ?_
        refine rO 175 (.ptr 57 1) ?_
        refine rO 176 (vU (nextP i.op i.imm s.pc a b)) ?_
        have b1 : (nextP i.op i.imm s.pc a b) % 4 ≤ 3 := Nat.le_of_lt_succ (Nat.mod_lt _ (by decide))
        refine rNeed (d := 177) (x := vU ((nextP i.op i.imm s.pc a b) % 4)) rfl rfl rfl (by decide) ?_
        refine rX 178 (.v (.bool (((nextP i.op i.imm s.pc a b) % 4) != 0))) (okB (neN _ _)) ?_
        refine rE 89 ?_
        refine cPr (¬ ((nextP i.op i.imm s.pc a b) % 4) = 0) pNe (fun h14 => ?_) (fun h14 => ?_)
        ·skip
         refine cSeq ?_
         refine cR ?_
         refine rO 179 (.agg (stL s.pc s.r s.mem s.halt)) ?_
         refine rCall (args := [.agg (stL s.pc s.r s.mem s.halt), vI 3, .v (.int .u32 0)]) (d := 180) (x := .tup [.agg (stL s.pc s.r s.mem 3), .agg [vU s.pc, vU s.pc, vI 0, .v (.int .u32 0), .v (.int .u32 0), vI 0, .v (.bool false), vI 3, vI 0]]) rfl rfl rfl rfl (.inl rfl) rfl (rHalted s (3) (0) hs (by decide)) ?_
         refine rO 181 (.agg (stL s.pc s.r s.mem 3)) ?_
         refine rO 182 (.agg [vU s.pc, vU s.pc, vI 0, .v (.int .u32 0), .v (.int .u32 0), vI 0, .v (.bool false), vI 3, vI 0]) ?_
         refine rS (upd _ 1 (some (.box (stL s.pc s.r s.mem 3)))) ?_
         refine rS (upd _ 2 (some (.box [vU s.pc, vU s.pc, vI 0, .v (.int .u32 0), .v (.int .u32 0), vI 0, .v (.bool false), vI 3, vI 0]))) ?_
         refine rE 95 ?_
         refine cRet ?_
         exact finTA rfl trivial rfl (by unfold stepP; rw [if_pos (Classical.not_not.1 h1), if_pos (Classical.not_not.1 h2), if_neg (decE_nz h3), hI2]; unfold doI; rw [if_neg h4, if_neg h5, if_neg h6, hA, hB]; unfold reckonP finP; rw [if_pos h13, if_neg h14]; rfl)
        ·skip
         refine cSkip ?_
         refine cSeq ?_
         refine cSeq ?_
         refine cR ?_
         refine rO 183 (vN (kindOf i.op)) ?_
         refine rX 184 (.v (.bool ((kindOf i.op) == 2))) (okB (eqN _ _)) ?_
         refine rE 91 ?_
         refine cEq (kindOf i.op) 2 (fun h15 => absurd h15 (by have := kind_spec i.op; omega)) (fun h15 => ?_)
         refine cSkip ?_
         refine cSeq ?_
         refine cSeq ?_
         refine cR ?_
         refine rO 191 (.ptr 57 2) ?_
         refine rO 192 (vI (wr i)) ?_
         refine rO 193 (.v (.bool (decide ((wr i) > 0)))) ?_
         refine rE 94 ?_
         refine cPr ((wr i) > 0) pDec (fun h16 => ?_) (fun h16 => ?_)
         ·skip
          refine cSeq ?_
          refine cR ?_
          refine rO 194 (vU (valP i.op i.imm s.pc a b)) ?_
          refine rO 195 (.ptr 57 3) ?_
          refine rS (upd _ 57 (some (.box [vU s.pc, vU (nextP i.op i.imm s.pc a b), vI (wr i), vU (valP i.op i.imm s.pc a b), .v (.int .u32 0), vI 0, .v (.bool false), vI 0, vI 0]))) ?_
          refine rE 97 ?_
          refine cR ?_
          refine rO 196 (.ptr 57 2) ?_
          refine rO 197 (vI (wr i)) ?_
          refine rO 198 (vU (valP i.op i.imm s.pc a b)) ?_
          refine rO 199 (.ptr 67 1) ?_
          refine rNeed (d := 200) (x := .ptr 67 (1 + (wr i).toNat * 1)) rfl rfl rfl (by omega) ?_
          refine rFx0 (h' := upd _ 67 (some (.box (stL s.pc (setR s.r ((wr i).toNat) (valP i.op i.imm s.pc a b)) s.mem s.halt)))) rfl rfl (stR1 (n := (wr i).toNat) (v := valP i.op i.imm s.pc a b) (r := s.r) rfl rfl rfl (by omega)) (trivial) ?_
          refine rE 103 ?_
          refine cSeq ?_
          refine cR ?_
          refine rO 201 (.ptr 57 1) ?_
          refine rO 202 (vU (nextP i.op i.imm s.pc a b)) ?_
          refine rO 203 (.ptr 67 0) ?_
          refine rS (upd _ 67 (some (.box (stL (nextP i.op i.imm s.pc a b) (setR s.r ((wr i).toNat) (valP i.op i.imm s.pc a b)) s.mem s.halt)))) ?_
          refine rE 107 ?_
          refine cSeq ?_
          refine cLate rfl rfl ?_
          refine rO 204 (.agg (stL (nextP i.op i.imm s.pc a b) (setR s.r ((wr i).toNat) (valP i.op i.imm s.pc a b)) s.mem s.halt)) ?_
          refine rO 205 (.agg [vU s.pc, vU (nextP i.op i.imm s.pc a b), vI (wr i), vU (valP i.op i.imm s.pc a b), .v (.int .u32 0), vI 0, .v (.bool false), vI 0, vI 0]) ?_
          refine rS (upd _ 1 (some (.box (stL (nextP i.op i.imm s.pc a b) (setR s.r ((wr i).toNat) (valP i.op i.imm s.pc a b)) s.mem s.halt)))) ?_
          refine rS (upd _ 2 (some (.box [vU s.pc, vU (nextP i.op i.imm s.pc a b), vI (wr i), vU (valP i.op i.imm s.pc a b), .v (.int .u32 0), vI 0, .v (.bool false), vI 0, vI 0]))) ?_
          refine rE 111 ?_
          refine And.intro (by kernel_rfl) ?_
          refine cRet ?_
          exact finTA rfl trivial rfl (by unfold stepP; rw [if_pos (Classical.not_not.1 h1), if_pos (Classical.not_not.1 h2), if_neg (decE_nz h3), hI2]; unfold doI; rw [if_neg h4, if_neg h5, if_neg h6, hA, hB]; unfold reckonP finP; rw [if_pos h13, if_pos (Classical.not_not.1 h14), if_neg (by omega)]; rfl)
         ·skip
          refine cSkip ?_
          refine cSeq ?_
          refine cR ?_
          refine rO 201 (.ptr 57 1) ?_
          refine rO 202 (vU (nextP i.op i.imm s.pc a b)) ?_
          refine rO 203 (.ptr 67 0) ?_
          refine rS (upd _ 67 (some (.box (stL (nextP i.op i.imm s.pc a b) s.r s.mem s.halt)))) ?_
          refine rE 98 ?_
          refine cSeq ?_
          refine cLate rfl rfl ?_
          refine rO 204 (.agg (stL (nextP i.op i.imm s.pc a b) s.r s.mem s.halt)) ?_
          refine rO 205 (.agg [vU s.pc, vU (nextP i.op i.imm s.pc a b), vI (wr i), .v (.int .u32 0), .v (.int .u32 0), vI 0, .v (.bool false), vI 0, vI 0]) ?_
          refine rS (upd _ 1 (some (.box (stL (nextP i.op i.imm s.pc a b) s.r s.mem s.halt)))) ?_
          refine rS (upd _ 2 (some (.box [vU s.pc, vU (nextP i.op i.imm s.pc a b), vI (wr i), .v (.int .u32 0), .v (.int .u32 0), vI 0, .v (.bool false), vI 0, vI 0]))) ?_
          refine rE 102 ?_
          refine And.intro (by kernel_rfl) ?_
          refine cRet ?_
          exact finTA rfl trivial rfl (by unfold stepP; rw [if_pos (Classical.not_not.1 h1), if_pos (Classical.not_not.1 h2), if_neg (decE_nz h3), hI2]; unfold doI; rw [if_neg h4, if_neg h5, if_neg h6, hA, hB]; unfold reckonP finP; rw [if_pos h13, if_pos (Classical.not_not.1 h14), if_pos (by omega)]; rfl)
       ·skip
        refine cSkip ?_
        refine cSeq ?_
        refine cSeq ?_
        refine cR ?_
        refine rO 183 (vN (kindOf i.op)) ?_
        refine rX 184 (.v (.bool ((kindOf i.op) == 2))) (okB (eqN _ _)) ?_
        refine rE 79 ?_
        refine cEq (kindOf i.op) 2 (fun h17 => ?_) (fun h17 => ?_)
        ·skip
         refine cR ?_
         refine rO 185 (.ptr 22 0) ?_
         refine rO 186 (vI i.op) ?_
         refine rO 187 (vU a) ?_
         refine rO 188 (vU b) ?_
         refine rCall (args := [vI i.op, vU a, vU b]) (d := 189) (x := vN (tookP i.op a b)) rfl rfl rfl rfl (.inl rfl) rfl (rTook i.op a b ha hb) ?_
         refine rO 190 (.ptr 57 8) ?_
         refine rS (upd _ 57 (some (.box [vU s.pc, vU (up4 s.pc), vI (wr i), .v (.int .u32 0), .v (.int .u32 0), vI 0, .v (.bool false), vI 0, vN (tookP i.op a b)]))) ?_
         refine rE 86 ?_
         refine cSeq ?_
         refine cSeq ?_
         refine cR ?_
         refine rO 191 (.ptr 57 2) ?_
         refine rO 192 (vI (wr i)) ?_
         refine rO 193 (.v (.bool (decide ((wr i) > 0)))) ?_
         refine rE 89 ?_
         refine cPr ((wr i) > 0) pDec (fun h18 => ?_) (fun h18 => ?_)
         ·skip
          refine cSeq ?_
          refine cR ?_
          refine rO 194 (vU (valP i.op i.imm s.pc a b)) ?_
          refine rO 195 (.ptr 57 3) ?_
          refine rS (upd _ 57 (some (.box [vU s.pc, vU (up4 s.pc), vI (wr i), vU (valP i.op i.imm s.pc a b), .v (.int .u32 0), vI 0, .v (.bool false), vI 0, vN (tookP i.op a b)]))) ?_
          refine rE 92 ?_
          refine cR ?_
          refine rO 196 (.ptr 57 2) ?_
          refine rO 197 (vI (wr i)) ?_
          refine rO 198 (vU (valP i.op i.imm s.pc a b)) ?_
          refine rO 199 (.ptr 67 1) ?_
          refine rNeed (d := 200) (x := .ptr 67 (1 + (wr i).toNat * 1)) rfl rfl rfl (by omega) ?_
          refine rFx0 (h' := upd _ 67 (some (.box (stL s.pc (setR s.r ((wr i).toNat) (valP i.op i.imm s.pc a b)) s.mem s.halt)))) rfl rfl (stR1 (n := (wr i).toNat) (v := valP i.op i.imm s.pc a b) (r := s.r) rfl rfl rfl (by omega)) (trivial) ?_
          refine rE 98 ?_
          refine cSeq ?_
          refine cR ?_
          refine rO 201 (.ptr 57 1) ?_
          refine rO 202 (vU (up4 s.pc)) ?_
          refine rO 203 (.ptr 67 0) ?_
          refine rS (upd _ 67 (some (.box (stL (up4 s.pc) (setR s.r ((wr i).toNat) (valP i.op i.imm s.pc a b)) s.mem s.halt)))) ?_
          refine rE 102 ?_
          refine cSeq ?_
          refine cLate rfl rfl ?_
          refine rO 204 (.agg (stL (up4 s.pc) (setR s.r ((wr i).toNat) (valP i.op i.imm s.pc a b)) s.mem s.halt)) ?_
          refine rO 205 (.agg [vU s.pc, vU (up4 s.pc), vI (wr i), vU (valP i.op i.imm s.pc a b), .v (.int .u32 0), vI 0, .v (.bool false), vI 0, vN (tookP i.op a b)]) ?_
          refine rS (upd _ 1 (some (.box (stL (up4 s.pc) (setR s.r ((wr i).toNat) (valP i.op i.imm s.pc a b)) s.mem s.halt)))) ?_
          refine rS (upd _ 2 (some (.box [vU s.pc, vU (up4 s.pc), vI (wr i), vU (valP i.op i.imm s.pc a b), .v (.int .u32 0), vI 0, .v (.bool false), vI 0, vN (tookP i.op a b)]))) ?_
          refine rE 106 ?_
          refine And.intro (by kernel_rfl) ?_
          refine cRet ?_
          exact finTA rfl trivial rfl (by unfold stepP; rw [if_pos (Classical.not_not.1 h1), if_pos (Classical.not_not.1 h2), if_neg (decE_nz h3), hI2]; unfold doI; rw [if_neg h4, if_neg h5, if_neg h6, hA, hB]; unfold reckonP finP; rw [if_neg h13, if_neg (by omega), if_pos h17]; rfl)
         ·skip
          refine cSkip ?_
          refine cSeq ?_
          refine cR ?_
          refine rO 201 (.ptr 57 1) ?_
          refine rO 202 (vU (up4 s.pc)) ?_
          refine rO 203 (.ptr 67 0) ?_
          refine rS (upd _ 67 (some (.box (stL (up4 s.pc) s.r s.mem s.halt)))) ?_
          refine rE 93 ?_
          refine cSeq ?_
          refine cLate rfl rfl ?_
          refine rO 204 (.agg (stL (up4 s.pc) s.r s.mem s.halt)) ?_
          refine rO 205 (.agg [vU s.pc, vU (up4 s.pc), vI (wr i), .v (.int .u32 0), .v (.int .u32 0), vI 0, .v (.bool false), vI 0, vN (tookP i.op a b)]) ?_
          refine rS (upd _ 1 (some (.box (stL (up4 s.pc) s.r s.mem s.halt)))) ?_
          refine rS (upd _ 2 (some (.box [vU s.pc, vU (up4 s.pc), vI (wr i), .v (.int .u32 0), .v (.int .u32 0), vI 0, .v (.bool false), vI 0, vN (tookP i.op a b)]))) ?_
          refine rE 97 ?_
          refine And.intro (by kernel_rfl) ?_
          refine cRet ?_
          exact finTA rfl trivial rfl (by unfold stepP; rw [if_pos (Classical.not_not.1 h1), if_pos (Classical.not_not.1 h2), if_neg (decE_nz h3), hI2]; unfold doI; rw [if_neg h4, if_neg h5, if_neg h6, hA, hB]; unfold reckonP finP; rw [if_neg h13, if_pos (by omega), if_pos h17]; rfl)
        ·skip
         refine cSkip ?_
         refine cSeq ?_
         refine cSeq ?_
         refine cR ?_
         refine rO 191 (.ptr 57 2) ?_
         refine rO 192 (vI (wr i)) ?_
         refine rO 193 (.v (.bool (decide ((wr i) > 0)))) ?_
         refine rE 82 ?_
         refine cPr ((wr i) > 0) pDec (fun h19 => ?_) (fun h19 => ?_)
         ·skip
          refine cSeq ?_
          refine cR ?_
          refine rO 194 (vU (valP i.op i.imm s.pc a b)) ?_
          refine rO 195 (.ptr 57 3) ?_
          refine rS (upd _ 57 (some (.box [vU s.pc, vU (up4 s.pc), vI (wr i), vU (valP i.op i.imm s.pc a b), .v (.int .u32 0), vI 0, .v (.bool false), vI 0, vI 0]))) ?_
          refine rE 85 ?_
          refine cR ?_
          refine rO 196 (.ptr 57 2) ?_
          refine rO 197 (vI (wr i)) ?_
          refine rO 198 (vU (valP i.op i.imm s.pc a b)) ?_
          refine rO 199 (.ptr 67 1) ?_
          refine rNeed (d := 200) (x := .ptr 67 (1 + (wr i).toNat * 1)) rfl rfl rfl (by omega) ?_
          refine rFx0 (h' := upd _ 67 (some (.box (stL s.pc (setR s.r ((wr i).toNat) (valP i.op i.imm s.pc a b)) s.mem s.halt)))) rfl rfl (stR1 (n := (wr i).toNat) (v := valP i.op i.imm s.pc a b) (r := s.r) rfl rfl rfl (by omega)) (trivial) ?_
          refine rE 91 ?_
          refine cSeq ?_
          refine cR ?_
          refine rO 201 (.ptr 57 1) ?_
          refine rO 202 (vU (up4 s.pc)) ?_
          refine rO 203 (.ptr 67 0) ?_
          refine rS (upd _ 67 (some (.box (stL (up4 s.pc) (setR s.r ((wr i).toNat) (valP i.op i.imm s.pc a b)) s.mem s.halt)))) ?_
          refine rE 95 ?_
          refine cSeq ?_
          refine cLate rfl rfl ?_
          refine rO 204 (.agg (stL (up4 s.pc) (setR s.r ((wr i).toNat) (valP i.op i.imm s.pc a b)) s.mem s.halt)) ?_
          refine rO 205 (.agg [vU s.pc, vU (up4 s.pc), vI (wr i), vU (valP i.op i.imm s.pc a b), .v (.int .u32 0), vI 0, .v (.bool false), vI 0, vI 0]) ?_
          refine rS (upd _ 1 (some (.box (stL (up4 s.pc) (setR s.r ((wr i).toNat) (valP i.op i.imm s.pc a b)) s.mem s.halt)))) ?_
          refine rS (upd _ 2 (some (.box [vU s.pc, vU (up4 s.pc), vI (wr i), vU (valP i.op i.imm s.pc a b), .v (.int .u32 0), vI 0, .v (.bool false), vI 0, vI 0]))) ?_
          refine rE 99 ?_
          refine And.intro (by kernel_rfl) ?_
          refine cRet ?_
          exact finTA rfl trivial rfl (by unfold stepP; rw [if_pos (Classical.not_not.1 h1), if_pos (Classical.not_not.1 h2), if_neg (decE_nz h3), hI2]; unfold doI; rw [if_neg h4, if_neg h5, if_neg h6, hA, hB]; unfold reckonP finP; rw [if_neg h13, if_neg (by omega), if_neg h17]; rfl)
         ·skip
          refine cSkip ?_
          refine cSeq ?_
          refine cR ?_
          refine rO 201 (.ptr 57 1) ?_
          refine rO 202 (vU (up4 s.pc)) ?_
          refine rO 203 (.ptr 67 0) ?_
          refine rS (upd _ 67 (some (.box (stL (up4 s.pc) s.r s.mem s.halt)))) ?_
          refine rE 86 ?_
          refine cSeq ?_
          refine cLate rfl rfl ?_
          refine rO 204 (.agg (stL (up4 s.pc) s.r s.mem s.halt)) ?_
          refine rO 205 (.agg [vU s.pc, vU (up4 s.pc), vI (wr i), .v (.int .u32 0), .v (.int .u32 0), vI 0, .v (.bool false), vI 0, vI 0]) ?_
          refine rS (upd _ 1 (some (.box (stL (up4 s.pc) s.r s.mem s.halt)))) ?_
          refine rS (upd _ 2 (some (.box [vU s.pc, vU (up4 s.pc), vI (wr i), .v (.int .u32 0), .v (.int .u32 0), vI 0, .v (.bool false), vI 0, vI 0]))) ?_
          refine rE 90 ?_
          refine And.intro (by kernel_rfl) ?_
          refine cRet ?_
          exact finTA rfl trivial rfl (by unfold stepP; rw [if_pos (Classical.not_not.1 h1), if_pos (Classical.not_not.1 h2), if_neg (decE_nz h3), hI2]; unfold doI; rw [if_neg h4, if_neg h5, if_neg h6, hA, hB]; unfold reckonP finP; rw [if_neg h13, if_pos (by omega), if_neg h17]; rfl)
end Go.Proofs.Ytckjihpdjefpgaa

namespace Go.Proofs.Ytckjihpdjefpgaa
open Go.RowKit


def lowP (x n : Nat) : Nat := joinTo (bytesP x n).data.toList (bytesP x n).size
theorem lowest_any (x n : Nat) (w : World) (hx : x < 4294967296) (hn : n ≤ 4) : Calls Try.prog 36 #[.int .u32 x, .int .i64 n] w fun e w' => e = .returned (.int .u32 (lowP x n)) ∧ Below w.heap.size w w' := by
 have cb := fun w => bytes_any x n w hx hn
 have cj := fun w => join_any (bytesP x n) w (by rw [bytesP_size]; exact hn)
 have hv : joinTo (bytesP x n).data.toList (bytesP x n).size = lowP x n := rfl
 rw [hv] at cj
 clear hv
 generalize lowP x n = v at *
 generalize bytesP x n = s at *
 go_enter Try.func36, Try.ntmps36
 go_wp2_with fail
 refine (cb _).mono ?_; rintro e w1 ⟨rfl, b1⟩
 go_wp2_with fail
 refine (cj _).mono ?_; rintro e w2 ⟨rfl, rfl⟩
 go_wp2_with fail
 go_ret
 exact ⟨rfl, b1⟩

set_option maxRecDepth 100000 in
set_option maxHeartbeats 4000000 in
theorem alive18 (w : World) : Calls Try.prog 10 #[] w fun e w' => e = .returned (.bool true) ∧ Below w.heap.size w w' := by
 have c := fun w => start_any ⟨0, 0, 28, 0, 0, 0, 0, 0, 0, 0, 0, 0, 0, 0, 0, false, false⟩ 1 1 w (by decide) (by decide) (by decide) (by decide)
 have hi : (startP ⟨0, 0, 28, 0, 0, 0, 0, 0, 0, 0, 0, 0, 0, 0, 0, false, false⟩ 1 1).is = 1 := by
  have hk : kindOf 28 = 0 := by decide
  unfold startP
  dsimp only
  rw [hk, if_neg (by decide)]
  unfold startK
  dsimp only
  rw [hk, if_neg (by decide), if_neg (by decide), if_neg (by decide)]
  rfl
 generalize startP ⟨0, 0, 28, 0, 0, 0, 0, 0, 0, 0, 0, 0, 0, 0, 0, false, false⟩ 1 1 = x at *
 have hf : ∀ w, Sem.run Try.prog (Instr.field 26 (.agg #[.int .i64 x.no, .int .u32 x.pc, .int .i64 x.op, .int .i64 x.rd, .int .i64 x.rs1, .int .i64 x.rs2, .int .u32 x.imm, .int .u32 x.guess, .int .i64 1, .int .i64 x.left, .int .u32 x.value, .int .u32 x.next, .int .u32 x.addr, .int .i64 x.halt, .int .i64 x.took, .bool x.known, .bool x.filled]) 4) w = .ok (.int .i64 1) w := fun w => by kernel_rfl
 go_enter Try.func10, Try.ntmps10
 go_wp2_with fail
 refine (c _).mono ?_; rintro e w1 ⟨rfl, b1⟩
 go_wp2_with fail
 go_ret
 exact ⟨rfl, b1⟩

/-- How an entry that goes for L cycles is behind k of them. -/
def agedP (x : En) (L k : Nat) : En := if k < L then { x with left := (L : Int) - k } else { x with left := 0, is := 3, known := if kindOf x.op = 5 ∧ x.halt = 0 then true else x.known }
theorem wrap64_small (n : Int) (h1 : -9223372036854775808 ≤ n) (h2 : n < 9223372036854775808) : wrap64 n = n := by unfold wrap64; omega
theorem go_aged (x : En) (L k : Nat) (hx : x.is = 1) (hk : k < L) (hL : L ≤ 50) : goP (agedP x L k) = agedP x L (k + 1) := by
 have ha : agedP x L k = { x with left := (L : Int) - k } := by unfold agedP; rw [if_pos hk]
 rw [ha]
 unfold goP
 have hw : wrap64 ((L : Int) - k - 1) = (L : Int) - k - 1 := wrap64_small _ (by omega) (by omega)
 dsimp only
 rw [if_neg (by simp [hx]), hw]
 unfold agedP
 by_cases h : k + 1 < L
 ·rw [if_neg (by omega), if_pos h]
  congr 1
  omega
 ·rw [if_pos (by omega), if_neg h]


abbrev encE (e : En) : List AV := [.v (.int .i64 e.no), .v (.int .u32 (e.pc : Int)), .v (.int .i64 e.op), .v (.int .i64 e.rd), .v (.int .i64 e.rs1), .v (.int .i64 e.rs2), .v (.int .u32 (e.imm : Int)), .v (.int .u32 e.guess), .v (.int .i64 e.is), .v (.int .i64 e.left), .v (.int .u32 e.value), .v (.int .u32 e.next), .v (.int .u32 e.addr), .v (.int .i64 e.halt), .v (.int .i64 e.took), .v (.bool e.known), .v (.bool e.filled)]

theorem dStart (e : En) (a b : Nat) (hi : e.imm < 4294967296) (hp : e.pc < 4294967296) (ha : a < 4294967296) (hb : b < 4294967296) : DCall C0 9 [.agg (encE e), .v (.int .u32 a), .v (.int .u32 b)] (.agg (encE (startP e a b))) :=
 .of_flat Try.func9 rfl rfl rfl rfl fun w => start_any e a b w hi hp ha hb
theorem dAddr (e : En) (size : Int) (a : Nat) (hs : size < 9223372036854775808) : DCall C0 13 [.agg (encE e), .v (.int .i64 size), .v (.int .u32 a)] (.agg (encE (addrP e size a))) :=
 .of_flat Try.func13 rfl rfl rfl rfl fun w => addr_any e size a w hs
theorem dGo (e : En) : DCall C0 11 [.agg (encE e)] (.agg (encE (goP e))) :=
 .of_flat Try.func11 rfl rfl rfl rfl fun w => go_any e w
theorem dTake (e : En) (sb : ByteArray) (hs : sb.size < 9223372036854775808) : DCall C0 14 [.agg (encE e), .v (.string sb)] (.agg (encE (takeP e (loadP e.op sb)))) :=
 .of_flat Try.func14 rfl rfl rfl rfl fun w => take_any e sb _ w (fun w => load_any e.op sb w hs)
theorem dStore (e : En) (b : Nat) (hb : b < 4294967296) : DCall C0 15 [.agg (encE e), .v (.int .u32 b)] (.agg (encE (storeP e (lowP b (sizeOf' e.op))))) :=
 .of_flat Try.func15 rfl rfl rfl rfl fun w => store_any e b _ w (fun w => lowest_any b (sizeOf' e.op) w hb (size_le4 e.op))
theorem dAlive : DCall C0 10 [] (.v (.bool true)) :=
 .of_flat Try.func10 rfl rfl rfl rfl fun w => alive18 w

/-- What an entry tells. -/
structure ToI where
 pc : Int
 next : Int
 rd : Int
 value : Int
 addr : Int
 size : Int
 store : Bool
 halt : Int
 took : Int
def toI (e : En) : ToI :=
 if e.halt ≠ 0 then ⟨e.pc, e.pc, 0, 0, if e.halt = 4 ∨ e.halt = 5 then e.addr else 0, 0, false, e.halt, 0⟩
 else if kindOf e.op = 4 then ⟨e.pc, (up4 e.pc : Nat), wrP e.op e.rd, e.value, e.addr, (sizeOf' e.op : Nat), true, 0, 0⟩
 else if kindOf e.op = 3 then ⟨e.pc, (up4 e.pc : Nat), wrP e.op e.rd, if wrP e.op e.rd ≠ 0 then e.value else 0, e.addr, (sizeOf' e.op : Nat), false, 0, 0⟩
 else if kindOf e.op = 2 then ⟨e.pc, (up4 e.pc : Nat), wrP e.op e.rd, if wrP e.op e.rd ≠ 0 then e.value else 0, 0, 0, false, 0, e.took⟩
 else if kindOf e.op = 5 then ⟨e.pc, e.next, wrP e.op e.rd, if wrP e.op e.rd ≠ 0 then e.value else 0, 0, 0, false, 0, 0⟩
 else ⟨e.pc, (up4 e.pc : Nat), wrP e.op e.rd, if wrP e.op e.rd ≠ 0 then e.value else 0, 0, 0, false, 0, 0⟩
abbrev toL (x : ToI) : List AV := [.v (.int .u32 x.pc), .v (.int .u32 x.next), .v (.int .i64 x.rd), .v (.int .u32 x.value), .v (.int .u32 x.addr), .v (.int .i64 x.size), .v (.bool x.store), .v (.int .i64 x.halt), .v (.int .i64 x.took)]
abbrev regL (r : Nat → Nat) : List AV := [.v (.int .u32 (r 0 : Int)), .v (.int .u32 (r 1 : Int)), .v (.int .u32 (r 2 : Int)), .v (.int .u32 (r 3 : Int)), .v (.int .u32 (r 4 : Int)), .v (.int .u32 (r 5 : Int)), .v (.int .u32 (r 6 : Int)), .v (.int .u32 (r 7 : Int)), .v (.int .u32 (r 8 : Int)), .v (.int .u32 (r 9 : Int)), .v (.int .u32 (r 10 : Int)), .v (.int .u32 (r 11 : Int)), .v (.int .u32 (r 12 : Int)), .v (.int .u32 (r 13 : Int)), .v (.int .u32 (r 14 : Int)), .v (.int .u32 (r 15 : Int)), .v (.int .u32 (r 16 : Int)), .v (.int .u32 (r 17 : Int)), .v (.int .u32 (r 18 : Int)), .v (.int .u32 (r 19 : Int)), .v (.int .u32 (r 20 : Int)), .v (.int .u32 (r 21 : Int)), .v (.int .u32 (r 22 : Int)), .v (.int .u32 (r 23 : Int)), .v (.int .u32 (r 24 : Int)), .v (.int .u32 (r 25 : Int)), .v (.int .u32 (r 26 : Int)), .v (.int .u32 (r 27 : Int)), .v (.int .u32 (r 28 : Int)), .v (.int .u32 (r 29 : Int)), .v (.int .u32 (r 30 : Int)), .v (.int .u32 (r 31 : Int))]
theorem ldL (r : Nat → Nat) (n : Nat) (hn : n < 32) : okO (nthO (regL r) (0 + n * 1)) = .ok (.v (.int .u32 (r n : Int))) := by
 have : ∀ (n : _root_.Fin 32), okO (nthO (regL r) (0 + n.1 * 1)) = .ok (.v (.int .u32 (r n.1 : Int))) := by
  intro n
  match n with
  | ⟨0, _⟩ => rfl
  | ⟨1, _⟩ => rfl
  | ⟨2, _⟩ => rfl
  | ⟨3, _⟩ => rfl
  | ⟨4, _⟩ => rfl
  | ⟨5, _⟩ => rfl
  | ⟨6, _⟩ => rfl
  | ⟨7, _⟩ => rfl
  | ⟨8, _⟩ => rfl
  | ⟨9, _⟩ => rfl
  | ⟨10, _⟩ => rfl
  | ⟨11, _⟩ => rfl
  | ⟨12, _⟩ => rfl
  | ⟨13, _⟩ => rfl
  | ⟨14, _⟩ => rfl
  | ⟨15, _⟩ => rfl
  | ⟨16, _⟩ => rfl
  | ⟨17, _⟩ => rfl
  | ⟨18, _⟩ => rfl
  | ⟨19, _⟩ => rfl
  | ⟨20, _⟩ => rfl
  | ⟨21, _⟩ => rfl
  | ⟨22, _⟩ => rfl
  | ⟨23, _⟩ => rfl
  | ⟨24, _⟩ => rfl
  | ⟨25, _⟩ => rfl
  | ⟨26, _⟩ => rfl
  | ⟨27, _⟩ => rfl
  | ⟨28, _⟩ => rfl
  | ⟨29, _⟩ => rfl
  | ⟨30, _⟩ => rfl
  | ⟨31, _⟩ => rfl
  | ⟨k + 32, h⟩ => exact absurd h (by omega)
 exact this ⟨n, hn⟩
def goN : Nat → En → En
 | 0, e => e
 | k + 1, e => goN k (goP e)
theorem goN_succ : ∀ (k : Nat) (e : En), goN (k + 1) e = goP (goN k e)
 | 0, _ => rfl
 | k + 1, e => goN_succ k (goP e)
theorem mk_prog (x A : Nat) : (List.replicate (A + 1) [AV.v (.int .u32 0)]).set A (rowU x) = (List.replicate A 0 ++ [x]).map rowU := by
 induction A with
 | zero => rfl
 | succ A ih => rw [List.replicate_succ, List.set_cons_succ, ih, List.replicate_succ]; rfl

set_option maxRecDepth 100000 in
set_option maxHeartbeats 4000000 in
theorem dTold (e : En) (hpc : e.pc ≤ 4294967295) (him : e.imm ≤ 4294967295) : DCall C0 21 [.agg (encE e)] (.agg (toL (toI e))) := by
 refine DCall.intro c0Ok Try.func21 rfl rfl (by kernel_rfl) rfl ?_
 refine cSeq ?_
 refine cR ?_
 refine rFx (d := 1) (x := .ptr 0 0) (h' := upd _ 0 (some (.box (encE e)))) rfl rfl (rfl) (trivial) ?_
 refine rFx (d := 2) (x := .ptr 1 0) (h' := upd _ 1 (some (.box [.v (.int .u32 0), .v (.int .u32 0), vI 0, .v (.int .u32 0), .v (.int .u32 0), vI 0, .v (.bool false), vI 0, vI 0]))) rfl rfl (rfl) (trivial) ?_
 refine rE 2 ?_
 refine cSeq ?_
 refine cSeq ?_
 refine cR ?_
 refine rO 5 (.ptr 0 13) ?_
 refine rO 6 (vI e.halt) ?_
 refine rO 7 (.v (.bool (e.halt != 0))) ?_
 refine rE 5 ?_
 refine cCond (v := e.halt != 0) rfl (fun h1 => ?_) (fun h1 => ?_)
 ·skip
  refine cSeq ?_
  refine cR ?_
  refine rO 8 (.ptr 0 1) ?_
  refine rO 9 (vU e.pc) ?_
  refine rO 10 (.ptr 0 1) ?_
  refine rO 11 (vU e.pc) ?_
  refine rO 12 (.ptr 0 13) ?_
  refine rO 13 (vI e.halt) ?_
  refine rO 14 (.agg [vU e.pc, vU e.pc, vI 0, .v (.int .u32 0), .v (.int .u32 0), vI 0, .v (.bool false), vI e.halt, vI 0]) ?_
  refine rFx (d := 3) (x := .ptr 12 0) (h' := upd _ 12 (some (.box [.v (.int .u32 0), .v (.int .u32 0), vI 0, .v (.int .u32 0), .v (.int .u32 0), vI 0, .v (.bool false), vI 0, vI 0]))) rfl rfl (rfl) (trivial) ?_
  refine rFx0 (h' := upd _ 12 (some (.box [vU e.pc, vU e.pc, vI 0, .v (.int .u32 0), .v (.int .u32 0), vI 0, .v (.bool false), vI e.halt, vI 0]))) rfl rfl (rfl) (trivial) ?_
  refine rE 14 ?_
  refine cSeq ?_
  refine cSeq ?_
  refine cR ?_
  refine rO 15 (.ptr 0 13) ?_
  refine rO 16 (vI e.halt) ?_
  refine rO 17 (.v (.bool (e.halt == 4))) ?_
  refine rO 18 (.v (.bool (e.halt == 4))) ?_
  refine gOk (d := 19) (x := .ptr 0 13) (g := !(e.halt == 4)) rfl rfl rfl rfl rfl rfl ?_
  refine gOkS (d := 20) (x := vI e.halt) (g := !(e.halt == 4)) rfl rfl rfl rfl (fun h => h) rfl rfl ?_
  refine gOkS (d := 21) (x := .v (.bool (e.halt == 5))) (g := !(e.halt == 4)) rfl rfl rfl rfl (fun h => h) rfl rfl ?_
  refine rNeed (d := 22) (x := .v (.bool (cond2 (e.halt == 4) true (e.halt == 5)))) rfl rfl rfl (by simp) ?_
  refine rE 22 ?_
  refine cCond (v := cond2 (e.halt == 4) true (e.halt == 5)) rfl (fun h2 => ?_) (fun h2 => ?_)
  ·skip
   refine cR ?_
   refine rO 23 (.ptr 0 12) ?_
   refine rO 24 (.v (.int .u32 e.addr)) ?_
   refine rO 25 (.ptr 12 4) ?_
   refine rFx0 (h' := upd _ 12 (some (.box [vU e.pc, vU e.pc, vI 0, .v (.int .u32 0), .v (.int .u32 e.addr), vI 0, .v (.bool false), vI e.halt, vI 0]))) rfl rfl (rfl) (trivial) ?_
   refine rE 26 ?_
   refine cSeq ?_
   refine cR ?_
   refine rO 26 (.agg [vU e.pc, vU e.pc, vI 0, .v (.int .u32 0), .v (.int .u32 e.addr), vI 0, .v (.bool false), vI e.halt, vI 0]) ?_
   refine rFx0 (h' := upd _ 1 (some (.box [vU e.pc, vU e.pc, vI 0, .v (.int .u32 0), .v (.int .u32 e.addr), vI 0, .v (.bool false), vI e.halt, vI 0]))) rfl rfl (rfl) (trivial) ?_
   refine rE 28 ?_
   refine cRet ?_
   refine finTA rfl (by repeat' constructor) rfl ?_
   show (.agg [.v (.int .u32 ((e.pc : Nat) : Int)), .v (.int .u32 ((e.pc : Nat) : Int)), .v (.int .i64 0), .v (.int .u32 0), .v (.int .u32 e.addr), .v (.int .i64 0), .v (.bool false), .v (.int .i64 e.halt), .v (.int .i64 0)] : AV) = .agg (toL (toI e))
   try simp only [c2] at *
   simp_all [toI, up4]
   try omega
  ·skip
   refine cSkip ?_
   refine cSeq ?_
   refine cR ?_
   refine rO 26 (.agg [vU e.pc, vU e.pc, vI 0, .v (.int .u32 0), .v (.int .u32 0), vI 0, .v (.bool false), vI e.halt, vI 0]) ?_
   refine rFx0 (h' := upd _ 1 (some (.box [vU e.pc, vU e.pc, vI 0, .v (.int .u32 0), .v (.int .u32 0), vI 0, .v (.bool false), vI e.halt, vI 0]))) rfl rfl (rfl) (trivial) ?_
   refine rE 24 ?_
   refine cRet ?_
   refine finTA rfl (by repeat' constructor) rfl ?_
   show (.agg [.v (.int .u32 ((e.pc : Nat) : Int)), .v (.int .u32 ((e.pc : Nat) : Int)), .v (.int .i64 0), .v (.int .u32 0), .v (.int .u32 0), .v (.int .i64 0), .v (.bool false), .v (.int .i64 e.halt), .v (.int .i64 0)] : AV) = .agg (toL (toI e))
   try simp only [c2] at *
   simp_all [toI, up4]
   try omega
 ·skip
  refine cSkip ?_
  refine cSeq ?_
  refine cR ?_
  refine rO 27 (.ptr 0 1) ?_
  refine rO 28 (vU e.pc) ?_
  refine rO 29 (.ptr 0 1) ?_
  refine rO 30 (vU e.pc) ?_
  have b1 : (e.pc + 4) % 4294967296 ≤ 4294967295 := Nat.le_of_lt_succ (Nat.mod_lt _ (by decide))
  refine rO 31 (vU ((e.pc + 4) % 4294967296)) ?_
  refine rO 32 (.ptr 0 2) ?_
  refine rO 33 (.agg [vI e.op, vI e.rd, vI e.rs1, vI e.rs2, vU e.imm]) ?_
  refine rCall (args := [.agg [vI e.op, vI e.rd, vI e.rs1, vI e.rs2, vU e.imm]]) (d := 34) (x := vI (wrP e.op e.rd)) rfl rfl rfl rfl (.inl rfl) rfl (dWrites ⟨e.op, e.rd, e.rs1, e.rs2, e.imm⟩) ?_
  refine rO 35 (.agg [vU e.pc, vU ((e.pc + 4) % 4294967296), vI (wrP e.op e.rd), .v (.int .u32 0), .v (.int .u32 0), vI 0, .v (.bool false), vI 0, vI 0]) ?_
  refine rFx (d := 4) (x := .ptr 14 0) (h' := upd _ 14 (some (.box [.v (.int .u32 0), .v (.int .u32 0), vI 0, .v (.int .u32 0), .v (.int .u32 0), vI 0, .v (.bool false), vI 0, vI 0]))) rfl rfl (rfl) (trivial) ?_
  refine rFx0 (h' := upd _ 14 (some (.box [vU e.pc, vU ((e.pc + 4) % 4294967296), vI (wrP e.op e.rd), .v (.int .u32 0), .v (.int .u32 0), vI 0, .v (.bool false), vI 0, vI 0]))) rfl rfl (rfl) (trivial) ?_
  refine rE 16 ?_
  refine cSeq ?_
  refine cSeq ?_
  refine cR ?_
  refine rO 36 (.ptr 14 2) ?_
  refine rO 37 (vI (wrP e.op e.rd)) ?_
  refine rO 38 (.v (.bool ((wrP e.op e.rd) != 0))) ?_
  refine rE 19 ?_
  refine cCond (v := (wrP e.op e.rd) != 0) rfl (fun h3 => ?_) (fun h3 => ?_)
  ·skip
   refine cR ?_
   refine rO 39 (.ptr 0 10) ?_
   refine rO 40 (.v (.int .u32 e.value)) ?_
   refine rO 41 (.ptr 14 3) ?_
   refine rFx0 (h' := upd _ 14 (some (.box [vU e.pc, vU ((e.pc + 4) % 4294967296), vI (wrP e.op e.rd), .v (.int .u32 e.value), .v (.int .u32 0), vI 0, .v (.bool false), vI 0, vI 0]))) rfl rfl (rfl) (trivial) ?_
   refine rE 23 ?_
   refine cSeq ?_
   refine cSeq ?_
   refine cR ?_
   refine rO 42 (.ptr 0 2) ?_
   refine rO 43 (.agg [vI e.op, vI e.rd, vI e.rs1, vI e.rs2, vU e.imm]) ?_
   refine rCall (args := [.agg [vI e.op, vI e.rd, vI e.rs1, vI e.rs2, vU e.imm]]) (d := 44) (x := vN (kindOf e.op)) rfl rfl rfl rfl (.inl rfl) rfl (dKind ⟨e.op, e.rd, e.rs1, e.rs2, e.imm⟩) ?_
   refine rE 26 ?_
   refine cBlock ?_
   refine cSeq ?_
   refine cBlock ?_
   refine cSeq ?_
   refine cBlock ?_
   refine cSeq ?_
   refine cBlock ?_
   refine cSeq ?_
   refine cBlock ?_
   refine cSeq ?_
   refine cSeq ?_
   refine cSeq ?_
   refine cR ?_
   refine rOk (d := 46) (x := .v (.bool ((kindOf e.op) == 4))) rfl rfl (okB (eqN _ _)) ?_
   refine rO 45 (.v (.bool ((kindOf e.op) == 4))) ?_
   refine rE 28 ?_
   refine cCond (v := (kindOf e.op) == 4) rfl (fun h4 => ?_) (fun h4 => ?_)
   ·skip
    refine cExit ?_
    refine cSeq ?_
    refine cR ?_
    refine rO 53 (.ptr 14 6) ?_
    refine rFx0 (h' := upd _ 14 (some (.box [vU e.pc, vU ((e.pc + 4) % 4294967296), vI (wrP e.op e.rd), .v (.int .u32 e.value), .v (.int .u32 0), vI 0, .v (.bool true), vI 0, vI 0]))) rfl rfl (rfl) (trivial) ?_
    refine rE 30 ?_
    refine cR ?_
    refine rO 54 (.ptr 0 10) ?_
    refine rO 55 (.v (.int .u32 e.value)) ?_
    refine rO 56 (.ptr 14 3) ?_
    refine rFx0 (h' := upd _ 14 (some (.box [vU e.pc, vU ((e.pc + 4) % 4294967296), vI (wrP e.op e.rd), .v (.int .u32 e.value), .v (.int .u32 0), vI 0, .v (.bool true), vI 0, vI 0]))) rfl rfl (rfl) (trivial) ?_
    refine rE 34 ?_
    refine cSeq ?_
    refine cSeq ?_
    refine cR ?_
    refine rO 57 (.ptr 0 12) ?_
    refine rO 58 (.v (.int .u32 e.addr)) ?_
    refine rO 59 (.ptr 14 4) ?_
    refine rFx0 (h' := upd _ 14 (some (.box [vU e.pc, vU ((e.pc + 4) % 4294967296), vI (wrP e.op e.rd), .v (.int .u32 e.value), .v (.int .u32 e.addr), vI 0, .v (.bool true), vI 0, vI 0]))) rfl rfl (rfl) (trivial) ?_
    refine rE 38 ?_
    refine cR ?_
    refine rO 60 (.ptr 0 2) ?_
    refine rO 61 (.agg [vI e.op, vI e.rd, vI e.rs1, vI e.rs2, vU e.imm]) ?_
    refine rCall (args := [.agg [vI e.op, vI e.rd, vI e.rs1, vI e.rs2, vU e.imm]]) (d := 62) (x := vN (sizeOf' e.op)) rfl rfl rfl rfl (.inl rfl) rfl (dSize ⟨e.op, e.rd, e.rs1, e.rs2, e.imm⟩) ?_
    refine rO 63 (.ptr 14 5) ?_
    refine rFx0 (h' := upd _ 14 (some (.box [vU e.pc, vU ((e.pc + 4) % 4294967296), vI (wrP e.op e.rd), .v (.int .u32 e.value), .v (.int .u32 e.addr), vN (sizeOf' e.op), .v (.bool true), vI 0, vI 0]))) rfl rfl (rfl) (trivial) ?_
    refine rE 43 ?_
    refine cExit ?_
    refine cSeq ?_
    refine cR ?_
    refine rO 70 (.agg [vU e.pc, vU ((e.pc + 4) % 4294967296), vI (wrP e.op e.rd), .v (.int .u32 e.value), .v (.int .u32 e.addr), vN (sizeOf' e.op), .v (.bool true), vI 0, vI 0]) ?_
    refine rFx0 (h' := upd _ 1 (some (.box [vU e.pc, vU ((e.pc + 4) % 4294967296), vI (wrP e.op e.rd), .v (.int .u32 e.value), .v (.int .u32 e.addr), vN (sizeOf' e.op), .v (.bool true), vI 0, vI 0]))) rfl rfl (rfl) (trivial) ?_
    refine rE 45 ?_
    refine cRet ?_
    refine finTA rfl (by repeat' constructor) rfl ?_
    show (.agg [.v (.int .u32 ((e.pc : Nat) : Int)), .v (.int .u32 (((e.pc + 4) % 4294967296 : Nat) : Int)), .v (.int .i64 (wrP e.op e.rd)), .v (.int .u32 e.value), .v (.int .u32 e.addr), .v (.int .i64 ((sizeOf' e.op : Nat) : Int)), .v (.bool true), .v (.int .i64 0), .v (.int .i64 0)] : AV) = .agg (toL (toI e))
    try simp only [c2] at *
    simp_all [toI, up4]
    try omega
   ·skip
    refine cSkip ?_
    refine cSeq ?_
    refine cSeq ?_
    refine cR ?_
    refine rOk (d := 48) (x := .v (.bool ((kindOf e.op) == 3))) rfl rfl (okB (eqN _ _)) ?_
    refine rO 47 (.v (.bool ((kindOf e.op) == 3))) ?_
    refine rE 30 ?_
    refine cCond (v := (kindOf e.op) == 3) rfl (fun h5 => ?_) (fun h5 => ?_)
    ·skip
     refine cExit ?_
     refine cSeq ?_
     refine cSeq ?_
     refine cR ?_
     refine rO 57 (.ptr 0 12) ?_
     refine rO 58 (.v (.int .u32 e.addr)) ?_
     refine rO 59 (.ptr 14 4) ?_
     refine rFx0 (h' := upd _ 14 (some (.box [vU e.pc, vU ((e.pc + 4) % 4294967296), vI (wrP e.op e.rd), .v (.int .u32 e.value), .v (.int .u32 e.addr), vI 0, .v (.bool false), vI 0, vI 0]))) rfl rfl (rfl) (trivial) ?_
     refine rE 34 ?_
     refine cR ?_
     refine rO 60 (.ptr 0 2) ?_
     refine rO 61 (.agg [vI e.op, vI e.rd, vI e.rs1, vI e.rs2, vU e.imm]) ?_
     refine rCall (args := [.agg [vI e.op, vI e.rd, vI e.rs1, vI e.rs2, vU e.imm]]) (d := 62) (x := vN (sizeOf' e.op)) rfl rfl rfl rfl (.inl rfl) rfl (dSize ⟨e.op, e.rd, e.rs1, e.rs2, e.imm⟩) ?_
     refine rO 63 (.ptr 14 5) ?_
     refine rFx0 (h' := upd _ 14 (some (.box [vU e.pc, vU ((e.pc + 4) % 4294967296), vI (wrP e.op e.rd), .v (.int .u32 e.value), .v (.int .u32 e.addr), vN (sizeOf' e.op), .v (.bool false), vI 0, vI 0]))) rfl rfl (rfl) (trivial) ?_
     refine rE 39 ?_
     refine cExit ?_
     refine cSeq ?_
     refine cR ?_
     refine rO 70 (.agg [vU e.pc, vU ((e.pc + 4) % 4294967296), vI (wrP e.op e.rd), .v (.int .u32 e.value), .v (.int .u32 e.addr), vN (sizeOf' e.op), .v (.bool false), vI 0, vI 0]) ?_
     refine rFx0 (h' := upd _ 1 (some (.box [vU e.pc, vU ((e.pc + 4) % 4294967296), vI (wrP e.op e.rd), .v (.int .u32 e.value), .v (.int .u32 e.addr), vN (sizeOf' e.op), .v (.bool false), vI 0, vI 0]))) rfl rfl (rfl) (trivial) ?_
     refine rE 41 ?_
     refine cRet ?_
     refine finTA rfl (by repeat' constructor) rfl ?_
     show (.agg [.v (.int .u32 ((e.pc : Nat) : Int)), .v (.int .u32 (((e.pc + 4) % 4294967296 : Nat) : Int)), .v (.int .i64 (wrP e.op e.rd)), .v (.int .u32 e.value), .v (.int .u32 e.addr), .v (.int .i64 ((sizeOf' e.op : Nat) : Int)), .v (.bool false), .v (.int .i64 0), .v (.int .i64 0)] : AV) = .agg (toL (toI e))
     try simp only [c2] at *
     simp_all [toI, up4]
     try omega
    ·skip
     refine cSkip ?_
     refine cSeq ?_
     refine cSeq ?_
     refine cR ?_
     refine rOk (d := 50) (x := .v (.bool ((kindOf e.op) == 2))) rfl rfl (okB (eqN _ _)) ?_
     refine rO 49 (.v (.bool ((kindOf e.op) == 2))) ?_
     refine rE 32 ?_
     refine cCond (v := (kindOf e.op) == 2) rfl (fun h6 => ?_) (fun h6 => ?_)
     ·skip
      refine cExit ?_
      refine cSeq ?_
      refine cR ?_
      refine rO 64 (.ptr 0 14) ?_
      refine rO 65 (vI e.took) ?_
      refine rO 66 (.ptr 14 8) ?_
      refine rFx0 (h' := upd _ 14 (some (.box [vU e.pc, vU ((e.pc + 4) % 4294967296), vI (wrP e.op e.rd), .v (.int .u32 e.value), .v (.int .u32 0), vI 0, .v (.bool false), vI 0, vI e.took]))) rfl rfl (rfl) (trivial) ?_
      refine rE 36 ?_
      refine cExit ?_
      refine cSeq ?_
      refine cR ?_
      refine rO 70 (.agg [vU e.pc, vU ((e.pc + 4) % 4294967296), vI (wrP e.op e.rd), .v (.int .u32 e.value), .v (.int .u32 0), vI 0, .v (.bool false), vI 0, vI e.took]) ?_
      refine rFx0 (h' := upd _ 1 (some (.box [vU e.pc, vU ((e.pc + 4) % 4294967296), vI (wrP e.op e.rd), .v (.int .u32 e.value), .v (.int .u32 0), vI 0, .v (.bool false), vI 0, vI e.took]))) rfl rfl (rfl) (trivial) ?_
      refine rE 38 ?_
      refine cRet ?_
      refine finTA rfl (by repeat' constructor) rfl ?_
      show (.agg [.v (.int .u32 ((e.pc : Nat) : Int)), .v (.int .u32 (((e.pc + 4) % 4294967296 : Nat) : Int)), .v (.int .i64 (wrP e.op e.rd)), .v (.int .u32 e.value), .v (.int .u32 0), .v (.int .i64 0), .v (.bool false), .v (.int .i64 0), .v (.int .i64 e.took)] : AV) = .agg (toL (toI e))
      try simp only [c2] at *
      simp_all [toI, up4]
      try omega
     ·skip
      refine cSkip ?_
      refine cSeq ?_
      refine cR ?_
      refine rOk (d := 52) (x := .v (.bool ((kindOf e.op) == 5))) rfl rfl (okB (eqN _ _)) ?_
      refine rO 51 (.v (.bool ((kindOf e.op) == 5))) ?_
      refine rE 34 ?_
      refine cCond (v := (kindOf e.op) == 5) rfl (fun h7 => ?_) (fun h7 => ?_)
      ·skip
       refine cExit ?_
       refine cSeq ?_
       refine cR ?_
       refine rO 67 (.ptr 0 11) ?_
       refine rO 68 (.v (.int .u32 e.next)) ?_
       refine rO 69 (.ptr 14 1) ?_
       refine rFx0 (h' := upd _ 14 (some (.box [vU e.pc, .v (.int .u32 e.next), vI (wrP e.op e.rd), .v (.int .u32 e.value), .v (.int .u32 0), vI 0, .v (.bool false), vI 0, vI 0]))) rfl rfl (rfl) (trivial) ?_
       refine rE 38 ?_
       refine cExit ?_
       refine cSeq ?_
       refine cR ?_
       refine rO 70 (.agg [vU e.pc, .v (.int .u32 e.next), vI (wrP e.op e.rd), .v (.int .u32 e.value), .v (.int .u32 0), vI 0, .v (.bool false), vI 0, vI 0]) ?_
       refine rFx0 (h' := upd _ 1 (some (.box [vU e.pc, .v (.int .u32 e.next), vI (wrP e.op e.rd), .v (.int .u32 e.value), .v (.int .u32 0), vI 0, .v (.bool false), vI 0, vI 0]))) rfl rfl (rfl) (trivial) ?_
       refine rE 40 ?_
       refine cRet ?_
       refine finTA rfl (by repeat' constructor) rfl ?_
       show (.agg [.v (.int .u32 ((e.pc : Nat) : Int)), .v (.int .u32 e.next), .v (.int .i64 (wrP e.op e.rd)), .v (.int .u32 e.value), .v (.int .u32 0), .v (.int .i64 0), .v (.bool false), .v (.int .i64 0), .v (.int .i64 0)] : AV) = .agg (toL (toI e))
       try simp only [c2] at *
       simp_all [toI, up4]
       try omega
      ·skip
       refine cSkip ?_
       refine cExit ?_
       refine cSeq ?_
       refine cR ?_
       refine rO 70 (.agg [vU e.pc, vU ((e.pc + 4) % 4294967296), vI (wrP e.op e.rd), .v (.int .u32 e.value), .v (.int .u32 0), vI 0, .v (.bool false), vI 0, vI 0]) ?_
       refine rFx0 (h' := upd _ 1 (some (.box [vU e.pc, vU ((e.pc + 4) % 4294967296), vI (wrP e.op e.rd), .v (.int .u32 e.value), .v (.int .u32 0), vI 0, .v (.bool false), vI 0, vI 0]))) rfl rfl (rfl) (trivial) ?_
       refine rE 36 ?_
       refine cRet ?_
       refine finTA rfl (by repeat' constructor) rfl ?_
       show (.agg [.v (.int .u32 ((e.pc : Nat) : Int)), .v (.int .u32 (((e.pc + 4) % 4294967296 : Nat) : Int)), .v (.int .i64 (wrP e.op e.rd)), .v (.int .u32 e.value), .v (.int .u32 0), .v (.int .i64 0), .v (.bool false), .v (.int .i64 0), .v (.int .i64 0)] : AV) = .agg (toL (toI e))
       try simp only [c2] at *
       simp_all [toI, up4]
       try omega
  ·skip
   refine cSkip ?_
   refine cSeq ?_
   refine cSeq ?_
   refine cR ?_
   refine rO 42 (.ptr 0 2) ?_
   refine rO 43 (.agg [vI e.op, vI e.rd, vI e.rs1, vI e.rs2, vU e.imm]) ?_
   refine rCall (args := [.agg [vI e.op, vI e.rd, vI e.rs1, vI e.rs2, vU e.imm]]) (d := 44) (x := vN (kindOf e.op)) rfl rfl rfl rfl (.inl rfl) rfl (dKind ⟨e.op, e.rd, e.rs1, e.rs2, e.imm⟩) ?_
   refine rE 22 ?_
   refine cBlock ?_
   refine cSeq ?_
   refine cBlock ?_
   refine cSeq ?_
   refine cBlock ?_
   refine cSeq ?_
   refine cBlock ?_
   refine cSeq ?_
   refine cBlock ?_
   refine cSeq ?_
   refine cSeq ?_
   refine cSeq ?_
   refine cR ?_
   refine rOk (d := 46) (x := .v (.bool ((kindOf e.op) == 4))) rfl rfl (okB (eqN _ _)) ?_
   refine rO 45 (.v (.bool ((kindOf e.op) == 4))) ?_
   refine rE 24 ?_
   refine cCond (v := (kindOf e.op) == 4) rfl (fun h8 => ?_) (fun h8 => ?_)
   ·skip
    refine cExit ?_
    refine cSeq ?_
    refine cR ?_
    refine rO 53 (.ptr 14 6) ?_
    refine rFx0 (h' := upd _ 14 (some (.box [vU e.pc, vU ((e.pc + 4) % 4294967296), vI (wrP e.op e.rd), .v (.int .u32 0), .v (.int .u32 0), vI 0, .v (.bool true), vI 0, vI 0]))) rfl rfl (rfl) (trivial) ?_
    refine rE 26 ?_
    refine cR ?_
    refine rO 54 (.ptr 0 10) ?_
    refine rO 55 (.v (.int .u32 e.value)) ?_
    refine rO 56 (.ptr 14 3) ?_
    refine rFx0 (h' := upd _ 14 (some (.box [vU e.pc, vU ((e.pc + 4) % 4294967296), vI (wrP e.op e.rd), .v (.int .u32 e.value), .v (.int .u32 0), vI 0, .v (.bool true), vI 0, vI 0]))) rfl rfl (rfl) (trivial) ?_
    refine rE 30 ?_
    refine cSeq ?_
    refine cSeq ?_
    refine cR ?_
    refine rO 57 (.ptr 0 12) ?_
    refine rO 58 (.v (.int .u32 e.addr)) ?_
    refine rO 59 (.ptr 14 4) ?_
    refine rFx0 (h' := upd _ 14 (some (.box [vU e.pc, vU ((e.pc + 4) % 4294967296), vI (wrP e.op e.rd), .v (.int .u32 e.value), .v (.int .u32 e.addr), vI 0, .v (.bool true), vI 0, vI 0]))) rfl rfl (rfl) (trivial) ?_
    refine rE 34 ?_
    refine cR ?_
    refine rO 60 (.ptr 0 2) ?_
    refine rO 61 (.agg [vI e.op, vI e.rd, vI e.rs1, vI e.rs2, vU e.imm]) ?_
    refine rCall (args := [.agg [vI e.op, vI e.rd, vI e.rs1, vI e.rs2, vU e.imm]]) (d := 62) (x := vN (sizeOf' e.op)) rfl rfl rfl rfl (.inl rfl) rfl (dSize ⟨e.op, e.rd, e.rs1, e.rs2, e.imm⟩) ?_
    refine rO 63 (.ptr 14 5) ?_
    refine rFx0 (h' := upd _ 14 (some (.box [vU e.pc, vU ((e.pc + 4) % 4294967296), vI (wrP e.op e.rd), .v (.int .u32 e.value), .v (.int .u32 e.addr), vN (sizeOf' e.op), .v (.bool true), vI 0, vI 0]))) rfl rfl (rfl) (trivial) ?_
    refine rE 39 ?_
    refine cExit ?_
    refine cSeq ?_
    refine cR ?_
    refine rO 70 (.agg [vU e.pc, vU ((e.pc + 4) % 4294967296), vI (wrP e.op e.rd), .v (.int .u32 e.value), .v (.int .u32 e.addr), vN (sizeOf' e.op), .v (.bool true), vI 0, vI 0]) ?_
    refine rFx0 (h' := upd _ 1 (some (.box [vU e.pc, vU ((e.pc + 4) % 4294967296), vI (wrP e.op e.rd), .v (.int .u32 e.value), .v (.int .u32 e.addr), vN (sizeOf' e.op), .v (.bool true), vI 0, vI 0]))) rfl rfl (rfl) (trivial) ?_
    refine rE 41 ?_
    refine cRet ?_
    refine finTA rfl (by repeat' constructor) rfl ?_
    show (.agg [.v (.int .u32 ((e.pc : Nat) : Int)), .v (.int .u32 (((e.pc + 4) % 4294967296 : Nat) : Int)), .v (.int .i64 (wrP e.op e.rd)), .v (.int .u32 e.value), .v (.int .u32 e.addr), .v (.int .i64 ((sizeOf' e.op : Nat) : Int)), .v (.bool true), .v (.int .i64 0), .v (.int .i64 0)] : AV) = .agg (toL (toI e))
    try simp only [c2] at *
    simp_all [toI, up4]
    try omega
   ·skip
    refine cSkip ?_
    refine cSeq ?_
    refine cSeq ?_
    refine cR ?_
    refine rOk (d := 48) (x := .v (.bool ((kindOf e.op) == 3))) rfl rfl (okB (eqN _ _)) ?_
    refine rO 47 (.v (.bool ((kindOf e.op) == 3))) ?_
    refine rE 26 ?_
    refine cCond (v := (kindOf e.op) == 3) rfl (fun h9 => ?_) (fun h9 => ?_)
    ·skip
     refine cExit ?_
     refine cSeq ?_
     refine cSeq ?_
     refine cR ?_
     refine rO 57 (.ptr 0 12) ?_
     refine rO 58 (.v (.int .u32 e.addr)) ?_
     refine rO 59 (.ptr 14 4) ?_
     refine rFx0 (h' := upd _ 14 (some (.box [vU e.pc, vU ((e.pc + 4) % 4294967296), vI (wrP e.op e.rd), .v (.int .u32 0), .v (.int .u32 e.addr), vI 0, .v (.bool false), vI 0, vI 0]))) rfl rfl (rfl) (trivial) ?_
     refine rE 30 ?_
     refine cR ?_
     refine rO 60 (.ptr 0 2) ?_
     refine rO 61 (.agg [vI e.op, vI e.rd, vI e.rs1, vI e.rs2, vU e.imm]) ?_
     refine rCall (args := [.agg [vI e.op, vI e.rd, vI e.rs1, vI e.rs2, vU e.imm]]) (d := 62) (x := vN (sizeOf' e.op)) rfl rfl rfl rfl (.inl rfl) rfl (dSize ⟨e.op, e.rd, e.rs1, e.rs2, e.imm⟩) ?_
     refine rO 63 (.ptr 14 5) ?_
     refine rFx0 (h' := upd _ 14 (some (.box [vU e.pc, vU ((e.pc + 4) % 4294967296), vI (wrP e.op e.rd), .v (.int .u32 0), .v (.int .u32 e.addr), vN (sizeOf' e.op), .v (.bool false), vI 0, vI 0]))) rfl rfl (rfl) (trivial) ?_
     refine rE 35 ?_
     refine cExit ?_
     refine cSeq ?_
     refine cR ?_
     refine rO 70 (.agg [vU e.pc, vU ((e.pc + 4) % 4294967296), vI (wrP e.op e.rd), .v (.int .u32 0), .v (.int .u32 e.addr), vN (sizeOf' e.op), .v (.bool false), vI 0, vI 0]) ?_
     refine rFx0 (h' := upd _ 1 (some (.box [vU e.pc, vU ((e.pc + 4) % 4294967296), vI (wrP e.op e.rd), .v (.int .u32 0), .v (.int .u32 e.addr), vN (sizeOf' e.op), .v (.bool false), vI 0, vI 0]))) rfl rfl (rfl) (trivial) ?_
     refine rE 37 ?_
     refine cRet ?_
     refine finTA rfl (by repeat' constructor) rfl ?_
     show (.agg [.v (.int .u32 ((e.pc : Nat) : Int)), .v (.int .u32 (((e.pc + 4) % 4294967296 : Nat) : Int)), .v (.int .i64 (wrP e.op e.rd)), .v (.int .u32 0), .v (.int .u32 e.addr), .v (.int .i64 ((sizeOf' e.op : Nat) : Int)), .v (.bool false), .v (.int .i64 0), .v (.int .i64 0)] : AV) = .agg (toL (toI e))
     try simp only [c2] at *
     simp_all [toI, up4]
     try omega
    ·skip
     refine cSkip ?_
     refine cSeq ?_
     refine cSeq ?_
     refine cR ?_
     refine rOk (d := 50) (x := .v (.bool ((kindOf e.op) == 2))) rfl rfl (okB (eqN _ _)) ?_
     refine rO 49 (.v (.bool ((kindOf e.op) == 2))) ?_
     refine rE 28 ?_
     refine cCond (v := (kindOf e.op) == 2) rfl (fun h10 => ?_) (fun h10 => ?_)
     ·skip
      refine cExit ?_
      refine cSeq ?_
      refine cR ?_
      refine rO 64 (.ptr 0 14) ?_
      refine rO 65 (vI e.took) ?_
      refine rO 66 (.ptr 14 8) ?_
      refine rFx0 (h' := upd _ 14 (some (.box [vU e.pc, vU ((e.pc + 4) % 4294967296), vI (wrP e.op e.rd), .v (.int .u32 0), .v (.int .u32 0), vI 0, .v (.bool false), vI 0, vI e.took]))) rfl rfl (rfl) (trivial) ?_
      refine rE 32 ?_
      refine cExit ?_
      refine cSeq ?_
      refine cR ?_
      refine rO 70 (.agg [vU e.pc, vU ((e.pc + 4) % 4294967296), vI (wrP e.op e.rd), .v (.int .u32 0), .v (.int .u32 0), vI 0, .v (.bool false), vI 0, vI e.took]) ?_
      refine rFx0 (h' := upd _ 1 (some (.box [vU e.pc, vU ((e.pc + 4) % 4294967296), vI (wrP e.op e.rd), .v (.int .u32 0), .v (.int .u32 0), vI 0, .v (.bool false), vI 0, vI e.took]))) rfl rfl (rfl) (trivial) ?_
      refine rE 34 ?_
      refine cRet ?_
      refine finTA rfl (by repeat' constructor) rfl ?_
      show (.agg [.v (.int .u32 ((e.pc : Nat) : Int)), .v (.int .u32 (((e.pc + 4) % 4294967296 : Nat) : Int)), .v (.int .i64 (wrP e.op e.rd)), .v (.int .u32 0), .v (.int .u32 0), .v (.int .i64 0), .v (.bool false), .v (.int .i64 0), .v (.int .i64 e.took)] : AV) = .agg (toL (toI e))
      try simp only [c2] at *
      simp_all [toI, up4]
      try omega
     ·skip
      refine cSkip ?_
      refine cSeq ?_
      refine cR ?_
      refine rOk (d := 52) (x := .v (.bool ((kindOf e.op) == 5))) rfl rfl (okB (eqN _ _)) ?_
      refine rO 51 (.v (.bool ((kindOf e.op) == 5))) ?_
      refine rE 30 ?_
      refine cCond (v := (kindOf e.op) == 5) rfl (fun h11 => ?_) (fun h11 => ?_)
      ·skip
       refine cExit ?_
       refine cSeq ?_
       refine cR ?_
       refine rO 67 (.ptr 0 11) ?_
       refine rO 68 (.v (.int .u32 e.next)) ?_
       refine rO 69 (.ptr 14 1) ?_
       refine rFx0 (h' := upd _ 14 (some (.box [vU e.pc, .v (.int .u32 e.next), vI (wrP e.op e.rd), .v (.int .u32 0), .v (.int .u32 0), vI 0, .v (.bool false), vI 0, vI 0]))) rfl rfl (rfl) (trivial) ?_
       refine rE 34 ?_
       refine cExit ?_
       refine cSeq ?_
       refine cR ?_
       refine rO 70 (.agg [vU e.pc, .v (.int .u32 e.next), vI (wrP e.op e.rd), .v (.int .u32 0), .v (.int .u32 0), vI 0, .v (.bool false), vI 0, vI 0]) ?_
       refine rFx0 (h' := upd _ 1 (some (.box [vU e.pc, .v (.int .u32 e.next), vI (wrP e.op e.rd), .v (.int .u32 0), .v (.int .u32 0), vI 0, .v (.bool false), vI 0, vI 0]))) rfl rfl (rfl) (trivial) ?_
       refine rE 36 ?_
       refine cRet ?_
       refine finTA rfl (by repeat' constructor) rfl ?_
       show (.agg [.v (.int .u32 ((e.pc : Nat) : Int)), .v (.int .u32 e.next), .v (.int .i64 (wrP e.op e.rd)), .v (.int .u32 0), .v (.int .u32 0), .v (.int .i64 0), .v (.bool false), .v (.int .i64 0), .v (.int .i64 0)] : AV) = .agg (toL (toI e))
       try simp only [c2] at *
       simp_all [toI, up4]
       try omega
      ·skip
       refine cSkip ?_
       refine cExit ?_
       refine cSeq ?_
       refine cR ?_
       refine rO 70 (.agg [vU e.pc, vU ((e.pc + 4) % 4294967296), vI (wrP e.op e.rd), .v (.int .u32 0), .v (.int .u32 0), vI 0, .v (.bool false), vI 0, vI 0]) ?_
       refine rFx0 (h' := upd _ 1 (some (.box [vU e.pc, vU ((e.pc + 4) % 4294967296), vI (wrP e.op e.rd), .v (.int .u32 0), .v (.int .u32 0), vI 0, .v (.bool false), vI 0, vI 0]))) rfl rfl (rfl) (trivial) ?_
       refine rE 32 ?_
       refine cRet ?_
       refine finTA rfl (by repeat' constructor) rfl ?_
       show (.agg [.v (.int .u32 ((e.pc : Nat) : Int)), .v (.int .u32 (((e.pc + 4) % 4294967296 : Nat) : Int)), .v (.int .i64 (wrP e.op e.rd)), .v (.int .u32 0), .v (.int .u32 0), .v (.int .i64 0), .v (.bool false), .v (.int .i64 0), .v (.int .i64 0)] : AV) = .agg (toL (toI e))
       try simp only [c2] at *
       simp_all [toI, up4]
       try omega

def opN (w : Nat) : SI := decN w
/-- The entry that the law makes, and what is done with it. -/
def en0 (w A : Nat) : En := ⟨0, 4 * A, (decN w).op, (decN w).rd, (decN w).rs1, (decN w).rs2, (decN w).imm, 0, 0, 0, 0, 0, 0, 0, 0, false, false⟩
def en1 (w A : Nat) (r : Nat → Nat) (m : ByteArray) : En := addrP (startP (en0 w A) (r (decN w).rs1.toNat) (r (decN w).rs2.toNat)) (m.size : Nat) (r (decN w).rs1.toNat)
def en2 (w A : Nat) (r : Nat → Nat) (m : ByteArray) : En := takeP (en1 w A r m) (loadP (decN w).op (readP m (en1 w A r m).addr.toNat (sizeOf' (decN w).op)))
def stS (w A : Nat) (r : Nat → Nat) (m : ByteArray) : St := ⟨4 * A, r, m, 0⟩
def prS (w A : Nat) : List Nat := List.replicate A 0 ++ [w]

end Go.Proofs.Ytckjihpdjefpgaa

namespace Go.Proofs.Ytckjihpdjefpgaa
open Go.RowKit Go.ChangeShapes Go.WideShapes Go.ChangeAt Go.Deep

theorem tyv_u32 {cs : List AV} (h : TyV Try.prog 22 cs) : ∃ n : Nat, cs = [.v (.int .u32 (n : Int))] ∧ n ≤ 4294967295 := by
  have hu := Try.underlying22
  cases h with
  | bool h => rw [hu] at h; cases h
  | int h n hn =>
    rw [hu] at h; injection h with h; injection h with h; subst h
    obtain ⟨m, rfl, hm⟩ := u32_nat hn
    exact ⟨m, rfl, by omega⟩
  | string h => rw [hu] at h; cases h
  | slice h => rw [hu] at h; cases h
  | struct h => rw [hu] at h; cases h
  | array h => rw [hu] at h; cases h
theorem flatMap_ext {α β : Type} {f g : α → List β} : ∀ (l : List α), (∀ x ∈ l, f x = g x) → l.flatMap f = l.flatMap g
  | [], _ => rfl
  | x :: l, h => by rw [List.flatMap_cons, List.flatMap_cons, h x (List.mem_cons_self), flatMap_ext l (fun y hy => h y (List.mem_cons_of_mem _ hy))]
theorem tyv_regs {cs : List AV} (h : TyV Try.prog 37 cs) : ∃ r : Nat → Nat, cs = regL r ∧ ∀ k, r k ≤ 4294967295 := by
  have hu := Try.underlying37
  cases h with
  | bool h => rw [hu] at h; cases h
  | int h => rw [hu] at h; cases h
  | string h => rw [hu] at h; cases h
  | slice h => rw [hu] at h; cases h
  | struct h => rw [hu] at h; cases h
  | @array _ e n h parts hp =>
    rw [hu] at h; injection h with h; injection h with h1 h2; subst h1; subst h2
    have hj : ∀ j, ∃ m : Nat, (j < 32 → parts j = [.v (.int .u32 (m : Int))]) ∧ m ≤ 4294967295 := fun j => by
      by_cases hlt : j < 32
      · obtain ⟨m, h1, h2⟩ := tyv_u32 (hp j hlt); exact ⟨m, fun _ => h1, h2⟩
      · exact ⟨0, fun h => absurd h hlt, by omega⟩
    obtain ⟨r, hr⟩ : ∃ r : Nat → Nat, ∀ j, (j < 32 → parts j = [.v (.int .u32 (r j : Int))]) ∧ r j ≤ 4294967295 := ⟨fun j => (hj j).choose, fun j => (hj j).choose_spec⟩
    refine ⟨r, ?_, fun j => (hr j).2⟩
    exact (flatMap_ext (List.range 32) (fun j hj => (hr j).1 (List.mem_range.1 hj))).trans rfl
theorem open_regs {H : Type} {enc : TypeId × Value → H} {w : World} {base : Nat} {spare : Nat → Bool} {held : Bool} {v : Value} {d : DataW H} {p : List MemPlace}
    (h : DataW.Trod enc Try.prog w base spare held 37 v d p) : ∃ r : Nat → Nat, v = .agg #[.int .u32 (r 0 : Int), .int .u32 (r 1 : Int), .int .u32 (r 2 : Int), .int .u32 (r 3 : Int), .int .u32 (r 4 : Int), .int .u32 (r 5 : Int), .int .u32 (r 6 : Int), .int .u32 (r 7 : Int), .int .u32 (r 8 : Int), .int .u32 (r 9 : Int), .int .u32 (r 10 : Int), .int .u32 (r 11 : Int), .int .u32 (r 12 : Int), .int .u32 (r 13 : Int), .int .u32 (r 14 : Int), .int .u32 (r 15 : Int), .int .u32 (r 16 : Int), .int .u32 (r 17 : Int), .int .u32 (r 18 : Int), .int .u32 (r 19 : Int), .int .u32 (r 20 : Int), .int .u32 (r 21 : Int), .int .u32 (r 22 : Int), .int .u32 (r 23 : Int), .int .u32 (r 24 : Int), .int .u32 (r 25 : Int), .int .u32 (r 26 : Int), .int .u32 (r 27 : Int), .int .u32 (r 28 : Int), .int .u32 (r 29 : Int), .int .u32 (r 30 : Int), .int .u32 (r 31 : Int)] ∧ ∀ k, r k ≤ 4294967295 := by
  obtain ⟨fuel, hf⟩ := h
  obtain ⟨cs, ho⟩ := trod_opened 5 fuel _ _ _ hf (by kernel_rfl)
  obtain ⟨r, rfl, hr⟩ := tyv_regs ho.ty
  refine ⟨r, ?_, hr⟩
  have hl : v.cells.toList.length = 32 := ho.rep.1.symm
  cases v with
  | agg vs =>
    obtain ⟨l⟩ := vs
    have hl : l.length = 32 := hl
    have get : ∀ (i : Nat) (x : Value), (regL r)[i]? = some (.v x) → l[i]? = some x := fun i x hx => by
      have hi : i < l.length := by rw [hl]; exact (List.getElem?_eq_some_iff.1 hx).1
      have := ho.rep.2 i _ _ hx (List.getElem?_eq_getElem hi)
      rw [List.getElem?_eq_getElem hi, rep_v this]
    congr 2
    apply List.ext_getElem?
    intro i
    match i with
    | 0 => exact get 0 _ rfl
    | 1 => exact get 1 _ rfl
    | 2 => exact get 2 _ rfl
    | 3 => exact get 3 _ rfl
    | 4 => exact get 4 _ rfl
    | 5 => exact get 5 _ rfl
    | 6 => exact get 6 _ rfl
    | 7 => exact get 7 _ rfl
    | 8 => exact get 8 _ rfl
    | 9 => exact get 9 _ rfl
    | 10 => exact get 10 _ rfl
    | 11 => exact get 11 _ rfl
    | 12 => exact get 12 _ rfl
    | 13 => exact get 13 _ rfl
    | 14 => exact get 14 _ rfl
    | 15 => exact get 15 _ rfl
    | 16 => exact get 16 _ rfl
    | 17 => exact get 17 _ rfl
    | 18 => exact get 18 _ rfl
    | 19 => exact get 19 _ rfl
    | 20 => exact get 20 _ rfl
    | 21 => exact get 21 _ rfl
    | 22 => exact get 22 _ rfl
    | 23 => exact get 23 _ rfl
    | 24 => exact get 24 _ rfl
    | 25 => exact get 25 _ rfl
    | 26 => exact get 26 _ rfl
    | 27 => exact get 27 _ rfl
    | 28 => exact get 28 _ rfl
    | 29 => exact get 29 _ rfl
    | 30 => exact get 30 _ rfl
    | 31 => exact get 31 _ rfl
    | i + 32 => rw [List.getElem?_eq_none (by omega)]; rfl
  | _ => simp [Value.cells] at hl
end Go.Proofs.Ytckjihpdjefpgaa

namespace Go.Proofs.Ytckjihpdjefpgaa
open Go.RowKit Go.ChangeShapes Go.WideShapes

theorem open_str {P : Program} {w : World} {r : Reach} {base : Nat} {t : TypeId} {v : Value} (ht : P.underlying t = some .string) (h : Value.okWide P w r base t v) : ∃ s, v = .string s ∧ s.size < 9223372036854775808 := by
  obtain ⟨s, rfl⟩ := okWide_string ht h
  refine ⟨s, rfl, ?_⟩
  have h2 : IntKind.i64.max = 9223372036854775807 := rfl
  have h3 : (s.size : Int) ≤ IntKind.i64.max := by simpa [Value.okWide, Cell.okWide, Cell.ok, ht] using h
  omega
end Go.Proofs.Ytckjihpdjefpgaa
