/- The reference: Decode, halted, Step; on the second machine. -/
import Derived.Test.YtahnhhbgkmlfcaaDoorQ15
import Derived.Test.YtahnhhbgkmlfcaaDoorRefDec
import Derived.Test.YtahnhhbgkmlfcaaDoorQ19
namespace Go.Proofs.YtahnhhbgkmlfcaaDoor
open Go.RowKit

/-- The same machine, with late regions told by places of memory. -/
noncomputable def C1 : Ctx := { C0 with lt := true }
theorem c1Ok : CtxOk C1 := ⟨c0Ok.1, c0Ok.2⟩
theorem dc1 {f : FuncId} {args : List AV} {r : AV} (h : DCall C1 f args r) : DCall C0 f args r := h
theorem rDec (x : Nat) (hx : x < 4294967296) : DCall C0 37 [.v (.int .u32 (x : Int))] (.tup [siA (decN x), .v (.int .i64 ((decE x : Nat) : Int))]) := by
 by_cases hk : opOf x = 0
 ·have e1 : decN x = ⟨0, 0, 0, 0, 0⟩ := by unfold decN; rw [if_pos hk]; first | rfl | (unfold noSI; rfl)
  have e2 : decE x = 20 := by unfold decE; rw [if_pos hk]
  rw [e1, e2]
  exact .of_tup Tryd.func37 rfl rfl rfl rfl fun w => rdec_no x w hx hk
 ·have e2 : decE x = 0 := by unfold decE; rw [if_neg hk]
  rw [e2]
  exact .of_tup Tryd.func37 rfl rfl rfl rfl fun w => rdec_ok x w hx hk

theorem stR1 {ev : Operand → AV} {h : AH} {s b n v : Nat} {a x : Operand} {pc : Nat} {r : Nat → Nat} {m : ByteArray} {hl : Int} (ha : ev a = .ptr b (1 + n * 1)) (hb : h b = some (.box (stL pc r m hl))) (hx : ev x = .v (.int .u32 (v : Int))) (hn : n < 32) :
  opA C1 ev h s (.store 25 a x) = .fx True .any (upd h b (some (.box (stL pc (setR r n v) m hl)))) := by
 have hty : C1.ty 25 = some ti25 := rfl
 have hc : (1 + n * 1 + ([.v (.int .u32 (v : Int))] : List AV).length).ble (stL pc r m hl).length = true := Nat.ble_eq_true_of_le (by simp; omega)
 simp only [opA, hty, hx, cellsA, ha, hb]
 rw [show ([AV.v (Value.int IntKind.u32 (v : Int))].length.beq 1) = true from rfl]
 simp only
 rw [hc]
 simp only
 rw [putR _ _ _ _ _ _ hn]

set_option maxRecDepth 100000 in
set_option maxHeartbeats 4000000 in
theorem rHalted (s : St) (why : Int) (addr : Nat) (hs : s.ok) (ha : addr ≤ 4294967295) : DCall C0 36 [stA s, .v (.int .i64 why), .v (.int .u32 (addr : Int))] (two (haltP s why addr)) := by
 refine dc1 (DCall.intro c1Ok Tryd.func36 rfl rfl (by kernel_rfl) rfl ?_)
 refine cSeq ?_
 refine cR ?_
 refine rF 3 (.ptr 0 0) (upd _ 0 (some (.box (stL s.pc s.r s.mem s.halt)))) ?_
 refine rF 6 (.ptr 1 0) (upd _ 1 (some (.box (stL 0 (fun _ => 0) (⟨#[]⟩) 0)))) ?_
 refine rF 7 (.ptr 2 0) (upd _ 2 (some (.box [.v (.int .u32 0), .v (.int .u32 0), vI 0, .v (.int .u32 0), .v (.int .u32 0), vI 0, .v (.bool false), vI 0, vI 0]))) ?_
 refine rE 3 ?_
 refine cSeq ?_
 refine cR ?_
 refine rO 9 (.agg (stL s.pc s.r s.mem s.halt)) ?_
 refine rF 8 (.ptr 4 0) (upd _ 4 (some (.box (stL 0 (fun _ => 0) (⟨#[]⟩) 0)))) ?_
 refine rS (upd _ 4 (some (.box (stL s.pc s.r s.mem s.halt)))) ?_
 refine rE 6 ?_
 refine cSeq ?_
 refine cR ?_
 refine rO 10 (vI why) ?_
 refine rO 11 (.ptr 4 34) ?_
 refine rS (upd _ 4 (some (.box (stL s.pc s.r s.mem why)))) ?_
 refine rE 9 ?_
 refine cSeq ?_
 refine cLate rfl rfl ?_
 refine rO 12 (.agg (stL s.pc s.r s.mem why)) ?_
 refine rO 13 (.ptr 0 0) ?_
 refine rO 14 (vU s.pc) ?_
 refine rO 15 (.ptr 0 0) ?_
 refine rO 16 (vU s.pc) ?_
 refine rO 17 (vU addr) ?_
 refine rO 18 (vI why) ?_
 refine rO 19 (.agg [vU s.pc, vU s.pc, vI 0, .v (.int .u32 0), vU addr, vI 0, .v (.bool false), vI why, vI 0]) ?_
 refine rS (upd _ 1 (some (.box (stL s.pc s.r s.mem why)))) ?_
 refine rS (upd _ 2 (some (.box [vU s.pc, vU s.pc, vI 0, .v (.int .u32 0), vU addr, vI 0, .v (.bool false), vI why, vI 0]))) ?_
 refine rE 19 ?_
 refine And.intro (by kernel_rfl) ?_
 refine cRet ?_
 exact finTA rfl trivial rfl rfl
theorem decE_z {x : Nat} (h : ¬ decE x = 0) : opOf x = 0 := Classical.byContradiction fun q => h (by unfold decE; rw [if_neg q])
theorem decE_nz {x : Nat} (h : ¬ ¬ decE x = 0) : ¬ opOf x = 0 := fun q => h (by unfold decE; rw [if_pos q]; decide)

set_option maxRecDepth 100000 in
set_option maxHeartbeats 4000000 in
theorem rStep (prog : List Nat) (s : St) (clip : Bool) (hp : ∀ x ∈ prog, x ≤ 4294967295) (hl : prog.length ≤ 1000000) (hs : s.ok) : DCall C0 24 [.sl 1 (prog.map rowU) clip, stA s] (two (stepP prog s)) := by
 refine dc1 (DCall.intro c1Ok Tryd.func24 rfl rfl (by kernel_rfl) rfl ?_)
 have hfw := fetchW_le hp s.pc
 have hdec := rDec (fetchW prog s.pc) (Nat.lt_succ_of_le hfw)
 have hd := decN_rd (fetchW prog s.pc)
 have hv := wr_lt (fetchW prog s.pc)
 obtain ⟨i, hI⟩ : ∃ i, decN (fetchW prog s.pc) = i := ⟨_, rfl⟩
 have hI2 : insOf prog s = i := hI
 rw [hI] at hdec hd hv
 replace hd : 0 ≤ i.rd ∧ i.rd < 32 ∧ 0 ≤ i.rs1 ∧ i.rs1 < 32 ∧ 0 ≤ i.rs2 ∧ i.rs2 < 32 ∧ i.imm ≤ 4294967295 := ⟨hd.1, hd.2.1, hd.2.2.1, hd.2.2.2.1, hd.2.2.2.2.1, hd.2.2.2.2.2.1, Nat.le_of_lt_succ hd.2.2.2.2.2.2⟩
 obtain ⟨a, hA⟩ : ∃ a, s.r i.rs1.toNat = a := ⟨_, rfl⟩
 obtain ⟨b, hB⟩ : ∃ b, s.r i.rs2.toNat = b := ⟨_, rfl⟩
 have ha : a ≤ 4294967295 := hA ▸ hs.r _
 have hb : b ≤ 4294967295 := hB ▸ hs.r _
 have hnx : nextP i.op i.imm s.pc a b ≤ 4294967295 := Nat.le_of_lt_succ (nextP_lt _ _ _ _ _)
 refine cSeq ?_
 refine cR ?_
 refine rF 3 (.ptr 0 0) (upd _ 0 (some (.box (stL s.pc s.r s.mem s.halt)))) ?_
 refine rF 4 (.ptr 1 0) (upd _ 1 (some (.box (stL 0 (fun _ => 0) (⟨#[]⟩) 0)))) ?_
 refine rF 5 (.ptr 2 0) (upd _ 2 (some (.box [.v (.int .u32 0), .v (.int .u32 0), vI 0, .v (.int .u32 0), .v (.int .u32 0), vI 0, .v (.bool false), vI 0, vI 0]))) ?_
 refine rE 3 ?_
 refine cSeq ?_
 refine cSeq ?_
 refine cR ?_
 refine rO 18 (.ptr 0 34) ?_
 refine rO 19 (vI s.halt) ?_
 refine rO 20 (.v (.bool (s.halt != 0))) ?_
 refine rE 6 ?_
 refine cPr (¬ s.halt = 0) pNe (fun h1 => ?_) (fun h1 => ?_)
 ·skip
  refine cSeq ?_
  refine cR ?_
  refine rO 21 (.agg (stL s.pc s.r s.mem s.halt)) ?_
  refine rO 22 (.agg [.v (.int .u32 0), .v (.int .u32 0), vI 0, .v (.int .u32 0), .v (.int .u32 0), vI 0, .v (.bool false), vI 0, vI 0]) ?_
  refine rS (upd _ 1 (some (.box (stL s.pc s.r s.mem s.halt)))) ?_
  refine rS (upd _ 2 (some (.box [.v (.int .u32 0), .v (.int .u32 0), vI 0, .v (.int .u32 0), .v (.int .u32 0), vI 0, .v (.bool false), vI 0, vI 0]))) ?_
  refine rE 10 ?_
  refine cRet ?_
  exact finTA rfl trivial rfl (by unfold stepP; rw [if_neg h1]; rfl)
 ·skip
  refine cSkip ?_
  refine cSeq ?_
  refine cR ?_
  refine rO 24 (.sl 1 (prog.map rowU) clip) ?_
  refine rO 25 (.ptr 0 0) ?_
  refine rO 26 (vU s.pc) ?_
  refine rCall (args := [.sl 1 (prog.map rowU) clip, vU s.pc]) (d := 27) (x := .tup [vU (fetchW prog s.pc), .v (.bool ((fetchP prog s.pc).isSome))]) rfl rfl rfl rfl (.inl rfl) rfl (rFetch prog s.pc clip hp hl hs.pc) ?_
  refine rO 23 (.tup [vU (fetchW prog s.pc), .v (.bool ((fetchP prog s.pc).isSome))]) ?_
  refine rO 28 (vU (fetchW prog s.pc)) ?_
  refine rO 29 (.v (.bool ((fetchP prog s.pc).isSome))) ?_
  refine rO 6 (vU (fetchW prog s.pc)) ?_
  refine rO 7 (.v (.bool ((fetchP prog s.pc).isSome))) ?_
  refine rE 15 ?_
  refine cSeq ?_
  refine cSeq ?_
  refine cR ?_
  refine rO 30 (.v (.bool ((fetchP prog s.pc).isSome))) ?_
  refine rO 31 (.v (.bool (!((fetchP prog s.pc).isSome)))) ?_
  refine rE 17 ?_
  refine cPr (¬ (((fetchP prog s.pc).isSome) = true)) (pNot Iff.rfl) (fun h2 => ?_) (fun h2 => ?_)
  ·skip
   refine cSeq ?_
   refine cR ?_
   refine rO 32 (.agg (stL s.pc s.r s.mem s.halt)) ?_
   refine rCall (args := [.agg (stL s.pc s.r s.mem s.halt), vI 1, .v (.int .u32 0)]) (d := 33) (x := .tup [.agg (stL s.pc s.r s.mem 1), .agg [vU s.pc, vU s.pc, vI 0, .v (.int .u32 0), .v (.int .u32 0), vI 0, .v (.bool false), vI 1, vI 0]]) rfl rfl rfl rfl (.inl rfl) rfl (rHalted s (1) (0) hs (by decide)) ?_
   refine rO 34 (.agg (stL s.pc s.r s.mem 1)) ?_
   refine rO 35 (.agg [vU s.pc, vU s.pc, vI 0, .v (.int .u32 0), .v (.int .u32 0), vI 0, .v (.bool false), vI 1, vI 0]) ?_
   refine rS (upd _ 1 (some (.box (stL s.pc s.r s.mem 1)))) ?_
   refine rS (upd _ 2 (some (.box [vU s.pc, vU s.pc, vI 0, .v (.int .u32 0), .v (.int .u32 0), vI 0, .v (.bool false), vI 1, vI 0]))) ?_
   refine rE 23 ?_
   refine cRet ?_
   exact finTA rfl trivial rfl (by unfold stepP; rw [if_pos (Classical.not_not.1 h1), if_neg h2]; rfl)
  ·skip
   refine cSkip ?_
   refine cSeq ?_
   refine cR ?_
   refine rO 37 (vU (fetchW prog s.pc)) ?_
   refine rCall (args := [vU (fetchW prog s.pc)]) (d := 38) (x := .tup [.agg [vI i.op, vI i.rd, vI i.rs1, vI i.rs2, vU i.imm], vN (decE (fetchW prog s.pc))]) rfl rfl rfl rfl (.inl rfl) rfl (hdec) ?_
   refine rO 36 (.tup [.agg [vI i.op, vI i.rd, vI i.rs1, vI i.rs2, vU i.imm], vN (decE (fetchW prog s.pc))]) ?_
   refine rO 39 (.agg [vI i.op, vI i.rd, vI i.rs1, vI i.rs2, vU i.imm]) ?_
   refine rO 40 (vN (decE (fetchW prog s.pc))) ?_
   refine rF 8 (.ptr 22 0) (upd _ 22 (some (.box [vI 0, vI 0, vI 0, vI 0, .v (.int .u32 0)]))) ?_
   refine rS (upd _ 22 (some (.box [vI i.op, vI i.rd, vI i.rs1, vI i.rs2, vU i.imm]))) ?_
   refine rO 9 (vN (decE (fetchW prog s.pc))) ?_
   refine rE 25 ?_
   refine cSeq ?_
   refine cSeq ?_
   refine cR ?_
   refine rO 41 (vN (decE (fetchW prog s.pc))) ?_
   refine rX 42 (.v (.bool ((decE (fetchW prog s.pc)) != 0))) (okB (neN _ _)) ?_
   refine rE 27 ?_
   refine cPr (¬ (decE (fetchW prog s.pc)) = 0) pNe (fun h3 => ?_) (fun h3 => ?_)
   ·skip
    refine cSeq ?_
    refine cR ?_
    refine rO 43 (.agg (stL s.pc s.r s.mem s.halt)) ?_
    refine rCall (args := [.agg (stL s.pc s.r s.mem s.halt), vI 2, .v (.int .u32 0)]) (d := 44) (x := .tup [.agg (stL s.pc s.r s.mem 2), .agg [vU s.pc, vU s.pc, vI 0, .v (.int .u32 0), .v (.int .u32 0), vI 0, .v (.bool false), vI 2, vI 0]]) rfl rfl rfl rfl (.inl rfl) rfl (rHalted s (2) (0) hs (by decide)) ?_
    refine rO 45 (.agg (stL s.pc s.r s.mem 2)) ?_
    refine rO 46 (.agg [vU s.pc, vU s.pc, vI 0, .v (.int .u32 0), .v (.int .u32 0), vI 0, .v (.bool false), vI 2, vI 0]) ?_
    refine rS (upd _ 1 (some (.box (stL s.pc s.r s.mem 2)))) ?_
    refine rS (upd _ 2 (some (.box [vU s.pc, vU s.pc, vI 0, .v (.int .u32 0), .v (.int .u32 0), vI 0, .v (.bool false), vI 2, vI 0]))) ?_
    refine rE 33 ?_
    refine cRet ?_
    exact finTA rfl trivial rfl (by unfold stepP; rw [if_pos (Classical.not_not.1 h1), if_pos (Classical.not_not.1 h2), if_pos (decE_z h3)]; rfl)
   ·skip
    refine cSkip ?_
    refine cSeq ?_
    refine cSeq ?_
    refine cR ?_
    refine rO 47 (.ptr 22 0) ?_
    refine rO 48 (vI i.op) ?_
    refine rO 49 (.v (.bool (i.op == 47))) ?_
    refine rE 30 ?_
    refine cEq i.op 47 (fun h4 => ?_) (fun h4 => ?_)
    ·skip
     refine cSeq ?_
     refine cR ?_
     refine rO 50 (.agg (stL s.pc s.r s.mem s.halt)) ?_
     refine rCall (args := [.agg (stL s.pc s.r s.mem s.halt), vI 6, .v (.int .u32 0)]) (d := 51) (x := .tup [.agg (stL s.pc s.r s.mem 6), .agg [vU s.pc, vU s.pc, vI 0, .v (.int .u32 0), .v (.int .u32 0), vI 0, .v (.bool false), vI 6, vI 0]]) rfl rfl rfl rfl (.inl rfl) rfl (rHalted s (6) (0) hs (by decide)) ?_
     refine rO 52 (.agg (stL s.pc s.r s.mem 6)) ?_
     refine rO 53 (.agg [vU s.pc, vU s.pc, vI 0, .v (.int .u32 0), .v (.int .u32 0), vI 0, .v (.bool false), vI 6, vI 0]) ?_
     refine rS (upd _ 1 (some (.box (stL s.pc s.r s.mem 6)))) ?_
     refine rS (upd _ 2 (some (.box [vU s.pc, vU s.pc, vI 0, .v (.int .u32 0), .v (.int .u32 0), vI 0, .v (.bool false), vI 6, vI 0]))) ?_
     refine rE 36 ?_
     refine cRet ?_
     exact finTA rfl trivial rfl (by unfold stepP; rw [if_pos (Classical.not_not.1 h1), if_pos (Classical.not_not.1 h2), if_neg (decE_nz h3), hI2]; unfold doI; rw [if_pos h4]; rfl)
    ·skip
     refine cSkip ?_
     refine cSeq ?_
     refine cSeq ?_
     refine cR ?_
     refine rO 54 (.ptr 22 0) ?_
     refine rO 55 (vI i.op) ?_
     refine rO 56 (.v (.bool (i.op == 48))) ?_
     refine rE 33 ?_
     refine cEq i.op 48 (fun h5 => ?_) (fun h5 => ?_)
     ·skip
      refine cSeq ?_
      refine cR ?_
      refine rO 57 (.agg (stL s.pc s.r s.mem s.halt)) ?_
      refine rCall (args := [.agg (stL s.pc s.r s.mem s.halt), vI 7, .v (.int .u32 0)]) (d := 58) (x := .tup [.agg (stL s.pc s.r s.mem 7), .agg [vU s.pc, vU s.pc, vI 0, .v (.int .u32 0), .v (.int .u32 0), vI 0, .v (.bool false), vI 7, vI 0]]) rfl rfl rfl rfl (.inl rfl) rfl (rHalted s (7) (0) hs (by decide)) ?_
      refine rO 59 (.agg (stL s.pc s.r s.mem 7)) ?_
      refine rO 60 (.agg [vU s.pc, vU s.pc, vI 0, .v (.int .u32 0), .v (.int .u32 0), vI 0, .v (.bool false), vI 7, vI 0]) ?_
      refine rS (upd _ 1 (some (.box (stL s.pc s.r s.mem 7)))) ?_
      refine rS (upd _ 2 (some (.box [vU s.pc, vU s.pc, vI 0, .v (.int .u32 0), .v (.int .u32 0), vI 0, .v (.bool false), vI 7, vI 0]))) ?_
      refine rE 39 ?_
      refine cRet ?_
      exact finTA rfl trivial rfl (by unfold stepP; rw [if_pos (Classical.not_not.1 h1), if_pos (Classical.not_not.1 h2), if_neg (decE_nz h3), hI2]; unfold doI; rw [if_neg h4, if_pos h5]; rfl)
     ·skip
      refine cSkip ?_
      refine cSeq ?_
      refine cR ?_
      refine rO 61 (.ptr 22 2) ?_
      refine rO 62 (vI i.rs1) ?_
      refine rO 63 (.ptr 0 1) ?_
      refine rNeed (d := 64) (x := .ptr 0 (1 + (i.rs1).toNat * 1)) rfl rfl rfl (by omega) ?_
      refine rOk (d := 65) (x := vU a) rfl rfl ((ldR _ _ _ _ _ (by omega)).trans (by rw [hA])) ?_
      refine rO 10 (vU a) ?_
      refine rE 39 ?_
      refine cSeq ?_
      refine cR ?_
      refine rO 66 (.ptr 22 3) ?_
      refine rO 67 (vI i.rs2) ?_
      refine rO 68 (.ptr 0 1) ?_
      refine rNeed (d := 69) (x := .ptr 0 (1 + (i.rs2).toNat * 1)) rfl rfl rfl (by omega) ?_
      refine rOk (d := 70) (x := vU b) rfl rfl ((ldR _ _ _ _ _ (by omega)).trans (by rw [hB])) ?_
      refine rO 11 (vU b) ?_
      refine rE 45 ?_
      refine cSeq ?_
      refine cR ?_
      refine rO 71 (.ptr 22 0) ?_
      refine rO 72 (vI i.op) ?_
      refine rCall (args := [vI i.op]) (d := 73) (x := vN (kindOf i.op)) rfl rfl rfl rfl (.inl rfl) rfl (rKind i.op) ?_
      refine rO 12 (vN (kindOf i.op)) ?_
      refine rE 49 ?_
      refine cSeq ?_
      refine cR ?_
      refine rO 74 (.ptr 0 0) ?_
      refine rO 75 (vU s.pc) ?_
      refine rO 76 (.ptr 0 0) ?_
      refine rO 77 (vU s.pc) ?_
      refine rO 78 (vU (up4 s.pc)) ?_
      refine rO 79 (.agg [vI i.op, vI i.rd, vI i.rs1, vI i.rs2, vU i.imm]) ?_
      refine rCall (args := [.agg [vI i.op, vI i.rd, vI i.rs1, vI i.rs2, vU i.imm]]) (d := 80) (x := vI (wr i)) rfl rfl rfl rfl (.inl rfl) rfl (rWrites i) ?_
      refine rO 81 (.agg [vU s.pc, vU (up4 s.pc), vI (wr i), .v (.int .u32 0), .v (.int .u32 0), vI 0, .v (.bool false), vI 0, vI 0]) ?_
      refine rF 13 (.ptr 57 0) (upd _ 57 (some (.box [.v (.int .u32 0), .v (.int .u32 0), vI 0, .v (.int .u32 0), .v (.int .u32 0), vI 0, .v (.bool false), vI 0, vI 0]))) ?_
      refine rS (upd _ 57 (some (.box [vU s.pc, vU (up4 s.pc), vI (wr i), .v (.int .u32 0), .v (.int .u32 0), vI 0, .v (.bool false), vI 0, vI 0]))) ?_
      refine rE 59 ?_
      refine cSeq ?_
      refine cR ?_
      refine rO 82 (.agg [vI i.op, vI i.rd, vI i.rs1, vI i.rs2, vU i.imm]) ?_
      refine rO 83 (.ptr 0 0) ?_
      refine rO 84 (vU s.pc) ?_
      refine rO 85 (vU a) ?_
      refine rO 86 (vU b) ?_
      refine rCall (args := [.agg [vI i.op, vI i.rd, vI i.rs1, vI i.rs2, vU i.imm], vU s.pc, vU a, vU b]) (d := 87) (x := vU (valP i.op i.imm s.pc a b)) rfl rfl rfl rfl (.inl rfl) rfl (rValue i s.pc a b hd.2.2.2.2.2.2 hs.pc ha hb) ?_
      refine rO 14 (vU (valP i.op i.imm s.pc a b)) ?_
      refine rE 66 ?_
      refine cSeq ?_
      refine cR ?_
      refine rO 88 (.agg (stL s.pc s.r s.mem s.halt)) ?_
      refine rF 15 (.ptr 67 0) (upd _ 67 (some (.box (stL 0 (fun _ => 0) (⟨#[]⟩) 0)))) ?_
      refine rS (upd _ 67 (some (.box (stL s.pc s.r s.mem s.halt)))) ?_
      refine rE 69 ?_
      refine cSeq ?_
      refine cSeq ?_
      refine cR ?_
      refine rO 89 (vN (kindOf i.op)) ?_
      refine rX 90 (.v (.bool ((kindOf i.op) == 3))) (okB (eqN _ _)) ?_
      refine rO 91 (.v (.bool ((kindOf i.op) == 3))) ?_
      refine gO 92 (!((kindOf i.op) == 3)) (vN (kindOf i.op)) ?_
      refine gOkS (d := 93) (x := .v (.bool ((kindOf i.op) == 4))) (g := !((kindOf i.op) == 3)) rfl rfl rfl rfl (fun h => h) rfl (okB (eqN _ _)) ?_
      refine rNeed (d := 94) (x := .v (.bool (cond2 ((kindOf i.op) == 3) true ((kindOf i.op) == 4)))) rfl rfl rfl (by simp) ?_
      refine rE 75 ?_
      refine cPr ((kindOf i.op) = 3 ∨ (kindOf i.op) = 4) (c2or _ _ pEq pEq) (fun h6 => ?_) (fun h6 => ?_)
      ·skip
       refine cSeq ?_
       refine cR ?_
       refine rO 95 (vU a) ?_
       refine rO 96 (.ptr 22 4) ?_
       refine rO 97 (vU i.imm) ?_
       refine rO 98 (vU (addrOf i a)) ?_
       refine rO 99 (.ptr 57 4) ?_
       refine rS (upd _ 57 (some (.box [vU s.pc, vU (up4 s.pc), vI (wr i), .v (.int .u32 0), vU (addrOf i a), vI 0, .v (.bool false), vI 0, vI 0]))) ?_
       refine rE 81 ?_
       refine cSeq ?_
       refine cR ?_
       refine rO 100 (.ptr 22 0) ?_
       refine rO 101 (vI i.op) ?_
       refine rCall (args := [vI i.op]) (d := 102) (x := vN (sizeOf' i.op)) rfl rfl rfl rfl (.inl rfl) rfl (rSize i.op) ?_
       refine rO 103 (.ptr 57 5) ?_
       refine rS (upd _ 57 (some (.box [vU s.pc, vU (up4 s.pc), vI (wr i), .v (.int .u32 0), vU (addrOf i a), vN (sizeOf' i.op), .v (.bool false), vI 0, vI 0]))) ?_
       refine rE 86 ?_
       refine cSeq ?_
       refine cSeq ?_
       refine cR ?_
       refine rO 104 (.ptr 0 33) ?_
       refine rO 105 (.v (.string s.mem)) ?_
       refine rO 106 (vI (s.mem.size : Int)) ?_
       refine rO 107 (.ptr 57 4) ?_
       refine rO 108 (vU (addrOf i a)) ?_
       refine rO 109 (.ptr 57 5) ?_
       refine rO 110 (vN (sizeOf' i.op)) ?_
       refine rCall (args := [vI (s.mem.size : Int), vU (addrOf i a), vN (sizeOf' i.op)]) (d := 111) (x := .v (.bool (rightP (s.mem.size : Int) (addrOf i a) ((sizeOf' i.op : Nat) : Int)))) rfl rfl rfl rfl (.inl rfl) rfl (rRight s.mem.size (addrOf i a) (sizeOf' i.op) hs.mem (addr_le i a) (size_le4 i.op)) ?_
       refine rO 112 (.v (.bool (!(rightP (s.mem.size : Int) (addrOf i a) ((sizeOf' i.op : Nat) : Int))))) ?_
       refine rE 95 ?_
       refine cPr (¬ ((rightP (s.mem.size : Int) (addrOf i a) ((sizeOf' i.op : Nat) : Int)) = true)) (pNot Iff.rfl) (fun h7 => ?_) (fun h7 => ?_)
       ·skip
        refine cSeq ?_
        refine cSeq ?_
        refine cR ?_
        refine rO 113 (vN (kindOf i.op)) ?_
        refine rX 114 (.v (.bool ((kindOf i.op) == 3))) (okB (eqN _ _)) ?_
        refine rE 97 ?_
        refine cEq (kindOf i.op) 3 (fun h8 => ?_) (fun h8 => ?_)
        ·skip
         refine cSeq ?_
         refine cR ?_
         refine rO 115 (.agg (stL s.pc s.r s.mem s.halt)) ?_
         refine rO 116 (.ptr 57 4) ?_
         refine rO 117 (vU (addrOf i a)) ?_
         refine rCall (args := [.agg (stL s.pc s.r s.mem s.halt), vI 4, vU (addrOf i a)]) (d := 118) (x := .tup [.agg (stL s.pc s.r s.mem 4), .agg [vU s.pc, vU s.pc, vI 0, .v (.int .u32 0), vU (addrOf i a), vI 0, .v (.bool false), vI 4, vI 0]]) rfl rfl rfl rfl (.inl rfl) rfl (rHalted s (4) ((addrOf i a)) hs (addr_le i a)) ?_
         refine rO 119 (.agg (stL s.pc s.r s.mem 4)) ?_
         refine rO 120 (.agg [vU s.pc, vU s.pc, vI 0, .v (.int .u32 0), vU (addrOf i a), vI 0, .v (.bool false), vI 4, vI 0]) ?_
         refine rS (upd _ 1 (some (.box (stL s.pc s.r s.mem 4)))) ?_
         refine rS (upd _ 2 (some (.box [vU s.pc, vU s.pc, vI 0, .v (.int .u32 0), vU (addrOf i a), vI 0, .v (.bool false), vI 4, vI 0]))) ?_
         refine rE 105 ?_
         refine cRet ?_
         exact finTA rfl trivial rfl (by unfold stepP; rw [if_pos (Classical.not_not.1 h1), if_pos (Classical.not_not.1 h2), if_neg (decE_nz h3), hI2]; unfold doI; rw [if_neg h4, if_neg h5, if_pos h6, hA, hB]; unfold accessP; rw [if_neg h7, if_neg (by omega)]; rfl)
        ·skip
         refine cSkip ?_
         refine cSeq ?_
         refine cR ?_
         refine rO 121 (.agg (stL s.pc s.r s.mem s.halt)) ?_
         refine rO 122 (.ptr 57 4) ?_
         refine rO 123 (vU (addrOf i a)) ?_
         refine rCall (args := [.agg (stL s.pc s.r s.mem s.halt), vI 5, vU (addrOf i a)]) (d := 124) (x := .tup [.agg (stL s.pc s.r s.mem 5), .agg [vU s.pc, vU s.pc, vI 0, .v (.int .u32 0), vU (addrOf i a), vI 0, .v (.bool false), vI 5, vI 0]]) rfl rfl rfl rfl (.inl rfl) rfl (rHalted s (5) ((addrOf i a)) hs (addr_le i a)) ?_
         refine rO 125 (.agg (stL s.pc s.r s.mem 5)) ?_
         refine rO 126 (.agg [vU s.pc, vU s.pc, vI 0, .v (.int .u32 0), vU (addrOf i a), vI 0, .v (.bool false), vI 5, vI 0]) ?_
         refine rS (upd _ 1 (some (.box (stL s.pc s.r s.mem 5)))) ?_
         refine rS (upd _ 2 (some (.box [vU s.pc, vU s.pc, vI 0, .v (.int .u32 0), vU (addrOf i a), vI 0, .v (.bool false), vI 5, vI 0]))) ?_
         refine rE 105 ?_
         refine cRet ?_
         exact finTA rfl trivial rfl (by unfold stepP; rw [if_pos (Classical.not_not.1 h1), if_pos (Classical.not_not.1 h2), if_neg (decE_nz h3), hI2]; unfold doI; rw [if_neg h4, if_neg h5, if_pos h6, hA, hB]; unfold accessP; rw [if_neg h7, if_pos (by omega)]; rfl)
       ·skip
        refine cSkip ?_
        refine cSeq ?_
        refine cSeq ?_
        refine cR ?_
        refine rO 127 (vN (kindOf i.op)) ?_
        refine rX 128 (.v (.bool ((kindOf i.op) == 4))) (okB (eqN _ _)) ?_
        refine rE 97 ?_
        refine cEq (kindOf i.op) 4 (fun h9 => ?_) (fun h9 => ?_)
        ·skip
         refine cSeq ?_
         refine cR ?_
         refine rO 130 (vU b) ?_
         refine rO 131 (.ptr 57 5) ?_
         refine rO 132 (vN (sizeOf' i.op)) ?_
         refine rCall (args := [vU b, vN (sizeOf' i.op)]) (d := 133) (x := .tup [.v (.string (bytesP b (sizeOf' i.op))), vI 0]) rfl rfl rfl rfl (.inl rfl) rfl (rBytes b (sizeOf' i.op) hb (size_le4 i.op)) ?_
         have hrt := right_le (by simpa using h7)
         refine rO 129 (.tup [.v (.string (bytesP b (sizeOf' i.op))), vI 0]) ?_
         refine rO 134 (.v (.string (bytesP b (sizeOf' i.op)))) ?_
         refine rO 135 (vI 0) ?_
         refine rO 16 (.v (.string (bytesP b (sizeOf' i.op)))) ?_
         refine rO 17 (vI 0) ?_
         refine rE 106 ?_
         refine cSeq ?_
         refine cR ?_
         refine rO 136 (.ptr 0 33) ?_
         refine rO 137 (.v (.string s.mem)) ?_
         refine rO 138 (.ptr 57 4) ?_
         refine rO 139 (vU (addrOf i a)) ?_
         refine rO 140 (.v (.string (bytesP b (sizeOf' i.op)))) ?_
         refine rCall (args := [.v (.string s.mem), vU (addrOf i a), .v (.string (bytesP b (sizeOf' i.op)))]) (d := 141) (x := .v (.string (writeP s.mem (addrOf i a) (bytesP b (sizeOf' i.op))))) rfl rfl rfl rfl (.inl rfl) rfl (rWrite s.mem (addrOf i a) (bytesP b (sizeOf' i.op)) (by rw [bytesP_size]; exact hrt.1) hs.mem (addr_le i a) (by rw [bytesP_size]; exact size_le4 i.op)) ?_
         refine rO 142 (.ptr 67 33) ?_
         refine rS (upd _ 67 (some (.box (stL s.pc s.r (writeP s.mem (addrOf i a) (bytesP b (sizeOf' i.op))) s.halt)))) ?_
         refine rE 114 ?_
         refine cSeq ?_
         refine cR ?_
         refine rO 143 (.ptr 57 1) ?_
         refine rO 144 (vU (up4 s.pc)) ?_
         refine rO 145 (.ptr 67 0) ?_
         refine rS (upd _ 67 (some (.box (stL (up4 s.pc) s.r (writeP s.mem (addrOf i a) (bytesP b (sizeOf' i.op))) s.halt)))) ?_
         refine rE 118 ?_
         refine cSeq ?_
         refine cR ?_
         refine rO 146 (.ptr 57 6) ?_
         refine rS (upd _ 57 (some (.box [vU s.pc, vU (up4 s.pc), vI (wr i), .v (.int .u32 0), vU (addrOf i a), vN (sizeOf' i.op), .v (.bool true), vI 0, vI 0]))) ?_
         refine rE 120 ?_
         refine cSeq ?_
         refine cR ?_
         refine rO 148 (.v (.string (bytesP b (sizeOf' i.op)))) ?_
         refine rCall (args := [.v (.string (bytesP b (sizeOf' i.op)))]) (d := 149) (x := .tup [vU (valB b (sizeOf' i.op)), vI 0]) rfl rfl rfl rfl (.inl rfl) rfl (rJoin _ (by rw [bytesP_size]; exact size_le4 i.op)) ?_
         refine rO 147 (.tup [vU (valB b (sizeOf' i.op)), vI 0]) ?_
         refine rO 150 (vU (valB b (sizeOf' i.op))) ?_
         refine rO 151 (vI 0) ?_
         refine rO 14 (vU (valB b (sizeOf' i.op))) ?_
         refine rE 126 ?_
         refine cSeq ?_
         refine cR ?_
         refine rO 152 (vU (valB b (sizeOf' i.op))) ?_
         refine rO 153 (.ptr 57 3) ?_
         refine rS (upd _ 57 (some (.box [vU s.pc, vU (up4 s.pc), vI (wr i), vU (valB b (sizeOf' i.op)), vU (addrOf i a), vN (sizeOf' i.op), .v (.bool true), vI 0, vI 0]))) ?_
         refine rE 129 ?_
         refine cSeq ?_
         refine cLate rfl rfl ?_
         refine rO 154 (.agg (stL (up4 s.pc) s.r (writeP s.mem (addrOf i a) (bytesP b (sizeOf' i.op))) s.halt)) ?_
         refine rO 155 (.agg [vU s.pc, vU (up4 s.pc), vI (wr i), vU (valB b (sizeOf' i.op)), vU (addrOf i a), vN (sizeOf' i.op), .v (.bool true), vI 0, vI 0]) ?_
         refine rS (upd _ 1 (some (.box (stL (up4 s.pc) s.r (writeP s.mem (addrOf i a) (bytesP b (sizeOf' i.op))) s.halt)))) ?_
         refine rS (upd _ 2 (some (.box [vU s.pc, vU (up4 s.pc), vI (wr i), vU (valB b (sizeOf' i.op)), vU (addrOf i a), vN (sizeOf' i.op), .v (.bool true), vI 0, vI 0]))) ?_
         refine rE 133 ?_
         refine And.intro (by kernel_rfl) ?_
         refine cRet ?_
         exact finTA rfl trivial rfl (by unfold stepP; rw [if_pos (Classical.not_not.1 h1), if_pos (Classical.not_not.1 h2), if_neg (decE_nz h3), hI2]; unfold doI; rw [if_neg h4, if_neg h5, if_pos h6, hA, hB]; unfold accessP; rw [if_pos (Classical.not_not.1 h7), if_pos h9]; rw [show (kindOf i.op == 4) = true from beq_iff_eq.2 h9]; rfl)
        ·skip
         refine cSkip ?_
         refine cR ?_
         refine rO 156 (.ptr 22 0) ?_
         refine rO 157 (vI i.op) ?_
         refine rO 158 (.ptr 0 33) ?_
         have hrt := right_le (by simpa using h7)
         refine rO 159 (.v (.string s.mem)) ?_
         refine rO 160 (.ptr 57 4) ?_
         refine rO 161 (vU (addrOf i a)) ?_
         refine rO 162 (.ptr 57 5) ?_
         refine rO 163 (vN (sizeOf' i.op)) ?_
         refine rCall (args := [.v (.string s.mem), vU (addrOf i a), vN (sizeOf' i.op)]) (d := 164) (x := .v (.string (readP s.mem (addrOf i a) (sizeOf' i.op)))) rfl rfl rfl rfl (.inl rfl) rfl (rRead s.mem (addrOf i a) (sizeOf' i.op) hrt.1 (addr_le i a) (size_le4 i.op)) ?_
         refine rCall (args := [vI i.op, .v (.string (readP s.mem (addrOf i a) (sizeOf' i.op)))]) (d := 165) (x := vU (loadP i.op (readP s.mem (addrOf i a) (sizeOf' i.op)))) rfl rfl rfl rfl (.inl rfl) rfl (rLoad i.op _) ?_
         refine rO 14 (vU (loadP i.op (readP s.mem (addrOf i a) (sizeOf' i.op)))) ?_
         refine rE 108 ?_
         refine cSeq ?_
         refine cSeq ?_
         refine cR ?_
         refine rO 166 (vN (kindOf i.op)) ?_
         refine rX 167 (.v (.bool ((kindOf i.op) == 5))) (okB (eqN _ _)) ?_
         refine rE 110 ?_
         refine cEq (kindOf i.op) 5 (fun h10 => absurd h10 (by have := kind_spec i.op; omega)) (fun h10 => ?_)
         refine cSkip ?_
         refine cSeq ?_
         refine cSeq ?_
         refine cR ?_
         refine rO 183 (vN (kindOf i.op)) ?_
         refine rX 184 (.v (.bool ((kindOf i.op) == 2))) (okB (eqN _ _)) ?_
         refine rE 112 ?_
         refine cEq (kindOf i.op) 2 (fun h11 => absurd h11 (by have := kind_spec i.op; omega)) (fun h11 => ?_)
         refine cSkip ?_
         refine cSeq ?_
         refine cSeq ?_
         refine cR ?_
         refine rO 191 (.ptr 57 2) ?_
         refine rO 192 (vI (wr i)) ?_
         refine rO 193 (.v (.bool (decide ((wr i) > 0)))) ?_
         refine rE 115 ?_
         refine cPr ((wr i) > 0) pDec (fun h12 => ?_) (fun h12 => ?_)
         ·skip
          refine cSeq ?_
          refine cR ?_
          refine rO 194 (vU (loadP i.op (readP s.mem (addrOf i a) (sizeOf' i.op)))) ?_
          refine rO 195 (.ptr 57 3) ?_
          refine rS (upd _ 57 (some (.box [vU s.pc, vU (up4 s.pc), vI (wr i), vU (loadP i.op (readP s.mem (addrOf i a) (sizeOf' i.op))), vU (addrOf i a), vN (sizeOf' i.op), .v (.bool false), vI 0, vI 0]))) ?_
          refine rE 118 ?_
          refine cR ?_
          refine rO 196 (.ptr 57 2) ?_
          refine rO 197 (vI (wr i)) ?_
          refine rO 198 (vU (loadP i.op (readP s.mem (addrOf i a) (sizeOf' i.op)))) ?_
          refine rO 199 (.ptr 67 1) ?_
          refine rNeed (d := 200) (x := .ptr 67 (1 + (wr i).toNat * 1)) rfl rfl rfl (by omega) ?_
          refine rFx0 (h' := upd _ 67 (some (.box (stL s.pc (setR s.r ((wr i).toNat) (loadP i.op (readP s.mem (addrOf i a) (sizeOf' i.op)))) s.mem s.halt)))) rfl rfl (stR1 (n := (wr i).toNat) (v := loadP i.op (readP s.mem (addrOf i a) (sizeOf' i.op))) (r := s.r) rfl rfl rfl (by omega)) (trivial) ?_
          refine rE 124 ?_
          refine cSeq ?_
          refine cR ?_
          refine rO 201 (.ptr 57 1) ?_
          refine rO 202 (vU (up4 s.pc)) ?_
          refine rO 203 (.ptr 67 0) ?_
          refine rS (upd _ 67 (some (.box (stL (up4 s.pc) (setR s.r ((wr i).toNat) (loadP i.op (readP s.mem (addrOf i a) (sizeOf' i.op)))) s.mem s.halt)))) ?_
          refine rE 128 ?_
          refine cSeq ?_
          refine cLate rfl rfl ?_
          refine rO 204 (.agg (stL (up4 s.pc) (setR s.r ((wr i).toNat) (loadP i.op (readP s.mem (addrOf i a) (sizeOf' i.op)))) s.mem s.halt)) ?_
          refine rO 205 (.agg [vU s.pc, vU (up4 s.pc), vI (wr i), vU (loadP i.op (readP s.mem (addrOf i a) (sizeOf' i.op))), vU (addrOf i a), vN (sizeOf' i.op), .v (.bool false), vI 0, vI 0]) ?_
          refine rS (upd _ 1 (some (.box (stL (up4 s.pc) (setR s.r ((wr i).toNat) (loadP i.op (readP s.mem (addrOf i a) (sizeOf' i.op)))) s.mem s.halt)))) ?_
          refine rS (upd _ 2 (some (.box [vU s.pc, vU (up4 s.pc), vI (wr i), vU (loadP i.op (readP s.mem (addrOf i a) (sizeOf' i.op))), vU (addrOf i a), vN (sizeOf' i.op), .v (.bool false), vI 0, vI 0]))) ?_
          refine rE 132 ?_
          refine And.intro (by kernel_rfl) ?_
          refine cRet ?_
          exact finTA rfl trivial rfl (by unfold stepP; rw [if_pos (Classical.not_not.1 h1), if_pos (Classical.not_not.1 h2), if_neg (decE_nz h3), hI2]; unfold doI; rw [if_neg h4, if_neg h5, if_pos h6, hA, hB]; unfold accessP; rw [if_pos (Classical.not_not.1 h7), if_neg h9, if_neg (by omega)]; rw [show (kindOf i.op == 4) = false from beq_false_of_ne h9]; rfl)
         ·skip
          refine cSkip ?_
          refine cSeq ?_
          refine cR ?_
          refine rO 201 (.ptr 57 1) ?_
          refine rO 202 (vU (up4 s.pc)) ?_
          refine rO 203 (.ptr 67 0) ?_
          refine rS (upd _ 67 (some (.box (stL (up4 s.pc) s.r s.mem s.halt)))) ?_
          refine rE 119 ?_
          refine cSeq ?_
          refine cLate rfl rfl ?_
          refine rO 204 (.agg (stL (up4 s.pc) s.r s.mem s.halt)) ?_
          refine rO 205 (.agg [vU s.pc, vU (up4 s.pc), vI (wr i), .v (.int .u32 0), vU (addrOf i a), vN (sizeOf' i.op), .v (.bool false), vI 0, vI 0]) ?_
          refine rS (upd _ 1 (some (.box (stL (up4 s.pc) s.r s.mem s.halt)))) ?_
          refine rS (upd _ 2 (some (.box [vU s.pc, vU (up4 s.pc), vI (wr i), .v (.int .u32 0), vU (addrOf i a), vN (sizeOf' i.op), .v (.bool false), vI 0, vI 0]))) ?_
          refine rE 123 ?_
          refine And.intro (by kernel_rfl) ?_
          refine cRet ?_
          exact finTA rfl trivial rfl (by unfold stepP; rw [if_pos (Classical.not_not.1 h1), if_pos (Classical.not_not.1 h2), if_neg (decE_nz h3), hI2]; unfold doI; rw [if_neg h4, if_neg h5, if_pos h6, hA, hB]; unfold accessP; rw [if_pos (Classical.not_not.1 h7), if_neg h9, if_pos (by omega)]; rw [show (kindOf i.op == 4) = false from beq_false_of_ne h9]; rfl)
      ·skip
       refine cSkip ?_
       refine cSeq ?_
       refine cSeq ?_
       refine cR ?_
       refine rO 166 (vN (kindOf i.op)) ?_
       refine rX 167 (.v (.bool ((kindOf i.op) == 5))) (okB (eqN _ _)) ?_
       refine rE 77 ?_
       refine cEq (kindOf i.op) 5 (fun h13 => ?_) (fun h13 => ?_)
       ·skip
        refine cSeq ?_
        refine cR ?_
        refine rO 168 (.agg [vI i.op, vI i.rd, vI i.rs1, vI i.rs2, vU i.imm]) ?_
        refine rO 169 (.ptr 0 0) ?_
        refine rO 170 (vU s.pc) ?_
        refine rO 171 (vU a) ?_
        refine rO 172 (vU b) ?_
        refine rCall (args := [.agg [vI i.op, vI i.rd, vI i.rs1, vI i.rs2, vU i.imm], vU s.pc, vU a, vU b]) (d := 173) (x := vU (nextP i.op i.imm s.pc a b)) rfl rfl rfl rfl (.inl rfl) rfl (rNext i s.pc a b hd.2.2.2.2.2.2 hs.pc ha hb) ?_
        refine rO 174 (.ptr 57 1) ?_
        refine rS (upd _ 57 (some (.box [vU s.pc, vU (nextP i.op i.imm s.pc a b), vI (wr i), .v (.int .u32 0), .v (.int .u32 0), vI 0, .v (.bool false), vI 0, vI 0]))) ?_
        refine rE 85 ?_
        refine cSeq ?_
        refine cR ?_
        refine rO 175 (.ptr 57 1) ?_
        refine rO 176 (vU (nextP i.op i.imm s.pc a b)) ?_
        have b1 : (nextP i.op i.imm s.pc a b) % 4 ≤ 3 := Nat.le_of_lt_succ (Nat.mod_lt _ (by decide))
        refine rNeed (d := 177) (x := vU ((nextP i.op i.imm s.pc a b) % 4)) rfl rfl rfl (by decide) ?_
        refine rX 178 (.v (.bool (((nextP i.op i.imm s.pc a b) % 4) != 0))) (okB (neN _ _)) ?_
        refine rE 89 ?_
        refine cPr (¬ ((nextP i.op i.imm s.pc a b) % 4) = 0) pNe (fun h14 => ?_) (fun h14 => ?_)
        ·skip
         refine cSeq ?_
         refine cR ?_
         refine rO 179 (.agg (stL s.pc s.r s.mem s.halt)) ?_
         refine rCall (args := [.agg (stL s.pc s.r s.mem s.halt), vI 3, .v (.int .u32 0)]) (d := 180) (x := .tup [.agg (stL s.pc s.r s.mem 3), .agg [vU s.pc, vU s.pc, vI 0, .v (.int .u32 0), .v (.int .u32 0), vI 0, .v (.bool false), vI 3, vI 0]]) rfl rfl rfl rfl (.inl rfl) rfl (rHalted s (3) (0) hs (by decide)) ?_
         refine rO 181 (.agg (stL s.pc s.r s.mem 3)) ?_
         refine rO 182 (.agg [vU s.pc, vU s.pc, vI 0, .v (.int .u32 0), .v (.int .u32 0), vI 0, .v (.bool false), vI 3, vI 0]) ?_
         refine rS (upd _ 1 (some (.box (stL s.pc s.r s.mem 3)))) ?_
         refine rS (upd _ 2 (some (.box [vU s.pc, vU s.pc, vI 0, .v (.int .u32 0), .v (.int .u32 0), vI 0, .v (.bool false), vI 3, vI 0]))) ?_
         refine rE 95 ?_
         refine cRet ?_
         exact finTA rfl trivial rfl (by unfold stepP; rw [if_pos (Classical.not_not.1 h1), if_pos (Classical.not_not.1 h2), if_neg (decE_nz h3), hI2]; unfold doI; rw [if_neg h4, if_neg h5, if_neg h6, hA, hB]; unfold reckonP finP; rw [if_pos h13, if_neg h14]; rfl)
        ·skip
         refine cSkip ?_
         refine cSeq ?_
         refine cSeq ?_
         refine cR ?_
         refine rO 183 (vN (kindOf i.op)) ?_
         refine rX 184 (.v (.bool ((kindOf i.op) == 2))) (okB (eqN _ _)) ?_
         refine rE 91 ?_
         refine cEq (kindOf i.op) 2 (fun h15 => absurd h15 (by have := kind_spec i.op; omega)) (fun h15 => ?_)
         refine cSkip ?_
         refine cSeq ?_
         refine cSeq ?_
         refine cR ?_
         refine rO 191 (.ptr 57 2) ?_
         refine rO 192 (vI (wr i)) ?_
         refine rO 193 (.v (.bool (decide ((wr i) > 0)))) ?_
         refine rE 94 ?_
         refine cPr ((wr i) > 0) pDec (fun h16 => ?_) (fun h16 => ?_)
         ·skip
          refine cSeq ?_
          refine cR ?_
          refine rO 194 (vU (valP i.op i.imm s.pc a b)) ?_
          refine rO 195 (.ptr 57 3) ?_
          refine rS (upd _ 57 (some (.box [vU s.pc, vU (nextP i.op i.imm s.pc a b), vI (wr i), vU (valP i.op i.imm s.pc a b), .v (.int .u32 0), vI 0, .v (.bool false), vI 0, vI 0]))) ?_
          refine rE 97 ?_
          refine cR ?_
          refine rO 196 (.ptr 57 2) ?_
          refine rO 197 (vI (wr i)) ?_
          refine rO 198 (vU (valP i.op i.imm s.pc a b)) ?_
          refine rO 199 (.ptr 67 1) ?_
          refine rNeed (d := 200) (x := .ptr 67 (1 + (wr i).toNat * 1)) rfl rfl rfl (by omega) ?_
          refine rFx0 (h' := upd _ 67 (some (.box (stL s.pc (setR s.r ((wr i).toNat) (valP i.op i.imm s.pc a b)) s.mem s.halt)))) rfl rfl (stR1 (n := (wr i).toNat) (v := valP i.op i.imm s.pc a b) (r := s.r) rfl rfl rfl (by omega)) (trivial) ?_
          refine rE 103 ?_
          refine cSeq ?_
          refine cR ?_
          refine rO 201 (.ptr 57 1) ?_
          refine rO 202 (vU (nextP i.op i.imm s.pc a b)) ?_
          refine rO 203 (.ptr 67 0) ?_
          refine rS (upd _ 67 (some (.box (stL (nextP i.op i.imm s.pc a b) (setR s.r ((wr i).toNat) (valP i.op i.imm s.pc a b)) s.mem s.halt)))) ?_
          refine rE 107 ?_
          refine cSeq ?_
          refine cLate rfl rfl ?_
          refine rO 204 (.agg (stL (nextP i.op i.imm s.pc a b) (setR s.r ((wr i).toNat) (valP i.op i.imm s.pc a b)) s.mem s.halt)) ?_
          refine rO 205 (.agg [vU s.pc, vU (nextP i.op i.imm s.pc a b), vI (wr i), vU (valP i.op i.imm s.pc a b), .v (.int .u32 0), vI 0, .v (.bool false), vI 0, vI 0]) ?_
          refine rS (upd _ 1 (some (.box (stL (nextP i.op i.imm s.pc a b) (setR s.r ((wr i).toNat) (valP i.op i.imm s.pc a b)) s.mem s.halt)))) ?_
          refine rS (upd _ 2 (some (.box [vU s.pc, vU (nextP i.op i.imm s.pc a b), vI (wr i), vU (valP i.op i.imm s.pc a b), .v (.int .u32 0), vI 0, .v (.bool false), vI 0, vI 0]))) ?_
          refine rE 111 ?_
          refine And.intro (by kernel_rfl) ?_
          refine cRet ?_
          exact finTA rfl trivial rfl (by unfold stepP; rw [if_pos (Classical.not_not.1 h1), if_pos (Classical.not_not.1 h2), if_neg (decE_nz h3), hI2]; unfold doI; rw [if_neg h4, if_neg h5, if_neg h6, hA, hB]; unfold reckonP finP; rw [if_pos h13, if_pos (Classical.not_not.1 h14), if_neg (by omega)]; rfl)
         ·skip
          refine cSkip ?_
          refine cSeq ?_
          refine cR ?_
          refine rO 201 (.ptr 57 1) ?_
          refine rO 202 (vU (nextP i.op i.imm s.pc a b)) ?_
          refine rO 203 (.ptr 67 0) ?_
          refine rS (upd _ 67 (some (.box (stL (nextP i.op i.imm s.pc a b) s.r s.mem s.halt)))) ?_
          refine rE 98 ?_
          refine cSeq ?_
          refine cLate rfl rfl ?_
          refine rO 204 (.agg (stL (nextP i.op i.imm s.pc a b) s.r s.mem s.halt)) ?_
          refine rO 205 (.agg [vU s.pc, vU (nextP i.op i.imm s.pc a b), vI (wr i), .v (.int .u32 0), .v (.int .u32 0), vI 0, .v (.bool false), vI 0, vI 0]) ?_
          refine rS (upd _ 1 (some (.box (stL (nextP i.op i.imm s.pc a b) s.r s.mem s.halt)))) ?_
          refine rS (upd _ 2 (some (.box [vU s.pc, vU (nextP i.op i.imm s.pc a b), vI (wr i), .v (.int .u32 0), .v (.int .u32 0), vI 0, .v (.bool false), vI 0, vI 0]))) ?_
          refine rE 102 ?_
          refine And.intro (by kernel_rfl) ?_
          refine cRet ?_
          exact finTA rfl trivial rfl (by unfold stepP; rw [if_pos (Classical.not_not.1 h1), if_pos (Classical.not_not.1 h2), if_neg (decE_nz h3), hI2]; unfold doI; rw [if_neg h4, if_neg h5, if_neg h6, hA, hB]; unfold reckonP finP; rw [if_pos h13, if_pos (Classical.not_not.1 h14), if_pos (by omega)]; rfl)
       ·skip
        refine cSkip ?_
        refine cSeq ?_
        refine cSeq ?_
        refine cR ?_
        refine rO 183 (vN (kindOf i.op)) ?_
        refine rX 184 (.v (.bool ((kindOf i.op) == 2))) (okB (eqN _ _)) ?_
        refine rE 79 ?_
        refine cEq (kindOf i.op) 2 (fun h17 => ?_) (fun h17 => ?_)
        ·skip
         refine cR ?_
         refine rO 185 (.ptr 22 0) ?_
         refine rO 186 (vI i.op) ?_
         refine rO 187 (vU a) ?_
         refine rO 188 (vU b) ?_
         refine rCall (args := [vI i.op, vU a, vU b]) (d := 189) (x := vN (tookP i.op a b)) rfl rfl rfl rfl (.inl rfl) rfl (rTook i.op a b ha hb) ?_
         refine rO 190 (.ptr 57 8) ?_
         refine rS (upd _ 57 (some (.box [vU s.pc, vU (up4 s.pc), vI (wr i), .v (.int .u32 0), .v (.int .u32 0), vI 0, .v (.bool false), vI 0, vN (tookP i.op a b)]))) ?_
         refine rE 86 ?_
         refine cSeq ?_
         refine cSeq ?_
         refine cR ?_
         refine rO 191 (.ptr 57 2) ?_
         refine rO 192 (vI (wr i)) ?_
         refine rO 193 (.v (.bool (decide ((wr i) > 0)))) ?_
         refine rE 89 ?_
         refine cPr ((wr i) > 0) pDec (fun h18 => ?_) (fun h18 => ?_)
         ·skip
          refine cSeq ?_
          refine cR ?_
          refine rO 194 (vU (valP i.op i.imm s.pc a b)) ?_
          refine rO 195 (.ptr 57 3) ?_
          refine rS (upd _ 57 (some (.box [vU s.pc, vU (up4 s.pc), vI (wr i), vU (valP i.op i.imm s.pc a b), .v (.int .u32 0), vI 0, .v (.bool false), vI 0, vN (tookP i.op a b)]))) ?_
          refine rE 92 ?_
          refine cR ?_
          refine rO 196 (.ptr 57 2) ?_
          refine rO 197 (vI (wr i)) ?_
          refine rO 198 (vU (valP i.op i.imm s.pc a b)) ?_
          refine rO 199 (.ptr 67 1) ?_
          refine rNeed (d := 200) (x := .ptr 67 (1 + (wr i).toNat * 1)) rfl rfl rfl (by omega) ?_
          refine rFx0 (h' := upd _ 67 (some (.box (stL s.pc (setR s.r ((wr i).toNat) (valP i.op i.imm s.pc a b)) s.mem s.halt)))) rfl rfl (stR1 (n := (wr i).toNat) (v := valP i.op i.imm s.pc a b) (r := s.r) rfl rfl rfl (by omega)) (trivial) ?_
          refine rE 98 ?_
          refine cSeq ?_
          refine cR ?_
          refine rO 201 (.ptr 57 1) ?_
          refine rO 202 (vU (up4 s.pc)) ?_
          refine rO 203 (.ptr 67 0) ?_
          refine rS (upd _ 67 (some (.box (stL (up4 s.pc) (setR s.r ((wr i).toNat) (valP i.op i.imm s.pc a b)) s.mem s.halt)))) ?_
          refine rE 102 ?_
          refine cSeq ?_
          refine cLate rfl rfl ?_
          refine rO 204 (.agg (stL (up4 s.pc) (setR s.r ((wr i).toNat) (valP i.op i.imm s.pc a b)) s.mem s.halt)) ?_
          refine rO 205 (.agg [vU s.pc, vU (up4 s.pc), vI (wr i), vU (valP i.op i.imm s.pc a b), .v (.int .u32 0), vI 0, .v (.bool false), vI 0, vN (tookP i.op a b)]) ?_
          refine rS (upd _ 1 (some (.box (stL (up4 s.pc) (setR s.r ((wr i).toNat) (valP i.op i.imm s.pc a b)) s.mem s.halt)))) ?_
          refine rS (upd _ 2 (some (.box [vU s.pc, vU (up4 s.pc), vI (wr i), vU (valP i.op i.imm s.pc a b), .v (.int .u32 0), vI 0, .v (.bool false), vI 0, vN (tookP i.op a b)]))) ?_
          refine rE 106 ?_
          refine And.intro (by kernel_rfl) ?_
          refine cRet ?_
          exact finTA rfl trivial rfl (by unfold stepP; rw [if_pos (Classical.not_not.1 h1), if_pos (Classical.not_not.1 h2), if_neg (decE_nz h3), hI2]; unfold doI; rw [if_neg h4, if_neg h5, if_neg h6, hA, hB]; unfold reckonP finP; rw [if_neg h13, if_neg (by omega), if_pos h17]; rfl)
         ·skip
          refine cSkip ?_
          refine cSeq ?_
          refine cR ?_
          refine rO 201 (.ptr 57 1) ?_
          refine rO 202 (vU (up4 s.pc)) ?_
          refine rO 203 (.ptr 67 0) ?_
          refine rS (upd _ 67 (some (.box (stL (up4 s.pc) s.r s.mem s.halt)))) ?_
          refine rE 93 ?_
          refine cSeq ?_
          refine cLate rfl rfl ?_
          refine rO 204 (.agg (stL (up4 s.pc) s.r s.mem s.halt)) ?_
          refine rO 205 (.agg [vU s.pc, vU (up4 s.pc), vI (wr i), .v (.int .u32 0), .v (.int .u32 0), vI 0, .v (.bool false), vI 0, vN (tookP i.op a b)]) ?_
          refine rS (upd _ 1 (some (.box (stL (up4 s.pc) s.r s.mem s.halt)))) ?_
          refine rS (upd _ 2 (some (.box [vU s.pc, vU (up4 s.pc), vI (wr i), .v (.int .u32 0), .v (.int .u32 0), vI 0, .v (.bool false), vI 0, vN (tookP i.op a b)]))) ?_
          refine rE 97 ?_
          refine And.intro (by kernel_rfl) ?_
          refine cRet ?_
          exact finTA rfl trivial rfl (by unfold stepP; rw [if_pos (Classical.not_not.1 h1), if_pos (Classical.not_not.1 h2), if_neg (decE_nz h3), hI2]; unfold doI; rw [if_neg h4, if_neg h5, if_neg h6, hA, hB]; unfold reckonP finP; rw [if_neg h13, if_pos (by omega), if_pos h17]; rfl)
        ·skip
         refine cSkip ?_
         refine cSeq ?_
         refine cSeq ?_
         refine cR ?_
         refine rO 191 (.ptr 57 2) ?_
         refine rO 192 (vI (wr i)) ?_
         refine rO 193 (.v (.bool (decide ((wr i) > 0)))) ?_
         refine rE 82 ?_
         refine cPr ((wr i) > 0) pDec (fun h19 => ?_) (fun h19 => ?_)
         ·skip
          refine cSeq ?_
          refine cR ?_
          refine rO 194 (vU (valP i.op i.imm s.pc a b)) ?_
          refine rO 195 (.ptr 57 3) ?_
          refine rS (upd _ 57 (some (.box [vU s.pc, vU (up4 s.pc), vI (wr i), vU (valP i.op i.imm s.pc a b), .v (.int .u32 0), vI 0, .v (.bool false), vI 0, vI 0]))) ?_
          refine rE 85 ?_
          refine cR ?_
          refine rO 196 (.ptr 57 2) ?_
          refine rO 197 (vI (wr i)) ?_
          refine rO 198 (vU (valP i.op i.imm s.pc a b)) ?_
          refine rO 199 (.ptr 67 1) ?_
          refine rNeed (d := 200) (x := .ptr 67 (1 + (wr i).toNat * 1)) rfl rfl rfl (by omega) ?_
          refine rFx0 (h' := upd _ 67 (some (.box (stL s.pc (setR s.r ((wr i).toNat) (valP i.op i.imm s.pc a b)) s.mem s.halt)))) rfl rfl (stR1 (n := (wr i).toNat) (v := valP i.op i.imm s.pc a b) (r := s.r) rfl rfl rfl (by omega)) (trivial) ?_
          refine rE 91 ?_
          refine cSeq ?_
          refine cR ?_
          refine rO 201 (.ptr 57 1) ?_
          refine rO 202 (vU (up4 s.pc)) ?_
          refine rO 203 (.ptr 67 0) ?_
          refine rS (upd _ 67 (some (.box (stL (up4 s.pc) (setR s.r ((wr i).toNat) (valP i.op i.imm s.pc a b)) s.mem s.halt)))) ?_
          refine rE 95 ?_
          refine cSeq ?_
          refine cLate rfl rfl ?_
          refine rO 204 (.agg (stL (up4 s.pc) (setR s.r ((wr i).toNat) (valP i.op i.imm s.pc a b)) s.mem s.halt)) ?_
          refine rO 205 (.agg [vU s.pc, vU (up4 s.pc), vI (wr i), vU (valP i.op i.imm s.pc a b), .v (.int .u32 0), vI 0, .v (.bool false), vI 0, vI 0]) ?_
          refine rS (upd _ 1 (some (.box (stL (up4 s.pc) (setR s.r ((wr i).toNat) (valP i.op i.imm s.pc a b)) s.mem s.halt)))) ?_
          refine rS (upd _ 2 (some (.box [vU s.pc, vU (up4 s.pc), vI (wr i), vU (valP i.op i.imm s.pc a b), .v (.int .u32 0), vI 0, .v (.bool false), vI 0, vI 0]))) ?_
          refine rE 99 ?_
          refine And.intro (by kernel_rfl) ?_
          refine cRet ?_
          exact finTA rfl trivial rfl (by unfold stepP; rw [if_pos (Classical.not_not.1 h1), if_pos (Classical.not_not.1 h2), if_neg (decE_nz h3), hI2]; unfold doI; rw [if_neg h4, if_neg h5, if_neg h6, hA, hB]; unfold reckonP finP; rw [if_neg h13, if_neg (by omega), if_neg h17]; rfl)
         ·skip
          refine cSkip ?_
          refine cSeq ?_
          refine cR ?_
          refine rO 201 (.ptr 57 1) ?_
          refine rO 202 (vU (up4 s.pc)) ?_
          refine rO 203 (.ptr 67 0) ?_
          refine rS (upd _ 67 (some (.box (stL (up4 s.pc) s.r s.mem s.halt)))) ?_
          refine rE 86 ?_
          refine cSeq ?_
          refine cLate rfl rfl ?_
          refine rO 204 (.agg (stL (up4 s.pc) s.r s.mem s.halt)) ?_
          refine rO 205 (.agg [vU s.pc, vU (up4 s.pc), vI (wr i), .v (.int .u32 0), .v (.int .u32 0), vI 0, .v (.bool false), vI 0, vI 0]) ?_
          refine rS (upd _ 1 (some (.box (stL (up4 s.pc) s.r s.mem s.halt)))) ?_
          refine rS (upd _ 2 (some (.box [vU s.pc, vU (up4 s.pc), vI (wr i), .v (.int .u32 0), .v (.int .u32 0), vI 0, .v (.bool false), vI 0, vI 0]))) ?_
          refine rE 90 ?_
          refine And.intro (by kernel_rfl) ?_
          refine cRet ?_
          exact finTA rfl trivial rfl (by unfold stepP; rw [if_pos (Classical.not_not.1 h1), if_pos (Classical.not_not.1 h2), if_neg (decE_nz h3), hI2]; unfold doI; rw [if_neg h4, if_neg h5, if_neg h6, hA, hB]; unfold reckonP finP; rw [if_neg h13, if_pos (by omega), if_neg h17]; rfl)
end Go.Proofs.YtahnhhbgkmlfcaaDoor
