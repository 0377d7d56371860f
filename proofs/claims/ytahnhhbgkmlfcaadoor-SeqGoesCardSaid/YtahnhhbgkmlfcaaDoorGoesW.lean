/- The law SeqGoes: its walk. -/
import Derived.Test.YtahnhhbgkmlfcaaDoorGoesM
import Derived.Test.YtahnhhbgkmlfcaaDoorReadsW
namespace Go.Proofs.YtahnhhbgkmlfcaaDoor
open Go.RowKit

def goL (prog : List Nat) (L : List (St × Sp)) (s : St) (k : Nat) : List (List AV) := (L ++ stepsL prog k s).map rowS
def goS (prog : List Nat) (s : St) (k : Nat) : St := lastOf s (stepsL prog k s)
theorem goL_zero (prog : List Nat) (L : List (St × Sp)) (s : St) : goL prog L s 0 = L.map rowS := by unfold goL; show (L ++ []).map rowS = _; rw [List.append_nil]
theorem goL_succ {prog : List Nat} {L : List (St × Sp)} {s : St} {k : Nat} (h : (goS prog s k).halt = 0) : goL prog L s (k + 1) = goL prog L s k ++ [rowS (stepP prog (goS prog s k))] := by
  unfold goL; rw [stepsL_succ h, ← List.append_assoc, List.map_append]; rfl
theorem goS_succ {prog : List Nat} {s : St} {k : Nat} (h : (goS prog s k).halt = 0) : goS prog s (k + 1) = (stepP prog (goS prog s k)).1 := by
  unfold goS; rw [stepsL_succ h, lastOf_app]; rfl
theorem goS_ok {prog : List Nat} {s : St} (k : Nat) (h : s.ok) : (goS prog s k).ok := lastOf_ok _ _ h
theorem goL_len (prog : List Nat) (L : List (St × Sp)) (s : St) (k : Nat) : (goL prog L s k).length ≤ L.length + k := by
  unfold goL; rw [List.length_map, List.length_append]; have := stepsL_len prog k s; omega
theorem goL_app (prog : List Nat) (L : List (St × Sp)) (s : St) (k : Nat) : (List.take (goL prog L s k).length (List.drop 0 (goL prog L s k))) = goL prog L s k := by rw [List.drop_zero, List.take_length]
theorem dLikeNil : DCall C0 14 [.sl 0 [] true, .sl 9 [] false] (.v (.bool true)) :=
  (dLike6 [] true false (Nat.zero_le _)).weaken rfl fun i a a' h1 h2 S w v hv => by
    match i, h1, h2 with
    | 0, h1, h2 => injection h1 with h1; injection h2 with h2; subst h1; subst h2; exact (by
        cases hv with
        | sl _ _ _ A c b o u hc hm hcl hrs hA hw h1 hr => exact .sl 9 [] true A c b o u hc hm hcl (fun row h => by cases h) (fun h => absurd h (Nat.lt_irrefl 0)) (fun i row j a h => by simp at h) h1 fun i row j a h => by simp at h)
    | 1, h1, h2 => injection h1 with h1; injection h2 with h2; subst h1; subst h2; exact hv
    | i + 2, h1, h2 => simp at h1

set_option maxRecDepth 100000 in
theorem stEq (s : St) : binA C0 .eql 28 (stA s) (stA s) = .ok (.v (.bool true)) := by
  have e : ∀ z : Int, (z == z) = true := fun z => beq_self_eq_true z
  show Res.ok (AV.v (.bool ((((s.pc : Int) == (s.pc : Int)) && (((s.r 0 : Int) == (s.r 0 : Int)) && (((s.r 1 : Int) == (s.r 1 : Int)) && (((s.r 2 : Int) == (s.r 2 : Int)) && (((s.r 3 : Int) == (s.r 3 : Int)) && (((s.r 4 : Int) == (s.r 4 : Int)) && (((s.r 5 : Int) == (s.r 5 : Int)) && (((s.r 6 : Int) == (s.r 6 : Int)) && (((s.r 7 : Int) == (s.r 7 : Int)) && (((s.r 8 : Int) == (s.r 8 : Int)) && (((s.r 9 : Int) == (s.r 9 : Int)) && (((s.r 10 : Int) == (s.r 10 : Int)) && (((s.r 11 : Int) == (s.r 11 : Int)) && (((s.r 12 : Int) == (s.r 12 : Int)) && (((s.r 13 : Int) == (s.r 13 : Int)) && (((s.r 14 : Int) == (s.r 14 : Int)) && (((s.r 15 : Int) == (s.r 15 : Int)) && (((s.r 16 : Int) == (s.r 16 : Int)) && (((s.r 17 : Int) == (s.r 17 : Int)) && (((s.r 18 : Int) == (s.r 18 : Int)) && (((s.r 19 : Int) == (s.r 19 : Int)) && (((s.r 20 : Int) == (s.r 20 : Int)) && (((s.r 21 : Int) == (s.r 21 : Int)) && (((s.r 22 : Int) == (s.r 22 : Int)) && (((s.r 23 : Int) == (s.r 23 : Int)) && (((s.r 24 : Int) == (s.r 24 : Int)) && (((s.r 25 : Int) == (s.r 25 : Int)) && (((s.r 26 : Int) == (s.r 26 : Int)) && (((s.r 27 : Int) == (s.r 27 : Int)) && (((s.r 28 : Int) == (s.r 28 : Int)) && (((s.r 29 : Int) == (s.r 29 : Int)) && (((s.r 30 : Int) == (s.r 30 : Int)) && (((s.r 31 : Int) == (s.r 31 : Int)) && ((s.mem == s.mem) && ((s.halt == s.halt) && true)))))))))))))))))))))))))))))))))))))) = _
  simp only [e, ba_refl, Bool.and_true, Bool.and_self]

set_option maxRecDepth 100000 in
set_option maxHeartbeats 8000000 in
theorem dSeqGoes (prog : List Nat) (m : ByteArray) (n j : Int) (hp : ∀ x ∈ prog, x ≤ 4294967295) (hl : prog.length ≤ maxLen) (hm : m.size < 9223372036854775808) : DCall C0 4 [.sl 1 (prog.map rowU) false, .v (.string m), .v (.int .i64 n), .v (.int .i64 j)] (.v (.bool true)) := by
  refine DCall.introN 4 c0Ok Tryd.func4 rfl rfl (by kernel_rfl) rfl ?_
  have hc1 := capK_le n 150 (by decide)
  have hc2 := capK_le j 150 (by decide)
  have hP : ∀ x ∈ (prog.take 64), x ≤ 4294967295 := fun x h => hp x (List.mem_of_mem_take h)
  have hPl : (prog.take 64).length ≤ 1000000 := by rw [List.length_take]; omega
  obtain ⟨N, hN, hN2⟩ : ∃ N : Nat, capK n 150 = (N : Int) ∧ N ≤ 150 := ⟨(capK n 150).toNat, (Int.toNat_of_nonneg hc1.1).symm, by omega⟩
  obtain ⟨J, hJ, hJ2⟩ : ∃ J : Nat, capK j 150 = (J : Int) ∧ J ≤ 150 := ⟨(capK j 150).toNat, (Int.toNat_of_nonneg hc2.1).symm, by omega⟩
  have hrA := oRun (prog.take 64) (m.extract 0 (min m.size 300)) (N : Int) false hP hPl
  have hrB := dRun0 (prog.take 64) (m.extract 0 (min m.size 300)) (N : Int) false hP hPl
  have hrF := dRun (prog.take 64) (m.extract 0 (min m.size 300)) ((N + J : Nat) : Int) false hP hPl
  have hz3 := dNewS (.sl 1 ((prog.take 64).map rowU) false) (m.extract 0 (min m.size 300))
  have hz4 := newS_ok (m.extract 0 (min m.size 300))
  have hz5 : (newS (m.extract 0 (min m.size 300))).r 0 = 0 := rfl
  have e1 : runL (prog.take 64) (m.extract 0 (min m.size 300)) (N : Int) = stepsL (prog.take 64) N (newS (m.extract 0 (min m.size 300))) := by unfold runL; rw [capN_id (by omega)]; rfl
  have e2 : runL (prog.take 64) (m.extract 0 (min m.size 300)) ((N + J : Nat) : Int) = stepsL (prog.take 64) (N + J) (newS (m.extract 0 (min m.size 300))) := by unfold runL; rw [capN_id (by omega)]; rfl
  rw [e1] at hrA hrB
  rw [e2] at hrF
  clear e1 e2
  obtain ⟨Z, hZ⟩ : ∃ z, newS (m.extract 0 (min m.size 300)) = z := ⟨_, rfl⟩
  rw [hZ] at hrA hrB hrF hz3 hz4 hz5
  clear hZ
  have hr0 := last_r0 (prog := (prog.take 64)) (N + J) Z
  have hms := last_msize (prog := (prog.take 64)) (N + J) Z
  have hhl := halt_last (prog := (prog.take 64)) (N + J) Z
  have hadd := stepsL_add (prog.take 64) N J Z
  have hok1 := lastOf_ok (prog := (prog.take 64)) N Z hz4
  have hokT := lastOf_ok (prog := (prog.take 64)) (N + J) Z hz4
  have hFl := stepsL_len (prog.take 64) (N + J) Z
  obtain ⟨L1, hL1⟩ : ∃ L, stepsL (prog.take 64) N Z = L := ⟨_, rfl⟩
  rw [hL1] at hrA hrB hadd hok1
  have hNl : L1.length ≤ 150 := by rw [← hL1]; exact Nat.le_trans (stepsL_len _ _ _) hN2
  obtain ⟨S1, hS1⟩ : ∃ s, lastOf Z L1 = s := ⟨_, rfl⟩
  rw [hS1] at hrA hrB hadd hok1
  obtain ⟨LF, hLF⟩ : ∃ L, stepsL (prog.take 64) (N + J) Z = L := ⟨_, rfl⟩
  rw [hLF] at hrF hr0 hms hhl hadd hokT hFl
  obtain ⟨T1, hT1⟩ : ∃ s, lastOf Z LF = s := ⟨_, rfl⟩
  rw [hT1] at hrF hr0 hms hokT
  rw [hz5] at hr0
  by_cases hne : L1 = []
  · skip
    refine nSeq ?_
    refine cReg rfl ?_
    refine rOk (d := 8) (x := .v (.bool false)) rfl rfl rfl ?_
    refine rEnd (n' := 1) rfl ?_
    refine nSeq ?_
    refine cReg rfl ?_
    refine rOk (d := 18) (x := .sl 1 (prog.map rowU) false) rfl rfl rfl ?_
    refine rOk (d := 19) (x := .v (.string m)) rfl rfl rfl ?_
    refine rCall (args := [.sl 1 (prog.map rowU) false, .v (.string m)]) (d := 20) (x := .tup [.sl 1 ((prog.take 64).map rowU) false, .v (.string (m.extract 0 (min m.size 300)))]) rfl rfl rfl rfl (.inl rfl) rfl (dShort prog m false hl hm) ?_
    refine rOk (d := 17) (x := .tup [.sl 1 ((prog.take 64).map rowU) false, .v (.string (m.extract 0 (min m.size 300)))]) rfl rfl rfl ?_
    refine rOk (d := 21) (x := .sl 1 ((prog.take 64).map rowU) false) rfl rfl rfl ?_
    refine rOk (d := 22) (x := .v (.string (m.extract 0 (min m.size 300)))) rfl rfl rfl ?_
    refine rOk (d := 0) (x := .sl 1 ((prog.take 64).map rowU) false) rfl rfl rfl ?_
    refine rOk (d := 1) (x := .v (.string (m.extract 0 (min m.size 300)))) rfl rfl rfl ?_
    refine rEnd (n' := 9) rfl ?_
    refine nSeq ?_
    refine cReg rfl ?_
    refine rOk (d := 23) (x := .v (.int .i64 n)) rfl rfl rfl ?_
    refine rOk (d := 24) (x := .v (.int .i64 (if (0 : Int) > n then 0 else n))) rfl rfl rfl ?_
    refine rOk (d := 25) (x := .v (.int .i64 ((N : Nat) : Int))) rfl rfl (congrArg (fun z : Int => Res.ok (.v (.int .i64 z))) hN) ?_
    refine rOk (d := 26) (x := .v (.int .i64 j)) rfl rfl rfl ?_
    refine rOk (d := 27) (x := .v (.int .i64 (if (0 : Int) > j then 0 else j))) rfl rfl rfl ?_
    refine rOk (d := 28) (x := .v (.int .i64 ((J : Nat) : Int))) rfl rfl (congrArg (fun z : Int => Res.ok (.v (.int .i64 z))) hJ) ?_
    refine rOk (d := 2) (x := .v (.int .i64 ((N : Nat) : Int))) rfl rfl rfl ?_
    refine rOk (d := 3) (x := .v (.int .i64 ((J : Nat) : Int))) rfl rfl rfl ?_
    refine rEnd (n' := 17) rfl ?_
    refine nSeq ?_
    refine cReg rfl ?_
    refine rOk (d := 30) (x := .sl 1 ((prog.take 64).map rowU) false) rfl rfl rfl ?_
    refine rOk (d := 31) (x := .v (.string (m.extract 0 (min m.size 300)))) rfl rfl rfl ?_
    refine rOk (d := 32) (x := .v (.int .i64 ((N : Nat) : Int))) rfl rfl rfl ?_
    refine rCall (args := [.sl 1 ((prog.take 64).map rowU) false, .v (.string (m.extract 0 (min m.size 300))), .v (.int .i64 ((N : Nat) : Int))]) (d := 33) (x := .tup [.agg (stL S1.pc S1.r S1.mem S1.halt), .sl 0 ([]) true]) rfl rfl rfl rfl (.inl rfl) rfl (hrB hne) ?_
    refine rOk (d := 29) (x := .tup [.agg (stL S1.pc S1.r S1.mem S1.halt), .sl 0 ([]) true]) rfl rfl rfl ?_
    refine rOk (d := 34) (x := .agg (stL S1.pc S1.r S1.mem S1.halt)) rfl rfl rfl ?_
    refine rOk (d := 35) (x := .sl 0 ([]) true) rfl rfl rfl ?_
    refine rFx (d := 9) (x := .ptr 24 0) (h' := upd _ 24 (some (.box (stL 0 (fun _ => 0) (⟨#[]⟩) 0)))) rfl rfl (rfl) (trivial) ?_
    refine rFx0 (h' := upd _ 24 (some (.box (stL S1.pc S1.r S1.mem S1.halt)))) rfl rfl (rfl) (trivial) ?_
    refine rOk (d := 10) (x := .sl 0 ([]) true) rfl rfl rfl ?_
    refine rEnd (n' := 27) rfl ?_
    refine cSeq ?_
    refine cReg rfl ?_
    refine rOk (d := 37) (x := .sl 1 ((prog.take 64).map rowU) false) rfl rfl rfl ?_
    refine rOk (d := 38) (x := .v (.string (m.extract 0 (min m.size 300)))) rfl rfl rfl ?_
    refine rOk (d := 39) (x := .v (.int .i64 ((N : Nat) : Int))) rfl rfl rfl ?_
    refine rOk (d := 40) (x := .v (.int .i64 ((J : Nat) : Int))) rfl rfl rfl ?_
    have b1 : N + J ≤ 300 := Nat.add_le_add hN2 hJ2
    refine rOk (d := 41) (x := .v (.int .i64 ((N + J : Nat) : Int))) rfl rfl (okI (wrapI64 b1 rfl)) ?_
    refine rCall (args := [.sl 1 ((prog.take 64).map rowU) false, .v (.string (m.extract 0 (min m.size 300))), .v (.int .i64 ((N + J : Nat) : Int))]) (d := 42) (x := .tup [.agg (stL T1.pc T1.r T1.mem T1.halt), .sl 9 (LF.map rowS) false]) rfl rfl rfl rfl (.inl rfl) rfl (hrF) ?_
    refine rOk (d := 36) (x := .tup [.agg (stL T1.pc T1.r T1.mem T1.halt), .sl 9 (LF.map rowS) false]) rfl rfl rfl ?_
    refine rOk (d := 43) (x := .agg (stL T1.pc T1.r T1.mem T1.halt)) rfl rfl rfl ?_
    refine rOk (d := 44) (x := .sl 9 (LF.map rowS) false) rfl rfl rfl ?_
    refine rFx (d := 11) (x := .ptr 36 0) (h' := upd _ 36 (some (.box (stL 0 (fun _ => 0) (⟨#[]⟩) 0)))) rfl rfl (rfl) (trivial) ?_
    refine rFx0 (h' := upd _ 36 (some (.box (stL T1.pc T1.r T1.mem T1.halt)))) rfl rfl (rfl) (trivial) ?_
    refine rOk (d := 12) (x := .sl 9 (LF.map rowS) false) rfl rfl rfl ?_
    refine rEnd (n' := 39) rfl ?_
    refine cSeq ?_
    refine cSeq ?_
    refine cReg rfl ?_
    refine rOk (d := 45) (x := .v (.int .i64 ((J : Nat) : Int))) rfl rfl rfl ?_
    refine rOk (d := 46) (x := .v (.int .i64 0)) rfl rfl rfl ?_
    refine rEnd (n' := 41) rfl ?_
    refine cBlock ?_
    refine cLoop (κ := Nat) (fun k => match k with | 0 => ⟨slotsF [(0, .sl 1 ((prog.take 64).map rowU) false), (1, .v (.string (m.extract 0 (min m.size 300)))), (3, .v (.int .i64 ((J : Nat) : Int))), (8, .v (.bool false)), (9, .ptr 24 0), (11, .ptr 36 0), (12, .sl 9 (LF.map rowS) false), (45, .v (.int .i64 ((J : Nat) : Int))), (10, .sl 0 ([]) true), (46, .v (.int .i64 ((0 : Nat) : Int)))], heapF [(24, .box (stL ((goS (prog.take 64) S1 0).pc) ((goS (prog.take 64) S1 0).r) ((goS (prog.take 64) S1 0).mem) ((goS (prog.take 64) S1 0).halt))), (36, .box (stL T1.pc T1.r T1.mem T1.halt))], 41⟩ | k + 1 => ⟨slotsF [(0, .sl 1 ((prog.take 64).map rowU) false), (1, .v (.string (m.extract 0 (min m.size 300)))), (3, .v (.int .i64 ((J : Nat) : Int))), (8, .v (.bool false)), (9, .ptr 24 0), (11, .ptr 36 0), (12, .sl 9 (LF.map rowS) false), (45, .v (.int .i64 ((J : Nat) : Int))), (10, .osl 0 0 ((goL (prog.take 64) L1 S1 (k + 1)).length) false), (46, .v (.int .i64 (((k + 1) : Nat) : Int)))], heapF [(24, .box (stL ((goS (prog.take 64) S1 (k + 1)).pc) ((goS (prog.take 64) S1 (k + 1)).r) ((goS (prog.take 64) S1 (k + 1)).mem) ((goS (prog.take 64) S1 (k + 1)).halt))), (36, .box (stL T1.pc T1.r T1.mem T1.halt)), (0, .arr (goL (prog.take 64) L1 S1 (k + 1)) 9)], 41⟩) (fun k => k ≤ J) (fun k => J - k) 0 (fun s => s) (Weak.of_lists (fun s => s) ⟨⟨rfl, rfl⟩, ⟨rfl, rfl⟩, ⟨rfl, rfl⟩, ⟨rfl, rfl⟩, ⟨rfl, rfl⟩, ⟨rfl, rfl⟩, ⟨rfl, rfl⟩, ⟨rfl, rfl⟩, ⟨rfl, rfl⟩, ⟨rfl, rfl⟩, trivial⟩ ⟨⟨rfl, rfl, rfl⟩, ⟨rfl, rfl, rfl⟩, trivial⟩ rfl) (Nat.zero_le _) ?_
    intro k hk
    rcases k with _ | k
    · skip
      refine cSeq ?_
      refine cReg rfl ?_
      refine rOk (d := 47) (x := .v (.bool (decide (0 < J)))) rfl rfl (okB (ltN _ _)) ?_
      refine rEnd (n' := 42) rfl ?_
      refine cSeq ?_
      refine cCond (v := decide (0 < J)) rfl (fun h1 => ?_) (fun h1 => ?_)
      · skip
        refine cSkip ?_
        refine cSeq ?_
        refine cBlock ?_
        refine cSeq ?_
        refine cSeq ?_
        refine cReg rfl ?_
        refine rOk (d := 48) (x := .ptr 24 34) rfl rfl rfl ?_
        refine rOk (d := 49) (x := .v (.int .i64 ((goS (prog.take 64) S1 0).halt))) rfl rfl rfl ?_
        refine rOk (d := 50) (x := .v (.bool (((goS (prog.take 64) S1 0).halt) != 0))) rfl rfl rfl ?_
        refine rEnd (n' := 45) rfl ?_
        refine cCond (v := ((goS (prog.take 64) S1 0).halt) != 0) rfl (fun h2 => ?_) (fun h2 => ?_)
        · skip
          refine cExit ?_
          refine cSeq ?_
          refine cSeq ?_
          refine cReg rfl ?_
          have hex : stepsL (prog.take 64) J S1 = stepsL (prog.take 64) 0 S1 := stepsL_stop (show (goS (prog.take 64) S1 0).halt ≠ 0 by simpa using h2) hk
          have hfin : LF = L1 ++ stepsL (prog.take 64) 0 S1 := by rw [hadd, hex]
          have hTk : T1 = (goS (prog.take 64) S1 0) := by rw [← hT1, hfin, lastOf_app, hS1]; rfl
          have hgl : (goL (prog.take 64) L1 S1 0) = (LF.map (·.2)).map spL := by unfold goL; rw [← hfin, List.map_map]; rfl
          have hlikeA : DCall C0 14 [.sl 0 [] true, .sl 9 (LF.map rowS) false] (.v (.bool true)) := by rw [show LF = [] from by rw [hfin, hne]; rfl]; exact dLikeNil
          refine rOk (d := 63) (x := .sl 9 (LF.map rowS) false) rfl rfl rfl ?_
          refine rOk (d := 64) (x := .v (.int .i64 ((LF.length : Nat) : Int))) rfl rfl (congrArg (fun n : Nat => Res.ok (.v (.int .i64 (n : Int)))) (List.length_map ..)) ?_
          refine rOk (d := 65) (x := .v (.int .i64 0)) rfl rfl rfl ?_
          refine rEnd (n' := 48) rfl ?_
          refine cBlock ?_
          refine cLoop (κ := Nat) (fun i => ⟨slotsF [(0, .sl 1 ((prog.take 64).map rowU) false), (1, .v (.string (m.extract 0 (min m.size 300)))), (8, .v (.bool false)), (9, .ptr 24 0), (10, .sl 0 ([]) true), (11, .ptr 36 0), (12, .sl 9 (LF.map rowS) false), (63, .sl 9 (LF.map rowS) false), (64, .v (.int .i64 ((LF.length : Nat) : Int))), (65, .v (.int .i64 ((i : Nat) : Int)))], heapF [(24, .box (stL ((goS (prog.take 64) S1 0).pc) ((goS (prog.take 64) S1 0).r) ((goS (prog.take 64) S1 0).mem) ((goS (prog.take 64) S1 0).halt))), (36, .box (stL T1.pc T1.r T1.mem T1.halt))], 48⟩) (fun i => i ≤ LF.length) (fun i => LF.length - i) 0 (fun s => s) (Weak.of_lists (fun s => s) ⟨⟨rfl, rfl⟩, ⟨rfl, rfl⟩, ⟨rfl, rfl⟩, ⟨rfl, rfl⟩, ⟨rfl, rfl⟩, ⟨rfl, rfl⟩, ⟨rfl, rfl⟩, ⟨rfl, rfl⟩, ⟨rfl, rfl⟩, ⟨rfl, rfl⟩, trivial⟩ ⟨⟨rfl, rfl, rfl⟩, ⟨rfl, rfl, rfl⟩, trivial⟩ rfl) (Nat.zero_le _) ?_
          intro i hi
          refine cSeq ?_
          refine cReg rfl ?_
          refine rOk (d := 66) (x := .v (.bool (decide (i < LF.length)))) rfl rfl (okB (ltN _ _)) ?_
          refine rEnd (n' := 49) rfl ?_
          refine cSeq ?_
          refine cCond (v := decide (i < LF.length)) rfl (fun h3 => ?_) (fun h3 => ?_)
          · skip
            refine cSkip ?_
            refine cSeq ?_
            refine cBlock ?_
            refine cSeq ?_
            refine cReg rfl ?_
            refine rOk (d := 67) (x := .v (.int .i64 ((i : Nat) : Int))) rfl rfl rfl ?_
            obtain ⟨x, hx⟩ : ∃ x, LF[i]? = some x := ⟨_, List.getElem?_eq_getElem (of_decide_eq_true h3)⟩
            refine rIdx (rowS x) (d := 68) (x := .dp 9 0 (rowS x)) rfl rfl rfl (⟨Int.natCast_nonneg _, by rw [Int.toNat_natCast, List.getElem?_map, hx]; rfl⟩) rfl ?_
            refine rOk (d := 69) (x := .agg (rowS x)) rfl rfl rfl ?_
            refine rFx (d := 16) (x := .ptr 52 0) (h' := upd _ 52 (some (.box [.v (.int .u32 0), .v (.int .u32 0), .v (.int .i64 0), .v (.int .u32 0), .v (.int .u32 0), .v (.int .i64 0), .v (.bool false), .v (.int .i64 0), .v (.int .i64 0)]))) rfl rfl (rfl) (trivial) ?_
            refine rOk (d := 15) (x := .v (.int .i64 ((i : Nat) : Int))) rfl rfl rfl ?_
            refine rFx0 (h' := upd _ 52 (some (.box [.v (.int .u32 ((x.2.pc : Nat) : Int)), .v (.int .u32 ((x.2.next : Nat) : Int)), .v (.int .i64 x.2.rd), .v (.int .u32 ((x.2.value : Nat) : Int)), .v (.int .u32 ((x.2.addr : Nat) : Int)), .v (.int .i64 x.2.size), .v (.bool x.2.store), .v (.int .i64 x.2.halt), .v (.int .i64 x.2.took)]))) rfl rfl (rfl) (trivial) ?_
            refine rEnd (n' := 55) rfl ?_
            refine cSeq ?_
            refine cReg rfl ?_
            refine rOk (d := 70) (x := .ptr 52 7) rfl rfl rfl ?_
            refine rOk (d := 71) (x := .v (.int .i64 x.2.halt)) rfl rfl rfl ?_
            refine rOk (d := 72) (x := .v (.bool (x.2.halt != 0))) rfl rfl rfl ?_
            refine rOk (d := 73) (x := .v (.bool (x.2.halt != 0))) rfl rfl rfl ?_
            refine gOk (d := 74) (x := .v (.int .i64 ((i : Nat) : Int))) (g := x.2.halt != 0) rfl rfl rfl rfl rfl rfl ?_
            refine gOk (d := 75) (x := .sl 9 (LF.map rowS) false) (g := x.2.halt != 0) rfl rfl rfl rfl rfl rfl ?_
            refine gOkS (d := 76) (x := .v (.int .i64 ((LF.length : Nat) : Int))) (g := x.2.halt != 0) rfl rfl rfl rfl (fun h => h) rfl (congrArg (fun n : Nat => Res.ok (.v (.int .i64 (n : Int)))) (List.length_map ..)) ?_
            refine gOkS (d := 77) (x := .v (.int .i64 (((LF.length : Nat) : Int) - 1))) (g := x.2.halt != 0) rfl rfl rfl rfl (fun h => h) rfl (okI (wrap_i64 (by omega) (by omega))) ?_
            refine gOkS (d := 78) (x := .v (.bool (((i : Nat) : Int) != (((LF.length : Nat) : Int) - 1)))) (g := x.2.halt != 0) rfl rfl rfl rfl (fun h => by simp_all) rfl rfl ?_
            refine rNeed (d := 79) (x := .v (.bool (cond2 (x.2.halt != 0) (((i : Nat) : Int) != (((LF.length : Nat) : Int) - 1)) false))) rfl rfl rfl (fun h => h) ?_
            refine rEnd (n' := 65) rfl ?_
            refine cCond (v := cond2 (x.2.halt != 0) (((i : Nat) : Int) != (((LF.length : Nat) : Int) - 1)) false) rfl (fun h4 => by have q := cond2_and h4; have e := hhl i x hx (by simpa using q.1); have q2 := q.2; simp at q2; omega) (fun _ => ?_)
            refine cSkip ?_
            refine cReg rfl ?_
            refine rOk (d := 80) (x := .v (.int .i64 (IntKind.wrap .i64 (((i : Nat) : Int) + 1)))) rfl rfl rfl ?_
            refine rOk (d := 65) (x := .v (.int .i64 (IntKind.wrap .i64 (((i : Nat) : Int) + 1)))) rfl rfl rfl ?_
            refine rEnd (n' := 67) rfl ?_
            refine ⟨i + 1, fun s => s, Weak.of_lists (fun s => s) ⟨⟨rfl, rfl⟩, ⟨rfl, rfl⟩, ⟨rfl, rfl⟩, ⟨rfl, rfl⟩, ⟨rfl, rfl⟩, ⟨rfl, rfl⟩, ⟨rfl, rfl⟩, ⟨rfl, rfl⟩, ⟨rfl, rfl⟩, ⟨slot_inc i (by have := of_decide_eq_true h3; omega), rfl⟩, trivial⟩ ⟨⟨rfl, rfl, rfl⟩, ⟨rfl, rfl, rfl⟩, trivial⟩ rfl, of_decide_eq_true h3, by have := of_decide_eq_true h3; show LF.length - (i + 1) < LF.length - i; omega⟩
          · skip
            refine cExit ?_
            refine cSeq ?_
            refine cReg rfl ?_
            refine rCall (args := []) (d := 81) (x := .v (.bool true)) rfl rfl rfl rfl (.inl rfl) rfl (dAlive6) ?_
            refine rOk (d := 82) (x := .v (.bool true)) rfl rfl rfl ?_
            refine gOk (d := 83) (x := .agg (stL ((goS (prog.take 64) S1 0).pc) ((goS (prog.take 64) S1 0).r) ((goS (prog.take 64) S1 0).mem) ((goS (prog.take 64) S1 0).halt))) (g := true) rfl rfl rfl rfl rfl rfl ?_
            refine gOk (d := 84) (x := .agg (stL T1.pc T1.r T1.mem T1.halt)) (g := true) rfl rfl rfl rfl rfl rfl ?_
            refine gOkS (d := 85) (x := .v (.bool true)) (g := true) rfl rfl rfl rfl (fun h => by simp_all) rfl (show binA C0 .eql 28 (stA (goS (prog.take 64) S1 0)) (stA T1) = _ from by rw [hTk]; exact stEq _) ?_
            refine rNeed (d := 86) (x := .v (.bool (cond2 true true false))) rfl rfl rfl (fun h => h) ?_
            refine rOk (d := 87) (x := .v (.bool (cond2 true true false))) rfl rfl rfl ?_
            refine gOk (d := 88) (x := .sl 0 ([]) true) (g := cond2 true true false) rfl rfl rfl rfl rfl rfl ?_
            refine gOk (d := 89) (x := .sl 9 (LF.map rowS) false) (g := cond2 true true false) rfl rfl rfl rfl rfl rfl ?_
            refine gCallS (args := [.sl 0 ([]) true, .sl 9 (LF.map rowS) false]) (d := 90) (x := .v (.bool true)) (g := cond2 true true false) rfl rfl rfl rfl (fun h => by simp_all) rfl rfl rfl (.inl rfl) rfl (fun hg => hlikeA) ?_
            refine rNeed (d := 91) (x := .v (.bool (cond2 (cond2 true true false) true false))) rfl rfl rfl (fun h => h) ?_
            refine rOk (d := 92) (x := .v (.bool (cond2 (cond2 true true false) true false))) rfl rfl rfl ?_
            refine gOk (d := 93) (x := .ptr 36 1) (g := cond2 (cond2 true true false) true false) rfl rfl rfl rfl rfl rfl ?_
            refine gNeedS (d := 94) (x := .ptr 36 1) (g := cond2 (cond2 true true false) true false) rfl rfl rfl rfl (fun h => h) rfl rfl (fun _ => ⟨by decide, by decide⟩) ?_
            refine gOkS (d := 95) (x := .v (.int .u32 ((T1.r 0 : Nat) : Int))) (g := cond2 (cond2 true true false) true false) rfl rfl rfl rfl (fun h => h) rfl rfl ?_
            refine gOkS (d := 96) (x := .v (.bool true)) (g := cond2 (cond2 true true false) true false) rfl rfl rfl rfl (fun h => h) rfl (okB (beq_iff_eq.2 (congrArg (fun n : Nat => (n : Int)) hr0))) ?_
            refine rNeed (d := 97) (x := .v (.bool (cond2 (cond2 (cond2 true true false) true false) true false))) rfl rfl rfl (fun h => h) ?_
            refine rOk (d := 98) (x := .v (.bool (cond2 (cond2 (cond2 true true false) true false) true false))) rfl rfl rfl ?_
            refine gOk (d := 99) (x := .ptr 36 33) (g := cond2 (cond2 (cond2 true true false) true false) true false) rfl rfl rfl rfl rfl rfl ?_
            refine gOkS (d := 100) (x := .v (.string T1.mem)) (g := cond2 (cond2 (cond2 true true false) true false) true false) rfl rfl rfl rfl (fun h => h) rfl rfl ?_
            refine gOkS (d := 101) (x := .v (.int .i64 ((T1.mem.size : Nat) : Int))) (g := cond2 (cond2 (cond2 true true false) true false) true false) rfl rfl rfl rfl (fun h => h) rfl rfl ?_
            refine gOk (d := 102) (x := .sl 1 ((prog.take 64).map rowU) false) (g := cond2 (cond2 (cond2 true true false) true false) true false) rfl rfl rfl rfl rfl rfl ?_
            refine gOk (d := 103) (x := .v (.string (m.extract 0 (min m.size 300)))) (g := cond2 (cond2 (cond2 true true false) true false) true false) rfl rfl rfl rfl rfl rfl ?_
            refine gCallS (args := [.sl 1 ((prog.take 64).map rowU) false, .v (.string (m.extract 0 (min m.size 300)))]) (d := 104) (x := .agg (stL Z.pc Z.r Z.mem Z.halt)) (g := cond2 (cond2 (cond2 true true false) true false) true false) rfl rfl rfl rfl (fun h => by simp_all) rfl rfl rfl (.inl rfl) rfl (fun hg => hz3) ?_
            refine gOkS (d := 105) (x := .v (.string Z.mem)) (g := cond2 (cond2 (cond2 true true false) true false) true false) rfl rfl rfl rfl (fun h => h) rfl rfl ?_
            refine gOkS (d := 106) (x := .v (.int .i64 ((Z.mem.size : Nat) : Int))) (g := cond2 (cond2 (cond2 true true false) true false) true false) rfl rfl rfl rfl (fun h => h) rfl rfl ?_
            refine gOkS (d := 107) (x := .v (.bool true)) (g := cond2 (cond2 (cond2 true true false) true false) true false) rfl rfl rfl rfl (fun h => by simp_all) rfl (okB (beq_iff_eq.2 (congrArg (fun n : Nat => (n : Int)) hms))) ?_
            refine rNeed (d := 108) (x := .v (.bool (cond2 (cond2 (cond2 (cond2 true true false) true false) true false) true false))) rfl rfl rfl (fun h => h) ?_
            refine rOk (d := 8) (x := .v (.bool (cond2 (cond2 (cond2 (cond2 true true false) true false) true false) true false))) rfl rfl rfl ?_
            refine rEnd (n' := 78) rfl ?_
            refine cRet ?_
            exact retA_eq rfl trivial rfl rfl
        · skip
          refine cSkip ?_
          refine cSeq ?_
          refine cReg rfl ?_
          refine rOk (d := 52) (x := .sl 1 ((prog.take 64).map rowU) false) rfl rfl rfl ?_
          have hh : (goS (prog.take 64) S1 0).halt = 0 := by simpa using h2
          refine rOk (d := 53) (x := .agg (stL ((goS (prog.take 64) S1 0).pc) ((goS (prog.take 64) S1 0).r) ((goS (prog.take 64) S1 0).mem) ((goS (prog.take 64) S1 0).halt))) rfl rfl rfl ?_
          refine rCall (args := [.sl 1 ((prog.take 64).map rowU) false, .agg (stL ((goS (prog.take 64) S1 0).pc) ((goS (prog.take 64) S1 0).r) ((goS (prog.take 64) S1 0).mem) ((goS (prog.take 64) S1 0).halt))]) (d := 54) (x := .tup [.agg (stL ((stepP (prog.take 64) (goS (prog.take 64) S1 0)).1).pc ((stepP (prog.take 64) (goS (prog.take 64) S1 0)).1).r ((stepP (prog.take 64) (goS (prog.take 64) S1 0)).1).mem ((stepP (prog.take 64) (goS (prog.take 64) S1 0)).1).halt), .agg (spL ((stepP (prog.take 64) (goS (prog.take 64) S1 0)).2))]) rfl rfl rfl rfl (.inl rfl) rfl (dStep (prog.take 64) (goS (prog.take 64) S1 0) false hP hPl (goS_ok 0 hok1)) ?_
          refine rOk (d := 51) (x := .tup [.agg (stL ((stepP (prog.take 64) (goS (prog.take 64) S1 0)).1).pc ((stepP (prog.take 64) (goS (prog.take 64) S1 0)).1).r ((stepP (prog.take 64) (goS (prog.take 64) S1 0)).1).mem ((stepP (prog.take 64) (goS (prog.take 64) S1 0)).1).halt), .agg (spL ((stepP (prog.take 64) (goS (prog.take 64) S1 0)).2))]) rfl rfl rfl ?_
          refine rOk (d := 55) (x := .agg (stL ((stepP (prog.take 64) (goS (prog.take 64) S1 0)).1).pc ((stepP (prog.take 64) (goS (prog.take 64) S1 0)).1).r ((stepP (prog.take 64) (goS (prog.take 64) S1 0)).1).mem ((stepP (prog.take 64) (goS (prog.take 64) S1 0)).1).halt)) rfl rfl rfl ?_
          refine rOk (d := 56) (x := .agg (spL ((stepP (prog.take 64) (goS (prog.take 64) S1 0)).2))) rfl rfl rfl ?_
          refine rFx (d := 13) (x := .ptr 51 0) (h' := upd _ 51 (some (.box (stL 0 (fun _ => 0) (⟨#[]⟩) 0)))) rfl rfl (rfl) (trivial) ?_
          refine rFx (d := 14) (x := .ptr 52 0) (h' := upd _ 52 (some (.box [.v (.int .u32 0), .v (.int .u32 0), .v (.int .i64 0), .v (.int .u32 0), .v (.int .u32 0), .v (.int .i64 0), .v (.bool false), .v (.int .i64 0), .v (.int .i64 0)]))) rfl rfl (rfl) (trivial) ?_
          refine rFx0 (h' := upd _ 51 (some (.box (stL (((stepP (prog.take 64) (goS (prog.take 64) S1 0)).1).pc) (((stepP (prog.take 64) (goS (prog.take 64) S1 0)).1).r) (((stepP (prog.take 64) (goS (prog.take 64) S1 0)).1).mem) (((stepP (prog.take 64) (goS (prog.take 64) S1 0)).1).halt))))) rfl rfl (rfl) (trivial) ?_
          refine rFx0 (h' := upd _ 52 (some (.box [.v (.int .u32 ((((stepP (prog.take 64) (goS (prog.take 64) S1 0)).2).pc : Nat) : Int)), .v (.int .u32 ((((stepP (prog.take 64) (goS (prog.take 64) S1 0)).2).next : Nat) : Int)), .v (.int .i64 (((stepP (prog.take 64) (goS (prog.take 64) S1 0)).2).rd)), .v (.int .u32 ((((stepP (prog.take 64) (goS (prog.take 64) S1 0)).2).value : Nat) : Int)), .v (.int .u32 ((((stepP (prog.take 64) (goS (prog.take 64) S1 0)).2).addr : Nat) : Int)), .v (.int .i64 (((stepP (prog.take 64) (goS (prog.take 64) S1 0)).2).size)), .v (.bool (((stepP (prog.take 64) (goS (prog.take 64) S1 0)).2).store)), .v (.int .i64 (((stepP (prog.take 64) (goS (prog.take 64) S1 0)).2).halt)), .v (.int .i64 (((stepP (prog.take 64) (goS (prog.take 64) S1 0)).2).took))]))) rfl rfl (rfl) (trivial) ?_
          refine rEnd (n' := 55) rfl ?_
          refine cSeq ?_
          refine cReg rfl ?_
          refine rOk (d := 57) (x := .agg (stL (((stepP (prog.take 64) (goS (prog.take 64) S1 0)).1).pc) (((stepP (prog.take 64) (goS (prog.take 64) S1 0)).1).r) (((stepP (prog.take 64) (goS (prog.take 64) S1 0)).1).mem) (((stepP (prog.take 64) (goS (prog.take 64) S1 0)).1).halt))) rfl rfl rfl ?_
          refine rFx0 (h' := upd _ 24 (some (.box (stL (((stepP (prog.take 64) (goS (prog.take 64) S1 0)).1).pc) (((stepP (prog.take 64) (goS (prog.take 64) S1 0)).1).r) (((stepP (prog.take 64) (goS (prog.take 64) S1 0)).1).mem) (((stepP (prog.take 64) (goS (prog.take 64) S1 0)).1).halt))))) rfl rfl (rfl) (trivial) ?_
          refine rEnd (n' := 57) rfl ?_
          refine cReg rfl ?_
          refine rOk (d := 58) (x := .sl 0 ([]) true) rfl rfl rfl ?_
          refine rOk (d := 59) (x := .agg [.v (.int .u32 ((((stepP (prog.take 64) (goS (prog.take 64) S1 0)).2).pc : Nat) : Int)), .v (.int .u32 ((((stepP (prog.take 64) (goS (prog.take 64) S1 0)).2).next : Nat) : Int)), .v (.int .i64 (((stepP (prog.take 64) (goS (prog.take 64) S1 0)).2).rd)), .v (.int .u32 ((((stepP (prog.take 64) (goS (prog.take 64) S1 0)).2).value : Nat) : Int)), .v (.int .u32 ((((stepP (prog.take 64) (goS (prog.take 64) S1 0)).2).addr : Nat) : Int)), .v (.int .i64 (((stepP (prog.take 64) (goS (prog.take 64) S1 0)).2).size)), .v (.bool (((stepP (prog.take 64) (goS (prog.take 64) S1 0)).2).store)), .v (.int .i64 (((stepP (prog.take 64) (goS (prog.take 64) S1 0)).2).halt)), .v (.int .i64 (((stepP (prog.take 64) (goS (prog.take 64) S1 0)).2).took))]) rfl rfl rfl ?_
          refine rOk (d := 60) (x := .sl 9 ([[.v (.int .u32 ((((stepP (prog.take 64) (goS (prog.take 64) S1 0)).2).pc : Nat) : Int)), .v (.int .u32 ((((stepP (prog.take 64) (goS (prog.take 64) S1 0)).2).next : Nat) : Int)), .v (.int .i64 (((stepP (prog.take 64) (goS (prog.take 64) S1 0)).2).rd)), .v (.int .u32 ((((stepP (prog.take 64) (goS (prog.take 64) S1 0)).2).value : Nat) : Int)), .v (.int .u32 ((((stepP (prog.take 64) (goS (prog.take 64) S1 0)).2).addr : Nat) : Int)), .v (.int .i64 (((stepP (prog.take 64) (goS (prog.take 64) S1 0)).2).size)), .v (.bool (((stepP (prog.take 64) (goS (prog.take 64) S1 0)).2).store)), .v (.int .i64 (((stepP (prog.take 64) (goS (prog.take 64) S1 0)).2).halt)), .v (.int .i64 (((stepP (prog.take 64) (goS (prog.take 64) S1 0)).2).took))]]) true) rfl rfl rfl ?_
          refine rFx (d := 61) (x := .osl 60 0 (([rowS (stepP (prog.take 64) (goS (prog.take 64) S1 0))] : List (List AV)).length) false) (h' := upd _ 60 (some (.arr ([rowS (stepP (prog.take 64) (goS (prog.take 64) S1 0))]) 9))) rfl rfl (rfl) (⟨rfl, by simp [capMax], by simp [capMax], trivial⟩) ?_
          refine rOk (d := 10) (x := .osl 60 0 (([rowS (stepP (prog.take 64) (goS (prog.take 64) S1 0))] : List (List AV)).length) false) rfl rfl rfl ?_
          refine rEnd (n' := 62) rfl ?_
          refine cReg rfl ?_
          refine rOk (d := 62) (x := .v (.int .i64 (IntKind.wrap .i64 (((0 : Nat) : Int) + 1)))) rfl rfl rfl ?_
          refine rOk (d := 46) (x := .v (.int .i64 (IntKind.wrap .i64 (((0 : Nat) : Int) + 1)))) rfl rfl rfl ?_
          refine rEnd (n' := 64) rfl ?_
          refine ⟨0 + 1, fun s => match s with | 0 => 60 | s => s, Weak.of_lists (fun s => match s with | 0 => 60 | s => s) ⟨⟨rfl, rfl⟩, ⟨rfl, rfl⟩, ⟨rfl, rfl⟩, ⟨rfl, rfl⟩, ⟨rfl, rfl⟩, ⟨rfl, rfl⟩, ⟨rfl, rfl⟩, ⟨rfl, rfl⟩, ⟨congrArg (fun z => AV.osl 60 0 z false) (show 1 = (goL (prog.take 64) L1 S1 (0 + 1)).length from by rw [goL_succ hh, goL_zero, hne]; rfl), rfl⟩, ⟨slot_inc 0 (by have := of_decide_eq_true h1; omega), rfl⟩, trivial⟩ ⟨⟨rfl, congrArg (fun s : St => some (Blk.box (stL s.pc s.r s.mem s.halt))) (goS_succ hh).symm, rfl⟩, ⟨rfl, rfl, rfl⟩, ⟨rfl, congrArg (fun z => some (Blk.arr z 9)) (show [rowS (stepP (prog.take 64) (goS (prog.take 64) S1 0))] = goL (prog.take 64) L1 S1 (0 + 1) from by rw [goL_succ hh, goL_zero, hne]; rfl), rfl⟩, trivial⟩ rfl, of_decide_eq_true h1, by have := of_decide_eq_true h1; show J - (0 + 1) < J - 0; omega⟩
      · skip
        refine cExit ?_
        refine cSeq ?_
        refine cSeq ?_
        refine cReg rfl ?_
        have hex : stepsL (prog.take 64) J S1 = stepsL (prog.take 64) 0 S1 := by rw [show J = 0 from by have := of_decide_eq_false h1; omega]
        have hfin : LF = L1 ++ stepsL (prog.take 64) 0 S1 := by rw [hadd, hex]
        have hTk : T1 = (goS (prog.take 64) S1 0) := by rw [← hT1, hfin, lastOf_app, hS1]; rfl
        have hgl : (goL (prog.take 64) L1 S1 0) = (LF.map (·.2)).map spL := by unfold goL; rw [← hfin, List.map_map]; rfl
        have hlikeA : DCall C0 14 [.sl 0 [] true, .sl 9 (LF.map rowS) false] (.v (.bool true)) := by rw [show LF = [] from by rw [hfin, hne]; rfl]; exact dLikeNil
        refine rOk (d := 63) (x := .sl 9 (LF.map rowS) false) rfl rfl rfl ?_
        refine rOk (d := 64) (x := .v (.int .i64 ((LF.length : Nat) : Int))) rfl rfl (congrArg (fun n : Nat => Res.ok (.v (.int .i64 (n : Int)))) (List.length_map ..)) ?_
        refine rOk (d := 65) (x := .v (.int .i64 0)) rfl rfl rfl ?_
        refine rEnd (n' := 45) rfl ?_
        refine cBlock ?_
        refine cLoop (κ := Nat) (fun i => ⟨slotsF [(0, .sl 1 ((prog.take 64).map rowU) false), (1, .v (.string (m.extract 0 (min m.size 300)))), (8, .v (.bool false)), (9, .ptr 24 0), (10, .sl 0 ([]) true), (11, .ptr 36 0), (12, .sl 9 (LF.map rowS) false), (63, .sl 9 (LF.map rowS) false), (64, .v (.int .i64 ((LF.length : Nat) : Int))), (65, .v (.int .i64 ((i : Nat) : Int)))], heapF [(24, .box (stL ((goS (prog.take 64) S1 0).pc) ((goS (prog.take 64) S1 0).r) ((goS (prog.take 64) S1 0).mem) ((goS (prog.take 64) S1 0).halt))), (36, .box (stL T1.pc T1.r T1.mem T1.halt))], 45⟩) (fun i => i ≤ LF.length) (fun i => LF.length - i) 0 (fun s => s) (Weak.of_lists (fun s => s) ⟨⟨rfl, rfl⟩, ⟨rfl, rfl⟩, ⟨rfl, rfl⟩, ⟨rfl, rfl⟩, ⟨rfl, rfl⟩, ⟨rfl, rfl⟩, ⟨rfl, rfl⟩, ⟨rfl, rfl⟩, ⟨rfl, rfl⟩, ⟨rfl, rfl⟩, trivial⟩ ⟨⟨rfl, rfl, rfl⟩, ⟨rfl, rfl, rfl⟩, trivial⟩ rfl) (Nat.zero_le _) ?_
        intro i hi
        refine cSeq ?_
        refine cReg rfl ?_
        refine rOk (d := 66) (x := .v (.bool (decide (i < LF.length)))) rfl rfl (okB (ltN _ _)) ?_
        refine rEnd (n' := 46) rfl ?_
        refine cSeq ?_
        refine cCond (v := decide (i < LF.length)) rfl (fun h5 => ?_) (fun h5 => ?_)
        · skip
          refine cSkip ?_
          refine cSeq ?_
          refine cBlock ?_
          refine cSeq ?_
          refine cReg rfl ?_
          refine rOk (d := 67) (x := .v (.int .i64 ((i : Nat) : Int))) rfl rfl rfl ?_
          obtain ⟨x, hx⟩ : ∃ x, LF[i]? = some x := ⟨_, List.getElem?_eq_getElem (of_decide_eq_true h5)⟩
          refine rIdx (rowS x) (d := 68) (x := .dp 9 0 (rowS x)) rfl rfl rfl (⟨Int.natCast_nonneg _, by rw [Int.toNat_natCast, List.getElem?_map, hx]; rfl⟩) rfl ?_
          refine rOk (d := 69) (x := .agg (rowS x)) rfl rfl rfl ?_
          refine rFx (d := 16) (x := .ptr 49 0) (h' := upd _ 49 (some (.box [.v (.int .u32 0), .v (.int .u32 0), .v (.int .i64 0), .v (.int .u32 0), .v (.int .u32 0), .v (.int .i64 0), .v (.bool false), .v (.int .i64 0), .v (.int .i64 0)]))) rfl rfl (rfl) (trivial) ?_
          refine rOk (d := 15) (x := .v (.int .i64 ((i : Nat) : Int))) rfl rfl rfl ?_
          refine rFx0 (h' := upd _ 49 (some (.box [.v (.int .u32 ((x.2.pc : Nat) : Int)), .v (.int .u32 ((x.2.next : Nat) : Int)), .v (.int .i64 x.2.rd), .v (.int .u32 ((x.2.value : Nat) : Int)), .v (.int .u32 ((x.2.addr : Nat) : Int)), .v (.int .i64 x.2.size), .v (.bool x.2.store), .v (.int .i64 x.2.halt), .v (.int .i64 x.2.took)]))) rfl rfl (rfl) (trivial) ?_
          refine rEnd (n' := 52) rfl ?_
          refine cSeq ?_
          refine cReg rfl ?_
          refine rOk (d := 70) (x := .ptr 49 7) rfl rfl rfl ?_
          refine rOk (d := 71) (x := .v (.int .i64 x.2.halt)) rfl rfl rfl ?_
          refine rOk (d := 72) (x := .v (.bool (x.2.halt != 0))) rfl rfl rfl ?_
          refine rOk (d := 73) (x := .v (.bool (x.2.halt != 0))) rfl rfl rfl ?_
          refine gOk (d := 74) (x := .v (.int .i64 ((i : Nat) : Int))) (g := x.2.halt != 0) rfl rfl rfl rfl rfl rfl ?_
          refine gOk (d := 75) (x := .sl 9 (LF.map rowS) false) (g := x.2.halt != 0) rfl rfl rfl rfl rfl rfl ?_
          refine gOkS (d := 76) (x := .v (.int .i64 ((LF.length : Nat) : Int))) (g := x.2.halt != 0) rfl rfl rfl rfl (fun h => h) rfl (congrArg (fun n : Nat => Res.ok (.v (.int .i64 (n : Int)))) (List.length_map ..)) ?_
          refine gOkS (d := 77) (x := .v (.int .i64 (((LF.length : Nat) : Int) - 1))) (g := x.2.halt != 0) rfl rfl rfl rfl (fun h => h) rfl (okI (wrap_i64 (by omega) (by omega))) ?_
          refine gOkS (d := 78) (x := .v (.bool (((i : Nat) : Int) != (((LF.length : Nat) : Int) - 1)))) (g := x.2.halt != 0) rfl rfl rfl rfl (fun h => by simp_all) rfl rfl ?_
          refine rNeed (d := 79) (x := .v (.bool (cond2 (x.2.halt != 0) (((i : Nat) : Int) != (((LF.length : Nat) : Int) - 1)) false))) rfl rfl rfl (fun h => h) ?_
          refine rEnd (n' := 62) rfl ?_
          refine cCond (v := cond2 (x.2.halt != 0) (((i : Nat) : Int) != (((LF.length : Nat) : Int) - 1)) false) rfl (fun h6 => by have q := cond2_and h6; have e := hhl i x hx (by simpa using q.1); have q2 := q.2; simp at q2; omega) (fun _ => ?_)
          refine cSkip ?_
          refine cReg rfl ?_
          refine rOk (d := 80) (x := .v (.int .i64 (IntKind.wrap .i64 (((i : Nat) : Int) + 1)))) rfl rfl rfl ?_
          refine rOk (d := 65) (x := .v (.int .i64 (IntKind.wrap .i64 (((i : Nat) : Int) + 1)))) rfl rfl rfl ?_
          refine rEnd (n' := 64) rfl ?_
          refine ⟨i + 1, fun s => s, Weak.of_lists (fun s => s) ⟨⟨rfl, rfl⟩, ⟨rfl, rfl⟩, ⟨rfl, rfl⟩, ⟨rfl, rfl⟩, ⟨rfl, rfl⟩, ⟨rfl, rfl⟩, ⟨rfl, rfl⟩, ⟨rfl, rfl⟩, ⟨rfl, rfl⟩, ⟨slot_inc i (by have := of_decide_eq_true h5; omega), rfl⟩, trivial⟩ ⟨⟨rfl, rfl, rfl⟩, ⟨rfl, rfl, rfl⟩, trivial⟩ rfl, of_decide_eq_true h5, by have := of_decide_eq_true h5; show LF.length - (i + 1) < LF.length - i; omega⟩
        · skip
          refine cExit ?_
          refine cSeq ?_
          refine cReg rfl ?_
          refine rCall (args := []) (d := 81) (x := .v (.bool true)) rfl rfl rfl rfl (.inl rfl) rfl (dAlive6) ?_
          refine rOk (d := 82) (x := .v (.bool true)) rfl rfl rfl ?_
          refine gOk (d := 83) (x := .agg (stL ((goS (prog.take 64) S1 0).pc) ((goS (prog.take 64) S1 0).r) ((goS (prog.take 64) S1 0).mem) ((goS (prog.take 64) S1 0).halt))) (g := true) rfl rfl rfl rfl rfl rfl ?_
          refine gOk (d := 84) (x := .agg (stL T1.pc T1.r T1.mem T1.halt)) (g := true) rfl rfl rfl rfl rfl rfl ?_
          refine gOkS (d := 85) (x := .v (.bool true)) (g := true) rfl rfl rfl rfl (fun h => by simp_all) rfl (show binA C0 .eql 28 (stA (goS (prog.take 64) S1 0)) (stA T1) = _ from by rw [hTk]; exact stEq _) ?_
          refine rNeed (d := 86) (x := .v (.bool (cond2 true true false))) rfl rfl rfl (fun h => h) ?_
          refine rOk (d := 87) (x := .v (.bool (cond2 true true false))) rfl rfl rfl ?_
          refine gOk (d := 88) (x := .sl 0 ([]) true) (g := cond2 true true false) rfl rfl rfl rfl rfl rfl ?_
          refine gOk (d := 89) (x := .sl 9 (LF.map rowS) false) (g := cond2 true true false) rfl rfl rfl rfl rfl rfl ?_
          refine gCallS (args := [.sl 0 ([]) true, .sl 9 (LF.map rowS) false]) (d := 90) (x := .v (.bool true)) (g := cond2 true true false) rfl rfl rfl rfl (fun h => by simp_all) rfl rfl rfl (.inl rfl) rfl (fun hg => hlikeA) ?_
          refine rNeed (d := 91) (x := .v (.bool (cond2 (cond2 true true false) true false))) rfl rfl rfl (fun h => h) ?_
          refine rOk (d := 92) (x := .v (.bool (cond2 (cond2 true true false) true false))) rfl rfl rfl ?_
          refine gOk (d := 93) (x := .ptr 36 1) (g := cond2 (cond2 true true false) true false) rfl rfl rfl rfl rfl rfl ?_
          refine gNeedS (d := 94) (x := .ptr 36 1) (g := cond2 (cond2 true true false) true false) rfl rfl rfl rfl (fun h => h) rfl rfl (fun _ => ⟨by decide, by decide⟩) ?_
          refine gOkS (d := 95) (x := .v (.int .u32 ((T1.r 0 : Nat) : Int))) (g := cond2 (cond2 true true false) true false) rfl rfl rfl rfl (fun h => h) rfl rfl ?_
          refine gOkS (d := 96) (x := .v (.bool true)) (g := cond2 (cond2 true true false) true false) rfl rfl rfl rfl (fun h => h) rfl (okB (beq_iff_eq.2 (congrArg (fun n : Nat => (n : Int)) hr0))) ?_
          refine rNeed (d := 97) (x := .v (.bool (cond2 (cond2 (cond2 true true false) true false) true false))) rfl rfl rfl (fun h => h) ?_
          refine rOk (d := 98) (x := .v (.bool (cond2 (cond2 (cond2 true true false) true false) true false))) rfl rfl rfl ?_
          refine gOk (d := 99) (x := .ptr 36 33) (g := cond2 (cond2 (cond2 true true false) true false) true false) rfl rfl rfl rfl rfl rfl ?_
          refine gOkS (d := 100) (x := .v (.string T1.mem)) (g := cond2 (cond2 (cond2 true true false) true false) true false) rfl rfl rfl rfl (fun h => h) rfl rfl ?_
          refine gOkS (d := 101) (x := .v (.int .i64 ((T1.mem.size : Nat) : Int))) (g := cond2 (cond2 (cond2 true true false) true false) true false) rfl rfl rfl rfl (fun h => h) rfl rfl ?_
          refine gOk (d := 102) (x := .sl 1 ((prog.take 64).map rowU) false) (g := cond2 (cond2 (cond2 true true false) true false) true false) rfl rfl rfl rfl rfl rfl ?_
          refine gOk (d := 103) (x := .v (.string (m.extract 0 (min m.size 300)))) (g := cond2 (cond2 (cond2 true true false) true false) true false) rfl rfl rfl rfl rfl rfl ?_
          refine gCallS (args := [.sl 1 ((prog.take 64).map rowU) false, .v (.string (m.extract 0 (min m.size 300)))]) (d := 104) (x := .agg (stL Z.pc Z.r Z.mem Z.halt)) (g := cond2 (cond2 (cond2 true true false) true false) true false) rfl rfl rfl rfl (fun h => by simp_all) rfl rfl rfl (.inl rfl) rfl (fun hg => hz3) ?_
          refine gOkS (d := 105) (x := .v (.string Z.mem)) (g := cond2 (cond2 (cond2 true true false) true false) true false) rfl rfl rfl rfl (fun h => h) rfl rfl ?_
          refine gOkS (d := 106) (x := .v (.int .i64 ((Z.mem.size : Nat) : Int))) (g := cond2 (cond2 (cond2 true true false) true false) true false) rfl rfl rfl rfl (fun h => h) rfl rfl ?_
          refine gOkS (d := 107) (x := .v (.bool true)) (g := cond2 (cond2 (cond2 true true false) true false) true false) rfl rfl rfl rfl (fun h => by simp_all) rfl (okB (beq_iff_eq.2 (congrArg (fun n : Nat => (n : Int)) hms))) ?_
          refine rNeed (d := 108) (x := .v (.bool (cond2 (cond2 (cond2 (cond2 true true false) true false) true false) true false))) rfl rfl rfl (fun h => h) ?_
          refine rOk (d := 8) (x := .v (.bool (cond2 (cond2 (cond2 (cond2 true true false) true false) true false) true false))) rfl rfl rfl ?_
          refine rEnd (n' := 75) rfl ?_
          refine cRet ?_
          exact retA_eq rfl trivial rfl rfl
    · skip
      refine cSeq ?_
      refine cReg rfl ?_
      refine rOk (d := 47) (x := .v (.bool (decide ((k + 1) < J)))) rfl rfl (okB (ltN _ _)) ?_
      refine rEnd (n' := 42) rfl ?_
      refine cSeq ?_
      refine cCond (v := decide ((k + 1) < J)) rfl (fun h7 => ?_) (fun h7 => ?_)
      · skip
        refine cSkip ?_
        refine cSeq ?_
        refine cBlock ?_
        refine cSeq ?_
        refine cSeq ?_
        refine cReg rfl ?_
        refine rOk (d := 48) (x := .ptr 24 34) rfl rfl rfl ?_
        refine rOk (d := 49) (x := .v (.int .i64 ((goS (prog.take 64) S1 (k + 1)).halt))) rfl rfl rfl ?_
        refine rOk (d := 50) (x := .v (.bool (((goS (prog.take 64) S1 (k + 1)).halt) != 0))) rfl rfl rfl ?_
        refine rEnd (n' := 45) rfl ?_
        refine cCond (v := ((goS (prog.take 64) S1 (k + 1)).halt) != 0) rfl (fun h8 => ?_) (fun h8 => ?_)
        · skip
          refine cExit ?_
          refine cSeq ?_
          refine cSeq ?_
          refine cReg rfl ?_
          have hex : stepsL (prog.take 64) J S1 = stepsL (prog.take 64) (k + 1) S1 := stepsL_stop (show (goS (prog.take 64) S1 (k + 1)).halt ≠ 0 by simpa using h8) hk
          have hfin : LF = L1 ++ stepsL (prog.take 64) (k + 1) S1 := by rw [hadd, hex]
          have hTk : T1 = (goS (prog.take 64) S1 (k + 1)) := by rw [← hT1, hfin, lastOf_app, hS1]; rfl
          have hgl : (goL (prog.take 64) L1 S1 (k + 1)) = (LF.map (·.2)).map spL := by unfold goL; rw [← hfin, List.map_map]; rfl
          have hlikeA : DCall C0 14 [.sl 9 (List.take (goL (prog.take 64) L1 S1 (k + 1)).length (List.drop 0 (goL (prog.take 64) L1 S1 (k + 1)))) false, .sl 9 (LF.map rowS) false] (.v (.bool true)) := by rw [goL_app, hgl, show LF.map rowS = (LF.map (·.2)).map spL by rw [List.map_map]; rfl]; exact dLike6 _ false false (by rw [List.length_map]; omega)
          refine rOk (d := 63) (x := .sl 9 (LF.map rowS) false) rfl rfl rfl ?_
          refine rOk (d := 64) (x := .v (.int .i64 ((LF.length : Nat) : Int))) rfl rfl (congrArg (fun n : Nat => Res.ok (.v (.int .i64 (n : Int)))) (List.length_map ..)) ?_
          refine rOk (d := 65) (x := .v (.int .i64 0)) rfl rfl rfl ?_
          refine rEnd (n' := 48) rfl ?_
          refine cBlock ?_
          refine cLoop (κ := Nat) (fun i => ⟨slotsF [(0, .sl 1 ((prog.take 64).map rowU) false), (1, .v (.string (m.extract 0 (min m.size 300)))), (8, .v (.bool false)), (9, .ptr 24 0), (10, .osl 0 0 ((goL (prog.take 64) L1 S1 (k + 1)).length) false), (11, .ptr 36 0), (12, .sl 9 (LF.map rowS) false), (63, .sl 9 (LF.map rowS) false), (64, .v (.int .i64 ((LF.length : Nat) : Int))), (65, .v (.int .i64 ((i : Nat) : Int)))], heapF [(24, .box (stL ((goS (prog.take 64) S1 (k + 1)).pc) ((goS (prog.take 64) S1 (k + 1)).r) ((goS (prog.take 64) S1 (k + 1)).mem) ((goS (prog.take 64) S1 (k + 1)).halt))), (36, .box (stL T1.pc T1.r T1.mem T1.halt)), (0, .arr (goL (prog.take 64) L1 S1 (k + 1)) 9)], 48⟩) (fun i => i ≤ LF.length) (fun i => LF.length - i) 0 (fun s => s) (Weak.of_lists (fun s => s) ⟨⟨rfl, rfl⟩, ⟨rfl, rfl⟩, ⟨rfl, rfl⟩, ⟨rfl, rfl⟩, ⟨rfl, rfl⟩, ⟨rfl, rfl⟩, ⟨rfl, rfl⟩, ⟨rfl, rfl⟩, ⟨rfl, rfl⟩, ⟨rfl, rfl⟩, trivial⟩ ⟨⟨rfl, rfl, rfl⟩, ⟨rfl, rfl, rfl⟩, ⟨rfl, rfl, rfl⟩, trivial⟩ rfl) (Nat.zero_le _) ?_
          intro i hi
          refine cSeq ?_
          refine cReg rfl ?_
          refine rOk (d := 66) (x := .v (.bool (decide (i < LF.length)))) rfl rfl (okB (ltN _ _)) ?_
          refine rEnd (n' := 49) rfl ?_
          refine cSeq ?_
          refine cCond (v := decide (i < LF.length)) rfl (fun h9 => ?_) (fun h9 => ?_)
          · skip
            refine cSkip ?_
            refine cSeq ?_
            refine cBlock ?_
            refine cSeq ?_
            refine cReg rfl ?_
            refine rOk (d := 67) (x := .v (.int .i64 ((i : Nat) : Int))) rfl rfl rfl ?_
            obtain ⟨x, hx⟩ : ∃ x, LF[i]? = some x := ⟨_, List.getElem?_eq_getElem (of_decide_eq_true h9)⟩
            refine rIdx (rowS x) (d := 68) (x := .dp 9 0 (rowS x)) rfl rfl rfl (⟨Int.natCast_nonneg _, by rw [Int.toNat_natCast, List.getElem?_map, hx]; rfl⟩) rfl ?_
            refine rOk (d := 69) (x := .agg (rowS x)) rfl rfl rfl ?_
            refine rFx (d := 16) (x := .ptr 52 0) (h' := upd _ 52 (some (.box [.v (.int .u32 0), .v (.int .u32 0), .v (.int .i64 0), .v (.int .u32 0), .v (.int .u32 0), .v (.int .i64 0), .v (.bool false), .v (.int .i64 0), .v (.int .i64 0)]))) rfl rfl (rfl) (trivial) ?_
            refine rOk (d := 15) (x := .v (.int .i64 ((i : Nat) : Int))) rfl rfl rfl ?_
            refine rFx0 (h' := upd _ 52 (some (.box [.v (.int .u32 ((x.2.pc : Nat) : Int)), .v (.int .u32 ((x.2.next : Nat) : Int)), .v (.int .i64 x.2.rd), .v (.int .u32 ((x.2.value : Nat) : Int)), .v (.int .u32 ((x.2.addr : Nat) : Int)), .v (.int .i64 x.2.size), .v (.bool x.2.store), .v (.int .i64 x.2.halt), .v (.int .i64 x.2.took)]))) rfl rfl (rfl) (trivial) ?_
            refine rEnd (n' := 55) rfl ?_
            refine cSeq ?_
            refine cReg rfl ?_
            refine rOk (d := 70) (x := .ptr 52 7) rfl rfl rfl ?_
            refine rOk (d := 71) (x := .v (.int .i64 x.2.halt)) rfl rfl rfl ?_
            refine rOk (d := 72) (x := .v (.bool (x.2.halt != 0))) rfl rfl rfl ?_
            refine rOk (d := 73) (x := .v (.bool (x.2.halt != 0))) rfl rfl rfl ?_
            refine gOk (d := 74) (x := .v (.int .i64 ((i : Nat) : Int))) (g := x.2.halt != 0) rfl rfl rfl rfl rfl rfl ?_
            refine gOk (d := 75) (x := .sl 9 (LF.map rowS) false) (g := x.2.halt != 0) rfl rfl rfl rfl rfl rfl ?_
            refine gOkS (d := 76) (x := .v (.int .i64 ((LF.length : Nat) : Int))) (g := x.2.halt != 0) rfl rfl rfl rfl (fun h => h) rfl (congrArg (fun n : Nat => Res.ok (.v (.int .i64 (n : Int)))) (List.length_map ..)) ?_
            refine gOkS (d := 77) (x := .v (.int .i64 (((LF.length : Nat) : Int) - 1))) (g := x.2.halt != 0) rfl rfl rfl rfl (fun h => h) rfl (okI (wrap_i64 (by omega) (by omega))) ?_
            refine gOkS (d := 78) (x := .v (.bool (((i : Nat) : Int) != (((LF.length : Nat) : Int) - 1)))) (g := x.2.halt != 0) rfl rfl rfl rfl (fun h => by simp_all) rfl rfl ?_
            refine rNeed (d := 79) (x := .v (.bool (cond2 (x.2.halt != 0) (((i : Nat) : Int) != (((LF.length : Nat) : Int) - 1)) false))) rfl rfl rfl (fun h => h) ?_
            refine rEnd (n' := 65) rfl ?_
            refine cCond (v := cond2 (x.2.halt != 0) (((i : Nat) : Int) != (((LF.length : Nat) : Int) - 1)) false) rfl (fun h10 => by have q := cond2_and h10; have e := hhl i x hx (by simpa using q.1); have q2 := q.2; simp at q2; omega) (fun _ => ?_)
            refine cSkip ?_
            refine cReg rfl ?_
            refine rOk (d := 80) (x := .v (.int .i64 (IntKind.wrap .i64 (((i : Nat) : Int) + 1)))) rfl rfl rfl ?_
            refine rOk (d := 65) (x := .v (.int .i64 (IntKind.wrap .i64 (((i : Nat) : Int) + 1)))) rfl rfl rfl ?_
            refine rEnd (n' := 67) rfl ?_
            refine ⟨i + 1, fun s => s, Weak.of_lists (fun s => s) ⟨⟨rfl, rfl⟩, ⟨rfl, rfl⟩, ⟨rfl, rfl⟩, ⟨rfl, rfl⟩, ⟨rfl, rfl⟩, ⟨rfl, rfl⟩, ⟨rfl, rfl⟩, ⟨rfl, rfl⟩, ⟨rfl, rfl⟩, ⟨slot_inc i (by have := of_decide_eq_true h9; omega), rfl⟩, trivial⟩ ⟨⟨rfl, rfl, rfl⟩, ⟨rfl, rfl, rfl⟩, ⟨rfl, rfl, rfl⟩, trivial⟩ rfl, of_decide_eq_true h9, by have := of_decide_eq_true h9; show LF.length - (i + 1) < LF.length - i; omega⟩
          · skip
            refine cExit ?_
            refine cSeq ?_
            refine cReg rfl ?_
            refine rCall (args := []) (d := 81) (x := .v (.bool true)) rfl rfl rfl rfl (.inl rfl) rfl (dAlive6) ?_
            refine rOk (d := 82) (x := .v (.bool true)) rfl rfl rfl ?_
            refine gOk (d := 83) (x := .agg (stL ((goS (prog.take 64) S1 (k + 1)).pc) ((goS (prog.take 64) S1 (k + 1)).r) ((goS (prog.take 64) S1 (k + 1)).mem) ((goS (prog.take 64) S1 (k + 1)).halt))) (g := true) rfl rfl rfl rfl rfl rfl ?_
            refine gOk (d := 84) (x := .agg (stL T1.pc T1.r T1.mem T1.halt)) (g := true) rfl rfl rfl rfl rfl rfl ?_
            refine gOkS (d := 85) (x := .v (.bool true)) (g := true) rfl rfl rfl rfl (fun h => by simp_all) rfl (show binA C0 .eql 28 (stA (goS (prog.take 64) S1 (k + 1))) (stA T1) = _ from by rw [hTk]; exact stEq _) ?_
            refine rNeed (d := 86) (x := .v (.bool (cond2 true true false))) rfl rfl rfl (fun h => h) ?_
            refine rOk (d := 87) (x := .v (.bool (cond2 true true false))) rfl rfl rfl ?_
            refine gOk (d := 88) (x := .osl 0 0 ((goL (prog.take 64) L1 S1 (k + 1)).length) false) (g := cond2 true true false) rfl rfl rfl rfl rfl rfl ?_
            refine gOk (d := 89) (x := .sl 9 (LF.map rowS) false) (g := cond2 true true false) rfl rfl rfl rfl rfl rfl ?_
            refine gCallS (args := [.osl 0 0 ((goL (prog.take 64) L1 S1 (k + 1)).length) false, .sl 9 (LF.map rowS) false]) (d := 90) (x := .v (.bool true)) (g := cond2 true true false) rfl rfl rfl rfl (fun h => by simp_all) rfl rfl rfl (.inr ⟨rfl, by show 0 + (goL (prog.take 64) L1 S1 (k + 1)).length ≤ (goL (prog.take 64) L1 S1 (k + 1)).length; omega, trivial, trivial⟩) rfl (fun hg => hlikeA) ?_
            refine rNeed (d := 91) (x := .v (.bool (cond2 (cond2 true true false) true false))) rfl rfl rfl (fun h => h) ?_
            refine rOk (d := 92) (x := .v (.bool (cond2 (cond2 true true false) true false))) rfl rfl rfl ?_
            refine gOk (d := 93) (x := .ptr 36 1) (g := cond2 (cond2 true true false) true false) rfl rfl rfl rfl rfl rfl ?_
            refine gNeedS (d := 94) (x := .ptr 36 1) (g := cond2 (cond2 true true false) true false) rfl rfl rfl rfl (fun h => h) rfl rfl (fun _ => ⟨by decide, by decide⟩) ?_
            refine gOkS (d := 95) (x := .v (.int .u32 ((T1.r 0 : Nat) : Int))) (g := cond2 (cond2 true true false) true false) rfl rfl rfl rfl (fun h => h) rfl rfl ?_
            refine gOkS (d := 96) (x := .v (.bool true)) (g := cond2 (cond2 true true false) true false) rfl rfl rfl rfl (fun h => h) rfl (okB (beq_iff_eq.2 (congrArg (fun n : Nat => (n : Int)) hr0))) ?_
            refine rNeed (d := 97) (x := .v (.bool (cond2 (cond2 (cond2 true true false) true false) true false))) rfl rfl rfl (fun h => h) ?_
            refine rOk (d := 98) (x := .v (.bool (cond2 (cond2 (cond2 true true false) true false) true false))) rfl rfl rfl ?_
            refine gOk (d := 99) (x := .ptr 36 33) (g := cond2 (cond2 (cond2 true true false) true false) true false) rfl rfl rfl rfl rfl rfl ?_
            refine gOkS (d := 100) (x := .v (.string T1.mem)) (g := cond2 (cond2 (cond2 true true false) true false) true false) rfl rfl rfl rfl (fun h => h) rfl rfl ?_
            refine gOkS (d := 101) (x := .v (.int .i64 ((T1.mem.size : Nat) : Int))) (g := cond2 (cond2 (cond2 true true false) true false) true false) rfl rfl rfl rfl (fun h => h) rfl rfl ?_
            refine gOk (d := 102) (x := .sl 1 ((prog.take 64).map rowU) false) (g := cond2 (cond2 (cond2 true true false) true false) true false) rfl rfl rfl rfl rfl rfl ?_
            refine gOk (d := 103) (x := .v (.string (m.extract 0 (min m.size 300)))) (g := cond2 (cond2 (cond2 true true false) true false) true false) rfl rfl rfl rfl rfl rfl ?_
            refine gCallS (args := [.sl 1 ((prog.take 64).map rowU) false, .v (.string (m.extract 0 (min m.size 300)))]) (d := 104) (x := .agg (stL Z.pc Z.r Z.mem Z.halt)) (g := cond2 (cond2 (cond2 true true false) true false) true false) rfl rfl rfl rfl (fun h => by simp_all) rfl rfl rfl (.inl rfl) rfl (fun hg => hz3) ?_
            refine gOkS (d := 105) (x := .v (.string Z.mem)) (g := cond2 (cond2 (cond2 true true false) true false) true false) rfl rfl rfl rfl (fun h => h) rfl rfl ?_
            refine gOkS (d := 106) (x := .v (.int .i64 ((Z.mem.size : Nat) : Int))) (g := cond2 (cond2 (cond2 true true false) true false) true false) rfl rfl rfl rfl (fun h => h) rfl rfl ?_
            refine gOkS (d := 107) (x := .v (.bool true)) (g := cond2 (cond2 (cond2 true true false) true false) true false) rfl rfl rfl rfl (fun h => by simp_all) rfl (okB (beq_iff_eq.2 (congrArg (fun n : Nat => (n : Int)) hms))) ?_
            refine rNeed (d := 108) (x := .v (.bool (cond2 (cond2 (cond2 (cond2 true true false) true false) true false) true false))) rfl rfl rfl (fun h => h) ?_
            refine rOk (d := 8) (x := .v (.bool (cond2 (cond2 (cond2 (cond2 true true false) true false) true false) true false))) rfl rfl rfl ?_
            refine rEnd (n' := 78) rfl ?_
            refine cRet ?_
            exact retA_eq rfl trivial rfl rfl
        · skip
          refine cSkip ?_
          refine cSeq ?_
          refine cReg rfl ?_
          refine rOk (d := 52) (x := .sl 1 ((prog.take 64).map rowU) false) rfl rfl rfl ?_
          have hh : (goS (prog.take 64) S1 (k + 1)).halt = 0 := by simpa using h8
          refine rOk (d := 53) (x := .agg (stL ((goS (prog.take 64) S1 (k + 1)).pc) ((goS (prog.take 64) S1 (k + 1)).r) ((goS (prog.take 64) S1 (k + 1)).mem) ((goS (prog.take 64) S1 (k + 1)).halt))) rfl rfl rfl ?_
          refine rCall (args := [.sl 1 ((prog.take 64).map rowU) false, .agg (stL ((goS (prog.take 64) S1 (k + 1)).pc) ((goS (prog.take 64) S1 (k + 1)).r) ((goS (prog.take 64) S1 (k + 1)).mem) ((goS (prog.take 64) S1 (k + 1)).halt))]) (d := 54) (x := .tup [.agg (stL ((stepP (prog.take 64) (goS (prog.take 64) S1 (k + 1))).1).pc ((stepP (prog.take 64) (goS (prog.take 64) S1 (k + 1))).1).r ((stepP (prog.take 64) (goS (prog.take 64) S1 (k + 1))).1).mem ((stepP (prog.take 64) (goS (prog.take 64) S1 (k + 1))).1).halt), .agg (spL ((stepP (prog.take 64) (goS (prog.take 64) S1 (k + 1))).2))]) rfl rfl rfl rfl (.inl rfl) rfl (dStep (prog.take 64) (goS (prog.take 64) S1 (k + 1)) false hP hPl (goS_ok (k + 1) hok1)) ?_
          refine rOk (d := 51) (x := .tup [.agg (stL ((stepP (prog.take 64) (goS (prog.take 64) S1 (k + 1))).1).pc ((stepP (prog.take 64) (goS (prog.take 64) S1 (k + 1))).1).r ((stepP (prog.take 64) (goS (prog.take 64) S1 (k + 1))).1).mem ((stepP (prog.take 64) (goS (prog.take 64) S1 (k + 1))).1).halt), .agg (spL ((stepP (prog.take 64) (goS (prog.take 64) S1 (k + 1))).2))]) rfl rfl rfl ?_
          refine rOk (d := 55) (x := .agg (stL ((stepP (prog.take 64) (goS (prog.take 64) S1 (k + 1))).1).pc ((stepP (prog.take 64) (goS (prog.take 64) S1 (k + 1))).1).r ((stepP (prog.take 64) (goS (prog.take 64) S1 (k + 1))).1).mem ((stepP (prog.take 64) (goS (prog.take 64) S1 (k + 1))).1).halt)) rfl rfl rfl ?_
          refine rOk (d := 56) (x := .agg (spL ((stepP (prog.take 64) (goS (prog.take 64) S1 (k + 1))).2))) rfl rfl rfl ?_
          refine rFx (d := 13) (x := .ptr 51 0) (h' := upd _ 51 (some (.box (stL 0 (fun _ => 0) (⟨#[]⟩) 0)))) rfl rfl (rfl) (trivial) ?_
          refine rFx (d := 14) (x := .ptr 52 0) (h' := upd _ 52 (some (.box [.v (.int .u32 0), .v (.int .u32 0), .v (.int .i64 0), .v (.int .u32 0), .v (.int .u32 0), .v (.int .i64 0), .v (.bool false), .v (.int .i64 0), .v (.int .i64 0)]))) rfl rfl (rfl) (trivial) ?_
          refine rFx0 (h' := upd _ 51 (some (.box (stL (((stepP (prog.take 64) (goS (prog.take 64) S1 (k + 1))).1).pc) (((stepP (prog.take 64) (goS (prog.take 64) S1 (k + 1))).1).r) (((stepP (prog.take 64) (goS (prog.take 64) S1 (k + 1))).1).mem) (((stepP (prog.take 64) (goS (prog.take 64) S1 (k + 1))).1).halt))))) rfl rfl (rfl) (trivial) ?_
          refine rFx0 (h' := upd _ 52 (some (.box [.v (.int .u32 ((((stepP (prog.take 64) (goS (prog.take 64) S1 (k + 1))).2).pc : Nat) : Int)), .v (.int .u32 ((((stepP (prog.take 64) (goS (prog.take 64) S1 (k + 1))).2).next : Nat) : Int)), .v (.int .i64 (((stepP (prog.take 64) (goS (prog.take 64) S1 (k + 1))).2).rd)), .v (.int .u32 ((((stepP (prog.take 64) (goS (prog.take 64) S1 (k + 1))).2).value : Nat) : Int)), .v (.int .u32 ((((stepP (prog.take 64) (goS (prog.take 64) S1 (k + 1))).2).addr : Nat) : Int)), .v (.int .i64 (((stepP (prog.take 64) (goS (prog.take 64) S1 (k + 1))).2).size)), .v (.bool (((stepP (prog.take 64) (goS (prog.take 64) S1 (k + 1))).2).store)), .v (.int .i64 (((stepP (prog.take 64) (goS (prog.take 64) S1 (k + 1))).2).halt)), .v (.int .i64 (((stepP (prog.take 64) (goS (prog.take 64) S1 (k + 1))).2).took))]))) rfl rfl (rfl) (trivial) ?_
          refine rEnd (n' := 55) rfl ?_
          refine cSeq ?_
          refine cReg rfl ?_
          refine rOk (d := 57) (x := .agg (stL (((stepP (prog.take 64) (goS (prog.take 64) S1 (k + 1))).1).pc) (((stepP (prog.take 64) (goS (prog.take 64) S1 (k + 1))).1).r) (((stepP (prog.take 64) (goS (prog.take 64) S1 (k + 1))).1).mem) (((stepP (prog.take 64) (goS (prog.take 64) S1 (k + 1))).1).halt))) rfl rfl rfl ?_
          refine rFx0 (h' := upd _ 24 (some (.box (stL (((stepP (prog.take 64) (goS (prog.take 64) S1 (k + 1))).1).pc) (((stepP (prog.take 64) (goS (prog.take 64) S1 (k + 1))).1).r) (((stepP (prog.take 64) (goS (prog.take 64) S1 (k + 1))).1).mem) (((stepP (prog.take 64) (goS (prog.take 64) S1 (k + 1))).1).halt))))) rfl rfl (rfl) (trivial) ?_
          refine rEnd (n' := 57) rfl ?_
          refine cReg rfl ?_
          refine rOk (d := 58) (x := .osl 0 0 ((goL (prog.take 64) L1 S1 (k + 1)).length) false) rfl rfl rfl ?_
          refine rOk (d := 59) (x := .agg [.v (.int .u32 ((((stepP (prog.take 64) (goS (prog.take 64) S1 (k + 1))).2).pc : Nat) : Int)), .v (.int .u32 ((((stepP (prog.take 64) (goS (prog.take 64) S1 (k + 1))).2).next : Nat) : Int)), .v (.int .i64 (((stepP (prog.take 64) (goS (prog.take 64) S1 (k + 1))).2).rd)), .v (.int .u32 ((((stepP (prog.take 64) (goS (prog.take 64) S1 (k + 1))).2).value : Nat) : Int)), .v (.int .u32 ((((stepP (prog.take 64) (goS (prog.take 64) S1 (k + 1))).2).addr : Nat) : Int)), .v (.int .i64 (((stepP (prog.take 64) (goS (prog.take 64) S1 (k + 1))).2).size)), .v (.bool (((stepP (prog.take 64) (goS (prog.take 64) S1 (k + 1))).2).store)), .v (.int .i64 (((stepP (prog.take 64) (goS (prog.take 64) S1 (k + 1))).2).halt)), .v (.int .i64 (((stepP (prog.take 64) (goS (prog.take 64) S1 (k + 1))).2).took))]) rfl rfl rfl ?_
          refine rOk (d := 60) (x := .sl 9 ([[.v (.int .u32 ((((stepP (prog.take 64) (goS (prog.take 64) S1 (k + 1))).2).pc : Nat) : Int)), .v (.int .u32 ((((stepP (prog.take 64) (goS (prog.take 64) S1 (k + 1))).2).next : Nat) : Int)), .v (.int .i64 (((stepP (prog.take 64) (goS (prog.take 64) S1 (k + 1))).2).rd)), .v (.int .u32 ((((stepP (prog.take 64) (goS (prog.take 64) S1 (k + 1))).2).value : Nat) : Int)), .v (.int .u32 ((((stepP (prog.take 64) (goS (prog.take 64) S1 (k + 1))).2).addr : Nat) : Int)), .v (.int .i64 (((stepP (prog.take 64) (goS (prog.take 64) S1 (k + 1))).2).size)), .v (.bool (((stepP (prog.take 64) (goS (prog.take 64) S1 (k + 1))).2).store)), .v (.int .i64 (((stepP (prog.take 64) (goS (prog.take 64) S1 (k + 1))).2).halt)), .v (.int .i64 (((stepP (prog.take 64) (goS (prog.take 64) S1 (k + 1))).2).took))]]) true) rfl rfl rfl ?_
          refine rFx (d := 61) (x := .osl 60 0 ((List.take (goL (prog.take 64) L1 S1 (k + 1)).length (List.drop 0 (goL (prog.take 64) L1 S1 (k + 1)))).length + ([rowS (stepP (prog.take 64) (goS (prog.take 64) S1 (k + 1)))] : List (List AV)).length) false) (h' := upd (upd _ 0 none) 60 (some (.arr (List.take (goL (prog.take 64) L1 S1 (k + 1)).length (List.drop 0 (goL (prog.take 64) L1 S1 (k + 1))) ++ [rowS (stepP (prog.take 64) (goS (prog.take 64) S1 (k + 1)))]) 9))) rfl rfl (rfl) (⟨by show (List.take (goL (prog.take 64) L1 S1 (k + 1)).length (List.drop 0 (goL (prog.take 64) L1 S1 (k + 1)))).length + 1 ≤ 1000000; rw [goL_app]; have := goL_len (prog.take 64) L1 S1 (k + 1); have := hk; omega, by show 0 + (goL (prog.take 64) L1 S1 (k + 1)).length = (goL (prog.take 64) L1 S1 (k + 1)).length; omega, trivial⟩) ?_
          refine rOk (d := 10) (x := .osl 60 0 ((List.take (goL (prog.take 64) L1 S1 (k + 1)).length (List.drop 0 (goL (prog.take 64) L1 S1 (k + 1)))).length + ([rowS (stepP (prog.take 64) (goS (prog.take 64) S1 (k + 1)))] : List (List AV)).length) false) rfl rfl rfl ?_
          refine rEnd (n' := 62) rfl ?_
          refine cReg rfl ?_
          refine rOk (d := 62) (x := .v (.int .i64 (IntKind.wrap .i64 ((((k + 1) : Nat) : Int) + 1)))) rfl rfl rfl ?_
          refine rOk (d := 46) (x := .v (.int .i64 (IntKind.wrap .i64 ((((k + 1) : Nat) : Int) + 1)))) rfl rfl rfl ?_
          refine rEnd (n' := 64) rfl ?_
          refine ⟨(k + 1) + 1, fun s => match s with | 0 => 60 | s => s, Weak.of_lists (fun s => match s with | 0 => 60 | s => s) ⟨⟨rfl, rfl⟩, ⟨rfl, rfl⟩, ⟨rfl, rfl⟩, ⟨rfl, rfl⟩, ⟨rfl, rfl⟩, ⟨rfl, rfl⟩, ⟨rfl, rfl⟩, ⟨rfl, rfl⟩, ⟨congrArg (fun z => AV.osl 60 0 z false) (show (List.take (goL (prog.take 64) L1 S1 (k + 1)).length (List.drop 0 (goL (prog.take 64) L1 S1 (k + 1)))).length + 1 = (goL (prog.take 64) L1 S1 ((k + 1) + 1)).length from by rw [goL_app, goL_succ hh]; simp), rfl⟩, ⟨slot_inc (k + 1) (by have := of_decide_eq_true h7; omega), rfl⟩, trivial⟩ ⟨⟨rfl, congrArg (fun s : St => some (Blk.box (stL s.pc s.r s.mem s.halt))) (goS_succ hh).symm, rfl⟩, ⟨rfl, rfl, rfl⟩, ⟨rfl, congrArg (fun z => some (Blk.arr z 9)) (show List.take (goL (prog.take 64) L1 S1 (k + 1)).length (List.drop 0 (goL (prog.take 64) L1 S1 (k + 1))) ++ [rowS (stepP (prog.take 64) (goS (prog.take 64) S1 (k + 1)))] = goL (prog.take 64) L1 S1 ((k + 1) + 1) from by rw [goL_app, goL_succ hh]), rfl⟩, trivial⟩ rfl, of_decide_eq_true h7, by have := of_decide_eq_true h7; show J - ((k + 1) + 1) < J - (k + 1); omega⟩
      · skip
        refine cExit ?_
        refine cSeq ?_
        refine cSeq ?_
        refine cReg rfl ?_
        have hex : stepsL (prog.take 64) J S1 = stepsL (prog.take 64) (k + 1) S1 := by rw [show J = (k + 1) from by have := of_decide_eq_false h7; omega]
        have hfin : LF = L1 ++ stepsL (prog.take 64) (k + 1) S1 := by rw [hadd, hex]
        have hTk : T1 = (goS (prog.take 64) S1 (k + 1)) := by rw [← hT1, hfin, lastOf_app, hS1]; rfl
        have hgl : (goL (prog.take 64) L1 S1 (k + 1)) = (LF.map (·.2)).map spL := by unfold goL; rw [← hfin, List.map_map]; rfl
        have hlikeA : DCall C0 14 [.sl 9 (List.take (goL (prog.take 64) L1 S1 (k + 1)).length (List.drop 0 (goL (prog.take 64) L1 S1 (k + 1)))) false, .sl 9 (LF.map rowS) false] (.v (.bool true)) := by rw [goL_app, hgl, show LF.map rowS = (LF.map (·.2)).map spL by rw [List.map_map]; rfl]; exact dLike6 _ false false (by rw [List.length_map]; omega)
        refine rOk (d := 63) (x := .sl 9 (LF.map rowS) false) rfl rfl rfl ?_
        refine rOk (d := 64) (x := .v (.int .i64 ((LF.length : Nat) : Int))) rfl rfl (congrArg (fun n : Nat => Res.ok (.v (.int .i64 (n : Int)))) (List.length_map ..)) ?_
        refine rOk (d := 65) (x := .v (.int .i64 0)) rfl rfl rfl ?_
        refine rEnd (n' := 45) rfl ?_
        refine cBlock ?_
        refine cLoop (κ := Nat) (fun i => ⟨slotsF [(0, .sl 1 ((prog.take 64).map rowU) false), (1, .v (.string (m.extract 0 (min m.size 300)))), (8, .v (.bool false)), (9, .ptr 24 0), (10, .osl 0 0 ((goL (prog.take 64) L1 S1 (k + 1)).length) false), (11, .ptr 36 0), (12, .sl 9 (LF.map rowS) false), (63, .sl 9 (LF.map rowS) false), (64, .v (.int .i64 ((LF.length : Nat) : Int))), (65, .v (.int .i64 ((i : Nat) : Int)))], heapF [(24, .box (stL ((goS (prog.take 64) S1 (k + 1)).pc) ((goS (prog.take 64) S1 (k + 1)).r) ((goS (prog.take 64) S1 (k + 1)).mem) ((goS (prog.take 64) S1 (k + 1)).halt))), (36, .box (stL T1.pc T1.r T1.mem T1.halt)), (0, .arr (goL (prog.take 64) L1 S1 (k + 1)) 9)], 45⟩) (fun i => i ≤ LF.length) (fun i => LF.length - i) 0 (fun s => s) (Weak.of_lists (fun s => s) ⟨⟨rfl, rfl⟩, ⟨rfl, rfl⟩, ⟨rfl, rfl⟩, ⟨rfl, rfl⟩, ⟨rfl, rfl⟩, ⟨rfl, rfl⟩, ⟨rfl, rfl⟩, ⟨rfl, rfl⟩, ⟨rfl, rfl⟩, ⟨rfl, rfl⟩, trivial⟩ ⟨⟨rfl, rfl, rfl⟩, ⟨rfl, rfl, rfl⟩, ⟨rfl, rfl, rfl⟩, trivial⟩ rfl) (Nat.zero_le _) ?_
        intro i hi
        refine cSeq ?_
        refine cReg rfl ?_
        refine rOk (d := 66) (x := .v (.bool (decide (i < LF.length)))) rfl rfl (okB (ltN _ _)) ?_
        refine rEnd (n' := 46) rfl ?_
        refine cSeq ?_
        refine cCond (v := decide (i < LF.length)) rfl (fun h11 => ?_) (fun h11 => ?_)
        · skip
          refine cSkip ?_
          refine cSeq ?_
          refine cBlock ?_
          refine cSeq ?_
          refine cReg rfl ?_
          refine rOk (d := 67) (x := .v (.int .i64 ((i : Nat) : Int))) rfl rfl rfl ?_
          obtain ⟨x, hx⟩ : ∃ x, LF[i]? = some x := ⟨_, List.getElem?_eq_getElem (of_decide_eq_true h11)⟩
          refine rIdx (rowS x) (d := 68) (x := .dp 9 0 (rowS x)) rfl rfl rfl (⟨Int.natCast_nonneg _, by rw [Int.toNat_natCast, List.getElem?_map, hx]; rfl⟩) rfl ?_
          refine rOk (d := 69) (x := .agg (rowS x)) rfl rfl rfl ?_
          refine rFx (d := 16) (x := .ptr 49 0) (h' := upd _ 49 (some (.box [.v (.int .u32 0), .v (.int .u32 0), .v (.int .i64 0), .v (.int .u32 0), .v (.int .u32 0), .v (.int .i64 0), .v (.bool false), .v (.int .i64 0), .v (.int .i64 0)]))) rfl rfl (rfl) (trivial) ?_
          refine rOk (d := 15) (x := .v (.int .i64 ((i : Nat) : Int))) rfl rfl rfl ?_
          refine rFx0 (h' := upd _ 49 (some (.box [.v (.int .u32 ((x.2.pc : Nat) : Int)), .v (.int .u32 ((x.2.next : Nat) : Int)), .v (.int .i64 x.2.rd), .v (.int .u32 ((x.2.value : Nat) : Int)), .v (.int .u32 ((x.2.addr : Nat) : Int)), .v (.int .i64 x.2.size), .v (.bool x.2.store), .v (.int .i64 x.2.halt), .v (.int .i64 x.2.took)]))) rfl rfl (rfl) (trivial) ?_
          refine rEnd (n' := 52) rfl ?_
          refine cSeq ?_
          refine cReg rfl ?_
          refine rOk (d := 70) (x := .ptr 49 7) rfl rfl rfl ?_
          refine rOk (d := 71) (x := .v (.int .i64 x.2.halt)) rfl rfl rfl ?_
          refine rOk (d := 72) (x := .v (.bool (x.2.halt != 0))) rfl rfl rfl ?_
          refine rOk (d := 73) (x := .v (.bool (x.2.halt != 0))) rfl rfl rfl ?_
          refine gOk (d := 74) (x := .v (.int .i64 ((i : Nat) : Int))) (g := x.2.halt != 0) rfl rfl rfl rfl rfl rfl ?_
          refine gOk (d := 75) (x := .sl 9 (LF.map rowS) false) (g := x.2.halt != 0) rfl rfl rfl rfl rfl rfl ?_
          refine gOkS (d := 76) (x := .v (.int .i64 ((LF.length : Nat) : Int))) (g := x.2.halt != 0) rfl rfl rfl rfl (fun h => h) rfl (congrArg (fun n : Nat => Res.ok (.v (.int .i64 (n : Int)))) (List.length_map ..)) ?_
          refine gOkS (d := 77) (x := .v (.int .i64 (((LF.length : Nat) : Int) - 1))) (g := x.2.halt != 0) rfl rfl rfl rfl (fun h => h) rfl (okI (wrap_i64 (by omega) (by omega))) ?_
          refine gOkS (d := 78) (x := .v (.bool (((i : Nat) : Int) != (((LF.length : Nat) : Int) - 1)))) (g := x.2.halt != 0) rfl rfl rfl rfl (fun h => by simp_all) rfl rfl ?_
          refine rNeed (d := 79) (x := .v (.bool (cond2 (x.2.halt != 0) (((i : Nat) : Int) != (((LF.length : Nat) : Int) - 1)) false))) rfl rfl rfl (fun h => h) ?_
          refine rEnd (n' := 62) rfl ?_
          refine cCond (v := cond2 (x.2.halt != 0) (((i : Nat) : Int) != (((LF.length : Nat) : Int) - 1)) false) rfl (fun h12 => by have q := cond2_and h12; have e := hhl i x hx (by simpa using q.1); have q2 := q.2; simp at q2; omega) (fun _ => ?_)
          refine cSkip ?_
          refine cReg rfl ?_
          refine rOk (d := 80) (x := .v (.int .i64 (IntKind.wrap .i64 (((i : Nat) : Int) + 1)))) rfl rfl rfl ?_
          refine rOk (d := 65) (x := .v (.int .i64 (IntKind.wrap .i64 (((i : Nat) : Int) + 1)))) rfl rfl rfl ?_
          refine rEnd (n' := 64) rfl ?_
          refine ⟨i + 1, fun s => s, Weak.of_lists (fun s => s) ⟨⟨rfl, rfl⟩, ⟨rfl, rfl⟩, ⟨rfl, rfl⟩, ⟨rfl, rfl⟩, ⟨rfl, rfl⟩, ⟨rfl, rfl⟩, ⟨rfl, rfl⟩, ⟨rfl, rfl⟩, ⟨rfl, rfl⟩, ⟨slot_inc i (by have := of_decide_eq_true h11; omega), rfl⟩, trivial⟩ ⟨⟨rfl, rfl, rfl⟩, ⟨rfl, rfl, rfl⟩, ⟨rfl, rfl, rfl⟩, trivial⟩ rfl, of_decide_eq_true h11, by have := of_decide_eq_true h11; show LF.length - (i + 1) < LF.length - i; omega⟩
        · skip
          refine cExit ?_
          refine cSeq ?_
          refine cReg rfl ?_
          refine rCall (args := []) (d := 81) (x := .v (.bool true)) rfl rfl rfl rfl (.inl rfl) rfl (dAlive6) ?_
          refine rOk (d := 82) (x := .v (.bool true)) rfl rfl rfl ?_
          refine gOk (d := 83) (x := .agg (stL ((goS (prog.take 64) S1 (k + 1)).pc) ((goS (prog.take 64) S1 (k + 1)).r) ((goS (prog.take 64) S1 (k + 1)).mem) ((goS (prog.take 64) S1 (k + 1)).halt))) (g := true) rfl rfl rfl rfl rfl rfl ?_
          refine gOk (d := 84) (x := .agg (stL T1.pc T1.r T1.mem T1.halt)) (g := true) rfl rfl rfl rfl rfl rfl ?_
          refine gOkS (d := 85) (x := .v (.bool true)) (g := true) rfl rfl rfl rfl (fun h => by simp_all) rfl (show binA C0 .eql 28 (stA (goS (prog.take 64) S1 (k + 1))) (stA T1) = _ from by rw [hTk]; exact stEq _) ?_
          refine rNeed (d := 86) (x := .v (.bool (cond2 true true false))) rfl rfl rfl (fun h => h) ?_
          refine rOk (d := 87) (x := .v (.bool (cond2 true true false))) rfl rfl rfl ?_
          refine gOk (d := 88) (x := .osl 0 0 ((goL (prog.take 64) L1 S1 (k + 1)).length) false) (g := cond2 true true false) rfl rfl rfl rfl rfl rfl ?_
          refine gOk (d := 89) (x := .sl 9 (LF.map rowS) false) (g := cond2 true true false) rfl rfl rfl rfl rfl rfl ?_
          refine gCallS (args := [.osl 0 0 ((goL (prog.take 64) L1 S1 (k + 1)).length) false, .sl 9 (LF.map rowS) false]) (d := 90) (x := .v (.bool true)) (g := cond2 true true false) rfl rfl rfl rfl (fun h => by simp_all) rfl rfl rfl (.inr ⟨rfl, by show 0 + (goL (prog.take 64) L1 S1 (k + 1)).length ≤ (goL (prog.take 64) L1 S1 (k + 1)).length; omega, trivial, trivial⟩) rfl (fun hg => hlikeA) ?_
          refine rNeed (d := 91) (x := .v (.bool (cond2 (cond2 true true false) true false))) rfl rfl rfl (fun h => h) ?_
          refine rOk (d := 92) (x := .v (.bool (cond2 (cond2 true true false) true false))) rfl rfl rfl ?_
          refine gOk (d := 93) (x := .ptr 36 1) (g := cond2 (cond2 true true false) true false) rfl rfl rfl rfl rfl rfl ?_
          refine gNeedS (d := 94) (x := .ptr 36 1) (g := cond2 (cond2 true true false) true false) rfl rfl rfl rfl (fun h => h) rfl rfl (fun _ => ⟨by decide, by decide⟩) ?_
          refine gOkS (d := 95) (x := .v (.int .u32 ((T1.r 0 : Nat) : Int))) (g := cond2 (cond2 true true false) true false) rfl rfl rfl rfl (fun h => h) rfl rfl ?_
          refine gOkS (d := 96) (x := .v (.bool true)) (g := cond2 (cond2 true true false) true false) rfl rfl rfl rfl (fun h => h) rfl (okB (beq_iff_eq.2 (congrArg (fun n : Nat => (n : Int)) hr0))) ?_
          refine rNeed (d := 97) (x := .v (.bool (cond2 (cond2 (cond2 true true false) true false) true false))) rfl rfl rfl (fun h => h) ?_
          refine rOk (d := 98) (x := .v (.bool (cond2 (cond2 (cond2 true true false) true false) true false))) rfl rfl rfl ?_
          refine gOk (d := 99) (x := .ptr 36 33) (g := cond2 (cond2 (cond2 true true false) true false) true false) rfl rfl rfl rfl rfl rfl ?_
          refine gOkS (d := 100) (x := .v (.string T1.mem)) (g := cond2 (cond2 (cond2 true true false) true false) true false) rfl rfl rfl rfl (fun h => h) rfl rfl ?_
          refine gOkS (d := 101) (x := .v (.int .i64 ((T1.mem.size : Nat) : Int))) (g := cond2 (cond2 (cond2 true true false) true false) true false) rfl rfl rfl rfl (fun h => h) rfl rfl ?_
          refine gOk (d := 102) (x := .sl 1 ((prog.take 64).map rowU) false) (g := cond2 (cond2 (cond2 true true false) true false) true false) rfl rfl rfl rfl rfl rfl ?_
          refine gOk (d := 103) (x := .v (.string (m.extract 0 (min m.size 300)))) (g := cond2 (cond2 (cond2 true true false) true false) true false) rfl rfl rfl rfl rfl rfl ?_
          refine gCallS (args := [.sl 1 ((prog.take 64).map rowU) false, .v (.string (m.extract 0 (min m.size 300)))]) (d := 104) (x := .agg (stL Z.pc Z.r Z.mem Z.halt)) (g := cond2 (cond2 (cond2 true true false) true false) true false) rfl rfl rfl rfl (fun h => by simp_all) rfl rfl rfl (.inl rfl) rfl (fun hg => hz3) ?_
          refine gOkS (d := 105) (x := .v (.string Z.mem)) (g := cond2 (cond2 (cond2 true true false) true false) true false) rfl rfl rfl rfl (fun h => h) rfl rfl ?_
          refine gOkS (d := 106) (x := .v (.int .i64 ((Z.mem.size : Nat) : Int))) (g := cond2 (cond2 (cond2 true true false) true false) true false) rfl rfl rfl rfl (fun h => h) rfl rfl ?_
          refine gOkS (d := 107) (x := .v (.bool true)) (g := cond2 (cond2 (cond2 true true false) true false) true false) rfl rfl rfl rfl (fun h => by simp_all) rfl (okB (beq_iff_eq.2 (congrArg (fun n : Nat => (n : Int)) hms))) ?_
          refine rNeed (d := 108) (x := .v (.bool (cond2 (cond2 (cond2 (cond2 true true false) true false) true false) true false))) rfl rfl rfl (fun h => h) ?_
          refine rOk (d := 8) (x := .v (.bool (cond2 (cond2 (cond2 (cond2 true true false) true false) true false) true false))) rfl rfl rfl ?_
          refine rEnd (n' := 75) rfl ?_
          refine cRet ?_
          exact retA_eq rfl trivial rfl rfl
  · skip
    refine nSeq ?_
    refine cReg rfl ?_
    refine rOk (d := 8) (x := .v (.bool false)) rfl rfl rfl ?_
    refine rEnd (n' := 1) rfl ?_
    refine nSeq ?_
    refine cReg rfl ?_
    refine rOk (d := 18) (x := .sl 1 (prog.map rowU) false) rfl rfl rfl ?_
    refine rOk (d := 19) (x := .v (.string m)) rfl rfl rfl ?_
    refine rCall (args := [.sl 1 (prog.map rowU) false, .v (.string m)]) (d := 20) (x := .tup [.sl 1 ((prog.take 64).map rowU) false, .v (.string (m.extract 0 (min m.size 300)))]) rfl rfl rfl rfl (.inl rfl) rfl (dShort prog m false hl hm) ?_
    refine rOk (d := 17) (x := .tup [.sl 1 ((prog.take 64).map rowU) false, .v (.string (m.extract 0 (min m.size 300)))]) rfl rfl rfl ?_
    refine rOk (d := 21) (x := .sl 1 ((prog.take 64).map rowU) false) rfl rfl rfl ?_
    refine rOk (d := 22) (x := .v (.string (m.extract 0 (min m.size 300)))) rfl rfl rfl ?_
    refine rOk (d := 0) (x := .sl 1 ((prog.take 64).map rowU) false) rfl rfl rfl ?_
    refine rOk (d := 1) (x := .v (.string (m.extract 0 (min m.size 300)))) rfl rfl rfl ?_
    refine rEnd (n' := 9) rfl ?_
    refine nSeq ?_
    refine cReg rfl ?_
    refine rOk (d := 23) (x := .v (.int .i64 n)) rfl rfl rfl ?_
    refine rOk (d := 24) (x := .v (.int .i64 (if (0 : Int) > n then 0 else n))) rfl rfl rfl ?_
    refine rOk (d := 25) (x := .v (.int .i64 ((N : Nat) : Int))) rfl rfl (congrArg (fun z : Int => Res.ok (.v (.int .i64 z))) hN) ?_
    refine rOk (d := 26) (x := .v (.int .i64 j)) rfl rfl rfl ?_
    refine rOk (d := 27) (x := .v (.int .i64 (if (0 : Int) > j then 0 else j))) rfl rfl rfl ?_
    refine rOk (d := 28) (x := .v (.int .i64 ((J : Nat) : Int))) rfl rfl (congrArg (fun z : Int => Res.ok (.v (.int .i64 z))) hJ) ?_
    refine rOk (d := 2) (x := .v (.int .i64 ((N : Nat) : Int))) rfl rfl rfl ?_
    refine rOk (d := 3) (x := .v (.int .i64 ((J : Nat) : Int))) rfl rfl rfl ?_
    refine rEnd (n' := 17) rfl ?_
    refine nOwn (m := 3) rfl ?_
    refine rOk (d := 30) (x := .sl 1 ((prog.take 64).map rowU) false) rfl rfl rfl ?_
    refine rOk (d := 31) (x := .v (.string (m.extract 0 (min m.size 300)))) rfl rfl rfl ?_
    refine rOk (d := 32) (x := .v (.int .i64 ((N : Nat) : Int))) rfl rfl rfl ?_
    refine rOwn (n1 := 20) (args := [.sl 1 ((prog.take 64).map rowU) false, .v (.string (m.extract 0 (min m.size 300))), .v (.int .i64 ((N : Nat) : Int))]) (c := .agg (stL S1.pc S1.r S1.mem S1.halt)) (rs := 9) (rows := (L1.map rowS)) rfl rfl rfl rfl rfl rfl rfl (hrA hne) _ rfl ?_
    refine rOk (d := 29) (x := .tup [.agg (stL S1.pc S1.r S1.mem S1.halt), .osl 20 0 (((L1.map rowS)).length) false]) rfl rfl rfl ?_
    refine rOk (d := 34) (x := .agg (stL S1.pc S1.r S1.mem S1.halt)) rfl rfl rfl ?_
    refine rOk (d := 35) (x := .osl 20 0 (((L1.map rowS)).length) false) rfl rfl rfl ?_
    refine rFx (d := 9) (x := .ptr 24 0) (h' := upd _ 24 (some (.box (stL 0 (fun _ => 0) (⟨#[]⟩) 0)))) rfl rfl (rfl) (trivial) ?_
    refine rFx0 (h' := upd _ 24 (some (.box (stL S1.pc S1.r S1.mem S1.halt)))) rfl rfl (rfl) (trivial) ?_
    refine rOk (d := 10) (x := .osl 20 0 (((L1.map rowS)).length) false) rfl rfl rfl ?_
    refine rEnd (n' := 27) rfl ?_
    refine cSeq ?_
    refine cReg rfl ?_
    refine rOk (d := 37) (x := .sl 1 ((prog.take 64).map rowU) false) rfl rfl rfl ?_
    refine rOk (d := 38) (x := .v (.string (m.extract 0 (min m.size 300)))) rfl rfl rfl ?_
    refine rOk (d := 39) (x := .v (.int .i64 ((N : Nat) : Int))) rfl rfl rfl ?_
    refine rOk (d := 40) (x := .v (.int .i64 ((J : Nat) : Int))) rfl rfl rfl ?_
    have b1 : N + J ≤ 300 := Nat.add_le_add hN2 hJ2
    refine rOk (d := 41) (x := .v (.int .i64 ((N + J : Nat) : Int))) rfl rfl (okI (wrapI64 b1 rfl)) ?_
    refine rCall (args := [.sl 1 ((prog.take 64).map rowU) false, .v (.string (m.extract 0 (min m.size 300))), .v (.int .i64 ((N + J : Nat) : Int))]) (d := 42) (x := .tup [.agg (stL T1.pc T1.r T1.mem T1.halt), .sl 9 (LF.map rowS) false]) rfl rfl rfl rfl (.inl rfl) rfl (hrF) ?_
    refine rOk (d := 36) (x := .tup [.agg (stL T1.pc T1.r T1.mem T1.halt), .sl 9 (LF.map rowS) false]) rfl rfl rfl ?_
    refine rOk (d := 43) (x := .agg (stL T1.pc T1.r T1.mem T1.halt)) rfl rfl rfl ?_
    refine rOk (d := 44) (x := .sl 9 (LF.map rowS) false) rfl rfl rfl ?_
    refine rFx (d := 11) (x := .ptr 36 0) (h' := upd _ 36 (some (.box (stL 0 (fun _ => 0) (⟨#[]⟩) 0)))) rfl rfl (rfl) (trivial) ?_
    refine rFx0 (h' := upd _ 36 (some (.box (stL T1.pc T1.r T1.mem T1.halt)))) rfl rfl (rfl) (trivial) ?_
    refine rOk (d := 12) (x := .sl 9 (LF.map rowS) false) rfl rfl rfl ?_
    refine rEnd (n' := 39) rfl ?_
    refine cSeq ?_
    refine cSeq ?_
    refine cReg rfl ?_
    refine rOk (d := 45) (x := .v (.int .i64 ((J : Nat) : Int))) rfl rfl rfl ?_
    refine rOk (d := 46) (x := .v (.int .i64 0)) rfl rfl rfl ?_
    refine rEnd (n' := 41) rfl ?_
    refine cBlock ?_
    refine cLoop (κ := Nat) (fun k => ⟨slotsF [(0, .sl 1 ((prog.take 64).map rowU) false), (1, .v (.string (m.extract 0 (min m.size 300)))), (3, .v (.int .i64 ((J : Nat) : Int))), (8, .v (.bool false)), (9, .ptr 24 0), (11, .ptr 36 0), (12, .sl 9 (LF.map rowS) false), (45, .v (.int .i64 ((J : Nat) : Int))), (10, .osl 20 0 ((goL (prog.take 64) L1 S1 k).length) false), (46, .v (.int .i64 ((k : Nat) : Int)))], heapF [(24, .box (stL ((goS (prog.take 64) S1 k).pc) ((goS (prog.take 64) S1 k).r) ((goS (prog.take 64) S1 k).mem) ((goS (prog.take 64) S1 k).halt))), (36, .box (stL T1.pc T1.r T1.mem T1.halt)), (20, .arr (goL (prog.take 64) L1 S1 k) 9)], 41⟩) (fun k => k ≤ J) (fun k => J - k) 0 (fun s => s) (Weak.of_lists (fun s => s) ⟨⟨rfl, rfl⟩, ⟨rfl, rfl⟩, ⟨rfl, rfl⟩, ⟨rfl, rfl⟩, ⟨rfl, rfl⟩, ⟨rfl, rfl⟩, ⟨rfl, rfl⟩, ⟨rfl, rfl⟩, ⟨congrArg (fun z => AV.osl 20 0 (List.length z) false) (goL_zero (prog.take 64) L1 S1).symm, rfl⟩, ⟨rfl, rfl⟩, trivial⟩ ⟨⟨rfl, rfl, rfl⟩, ⟨rfl, rfl, rfl⟩, ⟨rfl, congrArg (fun z => some (Blk.arr z 9)) (goL_zero (prog.take 64) L1 S1).symm, rfl⟩, trivial⟩ rfl) (Nat.zero_le _) ?_
    intro k hk
    refine cSeq ?_
    refine cReg rfl ?_
    refine rOk (d := 47) (x := .v (.bool (decide (k < J)))) rfl rfl (okB (ltN _ _)) ?_
    refine rEnd (n' := 42) rfl ?_
    refine cSeq ?_
    refine cCond (v := decide (k < J)) rfl (fun h1 => ?_) (fun h1 => ?_)
    · skip
      refine cSkip ?_
      refine cSeq ?_
      refine cBlock ?_
      refine cSeq ?_
      refine cSeq ?_
      refine cReg rfl ?_
      refine rOk (d := 48) (x := .ptr 24 34) rfl rfl rfl ?_
      refine rOk (d := 49) (x := .v (.int .i64 ((goS (prog.take 64) S1 k).halt))) rfl rfl rfl ?_
      refine rOk (d := 50) (x := .v (.bool (((goS (prog.take 64) S1 k).halt) != 0))) rfl rfl rfl ?_
      refine rEnd (n' := 45) rfl ?_
      refine cCond (v := ((goS (prog.take 64) S1 k).halt) != 0) rfl (fun h2 => ?_) (fun h2 => ?_)
      · skip
        refine cExit ?_
        refine cSeq ?_
        refine cSeq ?_
        refine cReg rfl ?_
        have hex : stepsL (prog.take 64) J S1 = stepsL (prog.take 64) k S1 := stepsL_stop (show (goS (prog.take 64) S1 k).halt ≠ 0 by simpa using h2) hk
        have hfin : LF = L1 ++ stepsL (prog.take 64) k S1 := by rw [hadd, hex]
        have hTk : T1 = (goS (prog.take 64) S1 k) := by rw [← hT1, hfin, lastOf_app, hS1]; rfl
        have hgl : (goL (prog.take 64) L1 S1 k) = (LF.map (·.2)).map spL := by unfold goL; rw [← hfin, List.map_map]; rfl
        have hlikeA : DCall C0 14 [.sl 9 (List.take (goL (prog.take 64) L1 S1 k).length (List.drop 0 (goL (prog.take 64) L1 S1 k))) false, .sl 9 (LF.map rowS) false] (.v (.bool true)) := by rw [goL_app, hgl, show LF.map rowS = (LF.map (·.2)).map spL by rw [List.map_map]; rfl]; exact dLike6 _ false false (by rw [List.length_map]; omega)
        refine rOk (d := 63) (x := .sl 9 (LF.map rowS) false) rfl rfl rfl ?_
        refine rOk (d := 64) (x := .v (.int .i64 ((LF.length : Nat) : Int))) rfl rfl (congrArg (fun n : Nat => Res.ok (.v (.int .i64 (n : Int)))) (List.length_map ..)) ?_
        refine rOk (d := 65) (x := .v (.int .i64 0)) rfl rfl rfl ?_
        refine rEnd (n' := 48) rfl ?_
        refine cBlock ?_
        refine cLoop (κ := Nat) (fun i => ⟨slotsF [(0, .sl 1 ((prog.take 64).map rowU) false), (1, .v (.string (m.extract 0 (min m.size 300)))), (8, .v (.bool false)), (9, .ptr 24 0), (10, .osl 20 0 ((goL (prog.take 64) L1 S1 k).length) false), (11, .ptr 36 0), (12, .sl 9 (LF.map rowS) false), (63, .sl 9 (LF.map rowS) false), (64, .v (.int .i64 ((LF.length : Nat) : Int))), (65, .v (.int .i64 ((i : Nat) : Int)))], heapF [(24, .box (stL ((goS (prog.take 64) S1 k).pc) ((goS (prog.take 64) S1 k).r) ((goS (prog.take 64) S1 k).mem) ((goS (prog.take 64) S1 k).halt))), (36, .box (stL T1.pc T1.r T1.mem T1.halt)), (20, .arr (goL (prog.take 64) L1 S1 k) 9)], 48⟩) (fun i => i ≤ LF.length) (fun i => LF.length - i) 0 (fun s => s) (Weak.of_lists (fun s => s) ⟨⟨rfl, rfl⟩, ⟨rfl, rfl⟩, ⟨rfl, rfl⟩, ⟨rfl, rfl⟩, ⟨rfl, rfl⟩, ⟨rfl, rfl⟩, ⟨rfl, rfl⟩, ⟨rfl, rfl⟩, ⟨rfl, rfl⟩, ⟨rfl, rfl⟩, trivial⟩ ⟨⟨rfl, rfl, rfl⟩, ⟨rfl, rfl, rfl⟩, ⟨rfl, rfl, rfl⟩, trivial⟩ rfl) (Nat.zero_le _) ?_
        intro i hi
        refine cSeq ?_
        refine cReg rfl ?_
        refine rOk (d := 66) (x := .v (.bool (decide (i < LF.length)))) rfl rfl (okB (ltN _ _)) ?_
        refine rEnd (n' := 49) rfl ?_
        refine cSeq ?_
        refine cCond (v := decide (i < LF.length)) rfl (fun h3 => ?_) (fun h3 => ?_)
        · skip
          refine cSkip ?_
          refine cSeq ?_
          refine cBlock ?_
          refine cSeq ?_
          refine cReg rfl ?_
          refine rOk (d := 67) (x := .v (.int .i64 ((i : Nat) : Int))) rfl rfl rfl ?_
          obtain ⟨x, hx⟩ : ∃ x, LF[i]? = some x := ⟨_, List.getElem?_eq_getElem (of_decide_eq_true h3)⟩
          refine rIdx (rowS x) (d := 68) (x := .dp 9 0 (rowS x)) rfl rfl rfl (⟨Int.natCast_nonneg _, by rw [Int.toNat_natCast, List.getElem?_map, hx]; rfl⟩) rfl ?_
          refine rOk (d := 69) (x := .agg (rowS x)) rfl rfl rfl ?_
          refine rFx (d := 16) (x := .ptr 52 0) (h' := upd _ 52 (some (.box [.v (.int .u32 0), .v (.int .u32 0), .v (.int .i64 0), .v (.int .u32 0), .v (.int .u32 0), .v (.int .i64 0), .v (.bool false), .v (.int .i64 0), .v (.int .i64 0)]))) rfl rfl (rfl) (trivial) ?_
          refine rOk (d := 15) (x := .v (.int .i64 ((i : Nat) : Int))) rfl rfl rfl ?_
          refine rFx0 (h' := upd _ 52 (some (.box [.v (.int .u32 ((x.2.pc : Nat) : Int)), .v (.int .u32 ((x.2.next : Nat) : Int)), .v (.int .i64 x.2.rd), .v (.int .u32 ((x.2.value : Nat) : Int)), .v (.int .u32 ((x.2.addr : Nat) : Int)), .v (.int .i64 x.2.size), .v (.bool x.2.store), .v (.int .i64 x.2.halt), .v (.int .i64 x.2.took)]))) rfl rfl (rfl) (trivial) ?_
          refine rEnd (n' := 55) rfl ?_
          refine cSeq ?_
          refine cReg rfl ?_
          refine rOk (d := 70) (x := .ptr 52 7) rfl rfl rfl ?_
          refine rOk (d := 71) (x := .v (.int .i64 x.2.halt)) rfl rfl rfl ?_
          refine rOk (d := 72) (x := .v (.bool (x.2.halt != 0))) rfl rfl rfl ?_
          refine rOk (d := 73) (x := .v (.bool (x.2.halt != 0))) rfl rfl rfl ?_
          refine gOk (d := 74) (x := .v (.int .i64 ((i : Nat) : Int))) (g := x.2.halt != 0) rfl rfl rfl rfl rfl rfl ?_
          refine gOk (d := 75) (x := .sl 9 (LF.map rowS) false) (g := x.2.halt != 0) rfl rfl rfl rfl rfl rfl ?_
          refine gOkS (d := 76) (x := .v (.int .i64 ((LF.length : Nat) : Int))) (g := x.2.halt != 0) rfl rfl rfl rfl (fun h => h) rfl (congrArg (fun n : Nat => Res.ok (.v (.int .i64 (n : Int)))) (List.length_map ..)) ?_
          refine gOkS (d := 77) (x := .v (.int .i64 (((LF.length : Nat) : Int) - 1))) (g := x.2.halt != 0) rfl rfl rfl rfl (fun h => h) rfl (okI (wrap_i64 (by omega) (by omega))) ?_
          refine gOkS (d := 78) (x := .v (.bool (((i : Nat) : Int) != (((LF.length : Nat) : Int) - 1)))) (g := x.2.halt != 0) rfl rfl rfl rfl (fun h => by simp_all) rfl rfl ?_
          refine rNeed (d := 79) (x := .v (.bool (cond2 (x.2.halt != 0) (((i : Nat) : Int) != (((LF.length : Nat) : Int) - 1)) false))) rfl rfl rfl (fun h => h) ?_
          refine rEnd (n' := 65) rfl ?_
          refine cCond (v := cond2 (x.2.halt != 0) (((i : Nat) : Int) != (((LF.length : Nat) : Int) - 1)) false) rfl (fun h4 => by have q := cond2_and h4; have e := hhl i x hx (by simpa using q.1); have q2 := q.2; simp at q2; omega) (fun _ => ?_)
          refine cSkip ?_
          refine cReg rfl ?_
          refine rOk (d := 80) (x := .v (.int .i64 (IntKind.wrap .i64 (((i : Nat) : Int) + 1)))) rfl rfl rfl ?_
          refine rOk (d := 65) (x := .v (.int .i64 (IntKind.wrap .i64 (((i : Nat) : Int) + 1)))) rfl rfl rfl ?_
          refine rEnd (n' := 67) rfl ?_
          refine ⟨i + 1, fun s => s, Weak.of_lists (fun s => s) ⟨⟨rfl, rfl⟩, ⟨rfl, rfl⟩, ⟨rfl, rfl⟩, ⟨rfl, rfl⟩, ⟨rfl, rfl⟩, ⟨rfl, rfl⟩, ⟨rfl, rfl⟩, ⟨rfl, rfl⟩, ⟨rfl, rfl⟩, ⟨slot_inc i (by have := of_decide_eq_true h3; omega), rfl⟩, trivial⟩ ⟨⟨rfl, rfl, rfl⟩, ⟨rfl, rfl, rfl⟩, ⟨rfl, rfl, rfl⟩, trivial⟩ rfl, of_decide_eq_true h3, by have := of_decide_eq_true h3; show LF.length - (i + 1) < LF.length - i; omega⟩
        · skip
          refine cExit ?_
          refine cSeq ?_
          refine cReg rfl ?_
          refine rCall (args := []) (d := 81) (x := .v (.bool true)) rfl rfl rfl rfl (.inl rfl) rfl (dAlive6) ?_
          refine rOk (d := 82) (x := .v (.bool true)) rfl rfl rfl ?_
          refine gOk (d := 83) (x := .agg (stL ((goS (prog.take 64) S1 k).pc) ((goS (prog.take 64) S1 k).r) ((goS (prog.take 64) S1 k).mem) ((goS (prog.take 64) S1 k).halt))) (g := true) rfl rfl rfl rfl rfl rfl ?_
          refine gOk (d := 84) (x := .agg (stL T1.pc T1.r T1.mem T1.halt)) (g := true) rfl rfl rfl rfl rfl rfl ?_
          refine gOkS (d := 85) (x := .v (.bool true)) (g := true) rfl rfl rfl rfl (fun h => by simp_all) rfl (show binA C0 .eql 28 (stA (goS (prog.take 64) S1 k)) (stA T1) = _ from by rw [hTk]; exact stEq _) ?_
          refine rNeed (d := 86) (x := .v (.bool (cond2 true true false))) rfl rfl rfl (fun h => h) ?_
          refine rOk (d := 87) (x := .v (.bool (cond2 true true false))) rfl rfl rfl ?_
          refine gOk (d := 88) (x := .osl 20 0 ((goL (prog.take 64) L1 S1 k).length) false) (g := cond2 true true false) rfl rfl rfl rfl rfl rfl ?_
          refine gOk (d := 89) (x := .sl 9 (LF.map rowS) false) (g := cond2 true true false) rfl rfl rfl rfl rfl rfl ?_
          refine gCallS (args := [.osl 20 0 ((goL (prog.take 64) L1 S1 k).length) false, .sl 9 (LF.map rowS) false]) (d := 90) (x := .v (.bool true)) (g := cond2 true true false) rfl rfl rfl rfl (fun h => by simp_all) rfl rfl rfl (.inr ⟨rfl, by show 0 + (goL (prog.take 64) L1 S1 k).length ≤ (goL (prog.take 64) L1 S1 k).length; omega, trivial, trivial⟩) rfl (fun hg => hlikeA) ?_
          refine rNeed (d := 91) (x := .v (.bool (cond2 (cond2 true true false) true false))) rfl rfl rfl (fun h => h) ?_
          refine rOk (d := 92) (x := .v (.bool (cond2 (cond2 true true false) true false))) rfl rfl rfl ?_
          refine gOk (d := 93) (x := .ptr 36 1) (g := cond2 (cond2 true true false) true false) rfl rfl rfl rfl rfl rfl ?_
          refine gNeedS (d := 94) (x := .ptr 36 1) (g := cond2 (cond2 true true false) true false) rfl rfl rfl rfl (fun h => h) rfl rfl (fun _ => ⟨by decide, by decide⟩) ?_
          refine gOkS (d := 95) (x := .v (.int .u32 ((T1.r 0 : Nat) : Int))) (g := cond2 (cond2 true true false) true false) rfl rfl rfl rfl (fun h => h) rfl rfl ?_
          refine gOkS (d := 96) (x := .v (.bool true)) (g := cond2 (cond2 true true false) true false) rfl rfl rfl rfl (fun h => h) rfl (okB (beq_iff_eq.2 (congrArg (fun n : Nat => (n : Int)) hr0))) ?_
          refine rNeed (d := 97) (x := .v (.bool (cond2 (cond2 (cond2 true true false) true false) true false))) rfl rfl rfl (fun h => h) ?_
          refine rOk (d := 98) (x := .v (.bool (cond2 (cond2 (cond2 true true false) true false) true false))) rfl rfl rfl ?_
          refine gOk (d := 99) (x := .ptr 36 33) (g := cond2 (cond2 (cond2 true true false) true false) true false) rfl rfl rfl rfl rfl rfl ?_
          refine gOkS (d := 100) (x := .v (.string T1.mem)) (g := cond2 (cond2 (cond2 true true false) true false) true false) rfl rfl rfl rfl (fun h => h) rfl rfl ?_
          refine gOkS (d := 101) (x := .v (.int .i64 ((T1.mem.size : Nat) : Int))) (g := cond2 (cond2 (cond2 true true false) true false) true false) rfl rfl rfl rfl (fun h => h) rfl rfl ?_
          refine gOk (d := 102) (x := .sl 1 ((prog.take 64).map rowU) false) (g := cond2 (cond2 (cond2 true true false) true false) true false) rfl rfl rfl rfl rfl rfl ?_
          refine gOk (d := 103) (x := .v (.string (m.extract 0 (min m.size 300)))) (g := cond2 (cond2 (cond2 true true false) true false) true false) rfl rfl rfl rfl rfl rfl ?_
          refine gCallS (args := [.sl 1 ((prog.take 64).map rowU) false, .v (.string (m.extract 0 (min m.size 300)))]) (d := 104) (x := .agg (stL Z.pc Z.r Z.mem Z.halt)) (g := cond2 (cond2 (cond2 true true false) true false) true false) rfl rfl rfl rfl (fun h => by simp_all) rfl rfl rfl (.inl rfl) rfl (fun hg => hz3) ?_
          refine gOkS (d := 105) (x := .v (.string Z.mem)) (g := cond2 (cond2 (cond2 true true false) true false) true false) rfl rfl rfl rfl (fun h => h) rfl rfl ?_
          refine gOkS (d := 106) (x := .v (.int .i64 ((Z.mem.size : Nat) : Int))) (g := cond2 (cond2 (cond2 true true false) true false) true false) rfl rfl rfl rfl (fun h => h) rfl rfl ?_
          refine gOkS (d := 107) (x := .v (.bool true)) (g := cond2 (cond2 (cond2 true true false) true false) true false) rfl rfl rfl rfl (fun h => by simp_all) rfl (okB (beq_iff_eq.2 (congrArg (fun n : Nat => (n : Int)) hms))) ?_
          refine rNeed (d := 108) (x := .v (.bool (cond2 (cond2 (cond2 (cond2 true true false) true false) true false) true false))) rfl rfl rfl (fun h => h) ?_
          refine rOk (d := 8) (x := .v (.bool (cond2 (cond2 (cond2 (cond2 true true false) true false) true false) true false))) rfl rfl rfl ?_
          refine rEnd (n' := 78) rfl ?_
          refine cRet ?_
          exact retA_eq rfl trivial rfl rfl
      · skip
        refine cSkip ?_
        refine cSeq ?_
        refine cReg rfl ?_
        refine rOk (d := 52) (x := .sl 1 ((prog.take 64).map rowU) false) rfl rfl rfl ?_
        have hh : (goS (prog.take 64) S1 k).halt = 0 := by simpa using h2
        refine rOk (d := 53) (x := .agg (stL ((goS (prog.take 64) S1 k).pc) ((goS (prog.take 64) S1 k).r) ((goS (prog.take 64) S1 k).mem) ((goS (prog.take 64) S1 k).halt))) rfl rfl rfl ?_
        refine rCall (args := [.sl 1 ((prog.take 64).map rowU) false, .agg (stL ((goS (prog.take 64) S1 k).pc) ((goS (prog.take 64) S1 k).r) ((goS (prog.take 64) S1 k).mem) ((goS (prog.take 64) S1 k).halt))]) (d := 54) (x := .tup [.agg (stL ((stepP (prog.take 64) (goS (prog.take 64) S1 k)).1).pc ((stepP (prog.take 64) (goS (prog.take 64) S1 k)).1).r ((stepP (prog.take 64) (goS (prog.take 64) S1 k)).1).mem ((stepP (prog.take 64) (goS (prog.take 64) S1 k)).1).halt), .agg (spL ((stepP (prog.take 64) (goS (prog.take 64) S1 k)).2))]) rfl rfl rfl rfl (.inl rfl) rfl (dStep (prog.take 64) (goS (prog.take 64) S1 k) false hP hPl (goS_ok k hok1)) ?_
        refine rOk (d := 51) (x := .tup [.agg (stL ((stepP (prog.take 64) (goS (prog.take 64) S1 k)).1).pc ((stepP (prog.take 64) (goS (prog.take 64) S1 k)).1).r ((stepP (prog.take 64) (goS (prog.take 64) S1 k)).1).mem ((stepP (prog.take 64) (goS (prog.take 64) S1 k)).1).halt), .agg (spL ((stepP (prog.take 64) (goS (prog.take 64) S1 k)).2))]) rfl rfl rfl ?_
        refine rOk (d := 55) (x := .agg (stL ((stepP (prog.take 64) (goS (prog.take 64) S1 k)).1).pc ((stepP (prog.take 64) (goS (prog.take 64) S1 k)).1).r ((stepP (prog.take 64) (goS (prog.take 64) S1 k)).1).mem ((stepP (prog.take 64) (goS (prog.take 64) S1 k)).1).halt)) rfl rfl rfl ?_
        refine rOk (d := 56) (x := .agg (spL ((stepP (prog.take 64) (goS (prog.take 64) S1 k)).2))) rfl rfl rfl ?_
        refine rFx (d := 13) (x := .ptr 51 0) (h' := upd _ 51 (some (.box (stL 0 (fun _ => 0) (⟨#[]⟩) 0)))) rfl rfl (rfl) (trivial) ?_
        refine rFx (d := 14) (x := .ptr 52 0) (h' := upd _ 52 (some (.box [.v (.int .u32 0), .v (.int .u32 0), .v (.int .i64 0), .v (.int .u32 0), .v (.int .u32 0), .v (.int .i64 0), .v (.bool false), .v (.int .i64 0), .v (.int .i64 0)]))) rfl rfl (rfl) (trivial) ?_
        refine rFx0 (h' := upd _ 51 (some (.box (stL (((stepP (prog.take 64) (goS (prog.take 64) S1 k)).1).pc) (((stepP (prog.take 64) (goS (prog.take 64) S1 k)).1).r) (((stepP (prog.take 64) (goS (prog.take 64) S1 k)).1).mem) (((stepP (prog.take 64) (goS (prog.take 64) S1 k)).1).halt))))) rfl rfl (rfl) (trivial) ?_
        refine rFx0 (h' := upd _ 52 (some (.box [.v (.int .u32 ((((stepP (prog.take 64) (goS (prog.take 64) S1 k)).2).pc : Nat) : Int)), .v (.int .u32 ((((stepP (prog.take 64) (goS (prog.take 64) S1 k)).2).next : Nat) : Int)), .v (.int .i64 (((stepP (prog.take 64) (goS (prog.take 64) S1 k)).2).rd)), .v (.int .u32 ((((stepP (prog.take 64) (goS (prog.take 64) S1 k)).2).value : Nat) : Int)), .v (.int .u32 ((((stepP (prog.take 64) (goS (prog.take 64) S1 k)).2).addr : Nat) : Int)), .v (.int .i64 (((stepP (prog.take 64) (goS (prog.take 64) S1 k)).2).size)), .v (.bool (((stepP (prog.take 64) (goS (prog.take 64) S1 k)).2).store)), .v (.int .i64 (((stepP (prog.take 64) (goS (prog.take 64) S1 k)).2).halt)), .v (.int .i64 (((stepP (prog.take 64) (goS (prog.take 64) S1 k)).2).took))]))) rfl rfl (rfl) (trivial) ?_
        refine rEnd (n' := 55) rfl ?_
        refine cSeq ?_
        refine cReg rfl ?_
        refine rOk (d := 57) (x := .agg (stL (((stepP (prog.take 64) (goS (prog.take 64) S1 k)).1).pc) (((stepP (prog.take 64) (goS (prog.take 64) S1 k)).1).r) (((stepP (prog.take 64) (goS (prog.take 64) S1 k)).1).mem) (((stepP (prog.take 64) (goS (prog.take 64) S1 k)).1).halt))) rfl rfl rfl ?_
        refine rFx0 (h' := upd _ 24 (some (.box (stL (((stepP (prog.take 64) (goS (prog.take 64) S1 k)).1).pc) (((stepP (prog.take 64) (goS (prog.take 64) S1 k)).1).r) (((stepP (prog.take 64) (goS (prog.take 64) S1 k)).1).mem) (((stepP (prog.take 64) (goS (prog.take 64) S1 k)).1).halt))))) rfl rfl (rfl) (trivial) ?_
        refine rEnd (n' := 57) rfl ?_
        refine cReg rfl ?_
        refine rOk (d := 58) (x := .osl 20 0 ((goL (prog.take 64) L1 S1 k).length) false) rfl rfl rfl ?_
        refine rOk (d := 59) (x := .agg [.v (.int .u32 ((((stepP (prog.take 64) (goS (prog.take 64) S1 k)).2).pc : Nat) : Int)), .v (.int .u32 ((((stepP (prog.take 64) (goS (prog.take 64) S1 k)).2).next : Nat) : Int)), .v (.int .i64 (((stepP (prog.take 64) (goS (prog.take 64) S1 k)).2).rd)), .v (.int .u32 ((((stepP (prog.take 64) (goS (prog.take 64) S1 k)).2).value : Nat) : Int)), .v (.int .u32 ((((stepP (prog.take 64) (goS (prog.take 64) S1 k)).2).addr : Nat) : Int)), .v (.int .i64 (((stepP (prog.take 64) (goS (prog.take 64) S1 k)).2).size)), .v (.bool (((stepP (prog.take 64) (goS (prog.take 64) S1 k)).2).store)), .v (.int .i64 (((stepP (prog.take 64) (goS (prog.take 64) S1 k)).2).halt)), .v (.int .i64 (((stepP (prog.take 64) (goS (prog.take 64) S1 k)).2).took))]) rfl rfl rfl ?_
        refine rOk (d := 60) (x := .sl 9 ([[.v (.int .u32 ((((stepP (prog.take 64) (goS (prog.take 64) S1 k)).2).pc : Nat) : Int)), .v (.int .u32 ((((stepP (prog.take 64) (goS (prog.take 64) S1 k)).2).next : Nat) : Int)), .v (.int .i64 (((stepP (prog.take 64) (goS (prog.take 64) S1 k)).2).rd)), .v (.int .u32 ((((stepP (prog.take 64) (goS (prog.take 64) S1 k)).2).value : Nat) : Int)), .v (.int .u32 ((((stepP (prog.take 64) (goS (prog.take 64) S1 k)).2).addr : Nat) : Int)), .v (.int .i64 (((stepP (prog.take 64) (goS (prog.take 64) S1 k)).2).size)), .v (.bool (((stepP (prog.take 64) (goS (prog.take 64) S1 k)).2).store)), .v (.int .i64 (((stepP (prog.take 64) (goS (prog.take 64) S1 k)).2).halt)), .v (.int .i64 (((stepP (prog.take 64) (goS (prog.take 64) S1 k)).2).took))]]) true) rfl rfl rfl ?_
        refine rFx (d := 61) (x := .osl 60 0 ((List.take (goL (prog.take 64) L1 S1 k).length (List.drop 0 (goL (prog.take 64) L1 S1 k))).length + ([rowS (stepP (prog.take 64) (goS (prog.take 64) S1 k))] : List (List AV)).length) false) (h' := upd (upd _ 20 none) 60 (some (.arr (List.take (goL (prog.take 64) L1 S1 k).length (List.drop 0 (goL (prog.take 64) L1 S1 k)) ++ [rowS (stepP (prog.take 64) (goS (prog.take 64) S1 k))]) 9))) rfl rfl (rfl) (⟨by show (List.take (goL (prog.take 64) L1 S1 k).length (List.drop 0 (goL (prog.take 64) L1 S1 k))).length + 1 ≤ 1000000; rw [goL_app]; have := goL_len (prog.take 64) L1 S1 k; have := hk; omega, by show 0 + (goL (prog.take 64) L1 S1 k).length = (goL (prog.take 64) L1 S1 k).length; omega, trivial⟩) ?_
        refine rOk (d := 10) (x := .osl 60 0 ((List.take (goL (prog.take 64) L1 S1 k).length (List.drop 0 (goL (prog.take 64) L1 S1 k))).length + ([rowS (stepP (prog.take 64) (goS (prog.take 64) S1 k))] : List (List AV)).length) false) rfl rfl rfl ?_
        refine rEnd (n' := 62) rfl ?_
        refine cReg rfl ?_
        refine rOk (d := 62) (x := .v (.int .i64 (IntKind.wrap .i64 (((k : Nat) : Int) + 1)))) rfl rfl rfl ?_
        refine rOk (d := 46) (x := .v (.int .i64 (IntKind.wrap .i64 (((k : Nat) : Int) + 1)))) rfl rfl rfl ?_
        refine rEnd (n' := 64) rfl ?_
        refine ⟨k + 1, fun s => match s with | 20 => 60 | s => s, Weak.of_lists (fun s => match s with | 20 => 60 | s => s) ⟨⟨rfl, rfl⟩, ⟨rfl, rfl⟩, ⟨rfl, rfl⟩, ⟨rfl, rfl⟩, ⟨rfl, rfl⟩, ⟨rfl, rfl⟩, ⟨rfl, rfl⟩, ⟨rfl, rfl⟩, ⟨congrArg (fun z => AV.osl 60 0 z false) (show (List.take (goL (prog.take 64) L1 S1 k).length (List.drop 0 (goL (prog.take 64) L1 S1 k))).length + 1 = (goL (prog.take 64) L1 S1 (k + 1)).length from by rw [goL_app, goL_succ hh]; simp), rfl⟩, ⟨slot_inc k (by have := of_decide_eq_true h1; omega), rfl⟩, trivial⟩ ⟨⟨rfl, congrArg (fun s : St => some (Blk.box (stL s.pc s.r s.mem s.halt))) (goS_succ hh).symm, rfl⟩, ⟨rfl, rfl, rfl⟩, ⟨rfl, congrArg (fun z => some (Blk.arr z 9)) (show List.take (goL (prog.take 64) L1 S1 k).length (List.drop 0 (goL (prog.take 64) L1 S1 k)) ++ [rowS (stepP (prog.take 64) (goS (prog.take 64) S1 k))] = goL (prog.take 64) L1 S1 (k + 1) from by rw [goL_app, goL_succ hh]), rfl⟩, trivial⟩ rfl, of_decide_eq_true h1, by have := of_decide_eq_true h1; show J - (k + 1) < J - k; omega⟩
    · skip
      refine cExit ?_
      refine cSeq ?_
      refine cSeq ?_
      refine cReg rfl ?_
      have hex : stepsL (prog.take 64) J S1 = stepsL (prog.take 64) k S1 := by rw [show J = k from by have := of_decide_eq_false h1; omega]
      have hfin : LF = L1 ++ stepsL (prog.take 64) k S1 := by rw [hadd, hex]
      have hTk : T1 = (goS (prog.take 64) S1 k) := by rw [← hT1, hfin, lastOf_app, hS1]; rfl
      have hgl : (goL (prog.take 64) L1 S1 k) = (LF.map (·.2)).map spL := by unfold goL; rw [← hfin, List.map_map]; rfl
      have hlikeA : DCall C0 14 [.sl 9 (List.take (goL (prog.take 64) L1 S1 k).length (List.drop 0 (goL (prog.take 64) L1 S1 k))) false, .sl 9 (LF.map rowS) false] (.v (.bool true)) := by rw [goL_app, hgl, show LF.map rowS = (LF.map (·.2)).map spL by rw [List.map_map]; rfl]; exact dLike6 _ false false (by rw [List.length_map]; omega)
      refine rOk (d := 63) (x := .sl 9 (LF.map rowS) false) rfl rfl rfl ?_
      refine rOk (d := 64) (x := .v (.int .i64 ((LF.length : Nat) : Int))) rfl rfl (congrArg (fun n : Nat => Res.ok (.v (.int .i64 (n : Int)))) (List.length_map ..)) ?_
      refine rOk (d := 65) (x := .v (.int .i64 0)) rfl rfl rfl ?_
      refine rEnd (n' := 45) rfl ?_
      refine cBlock ?_
      refine cLoop (κ := Nat) (fun i => ⟨slotsF [(0, .sl 1 ((prog.take 64).map rowU) false), (1, .v (.string (m.extract 0 (min m.size 300)))), (8, .v (.bool false)), (9, .ptr 24 0), (10, .osl 20 0 ((goL (prog.take 64) L1 S1 k).length) false), (11, .ptr 36 0), (12, .sl 9 (LF.map rowS) false), (63, .sl 9 (LF.map rowS) false), (64, .v (.int .i64 ((LF.length : Nat) : Int))), (65, .v (.int .i64 ((i : Nat) : Int)))], heapF [(24, .box (stL ((goS (prog.take 64) S1 k).pc) ((goS (prog.take 64) S1 k).r) ((goS (prog.take 64) S1 k).mem) ((goS (prog.take 64) S1 k).halt))), (36, .box (stL T1.pc T1.r T1.mem T1.halt)), (20, .arr (goL (prog.take 64) L1 S1 k) 9)], 45⟩) (fun i => i ≤ LF.length) (fun i => LF.length - i) 0 (fun s => s) (Weak.of_lists (fun s => s) ⟨⟨rfl, rfl⟩, ⟨rfl, rfl⟩, ⟨rfl, rfl⟩, ⟨rfl, rfl⟩, ⟨rfl, rfl⟩, ⟨rfl, rfl⟩, ⟨rfl, rfl⟩, ⟨rfl, rfl⟩, ⟨rfl, rfl⟩, ⟨rfl, rfl⟩, trivial⟩ ⟨⟨rfl, rfl, rfl⟩, ⟨rfl, rfl, rfl⟩, ⟨rfl, rfl, rfl⟩, trivial⟩ rfl) (Nat.zero_le _) ?_
      intro i hi
      refine cSeq ?_
      refine cReg rfl ?_
      refine rOk (d := 66) (x := .v (.bool (decide (i < LF.length)))) rfl rfl (okB (ltN _ _)) ?_
      refine rEnd (n' := 46) rfl ?_
      refine cSeq ?_
      refine cCond (v := decide (i < LF.length)) rfl (fun h5 => ?_) (fun h5 => ?_)
      · skip
        refine cSkip ?_
        refine cSeq ?_
        refine cBlock ?_
        refine cSeq ?_
        refine cReg rfl ?_
        refine rOk (d := 67) (x := .v (.int .i64 ((i : Nat) : Int))) rfl rfl rfl ?_
        obtain ⟨x, hx⟩ : ∃ x, LF[i]? = some x := ⟨_, List.getElem?_eq_getElem (of_decide_eq_true h5)⟩
        refine rIdx (rowS x) (d := 68) (x := .dp 9 0 (rowS x)) rfl rfl rfl (⟨Int.natCast_nonneg _, by rw [Int.toNat_natCast, List.getElem?_map, hx]; rfl⟩) rfl ?_
        refine rOk (d := 69) (x := .agg (rowS x)) rfl rfl rfl ?_
        refine rFx (d := 16) (x := .ptr 49 0) (h' := upd _ 49 (some (.box [.v (.int .u32 0), .v (.int .u32 0), .v (.int .i64 0), .v (.int .u32 0), .v (.int .u32 0), .v (.int .i64 0), .v (.bool false), .v (.int .i64 0), .v (.int .i64 0)]))) rfl rfl (rfl) (trivial) ?_
        refine rOk (d := 15) (x := .v (.int .i64 ((i : Nat) : Int))) rfl rfl rfl ?_
        refine rFx0 (h' := upd _ 49 (some (.box [.v (.int .u32 ((x.2.pc : Nat) : Int)), .v (.int .u32 ((x.2.next : Nat) : Int)), .v (.int .i64 x.2.rd), .v (.int .u32 ((x.2.value : Nat) : Int)), .v (.int .u32 ((x.2.addr : Nat) : Int)), .v (.int .i64 x.2.size), .v (.bool x.2.store), .v (.int .i64 x.2.halt), .v (.int .i64 x.2.took)]))) rfl rfl (rfl) (trivial) ?_
        refine rEnd (n' := 52) rfl ?_
        refine cSeq ?_
        refine cReg rfl ?_
        refine rOk (d := 70) (x := .ptr 49 7) rfl rfl rfl ?_
        refine rOk (d := 71) (x := .v (.int .i64 x.2.halt)) rfl rfl rfl ?_
        refine rOk (d := 72) (x := .v (.bool (x.2.halt != 0))) rfl rfl rfl ?_
        refine rOk (d := 73) (x := .v (.bool (x.2.halt != 0))) rfl rfl rfl ?_
        refine gOk (d := 74) (x := .v (.int .i64 ((i : Nat) : Int))) (g := x.2.halt != 0) rfl rfl rfl rfl rfl rfl ?_
        refine gOk (d := 75) (x := .sl 9 (LF.map rowS) false) (g := x.2.halt != 0) rfl rfl rfl rfl rfl rfl ?_
        refine gOkS (d := 76) (x := .v (.int .i64 ((LF.length : Nat) : Int))) (g := x.2.halt != 0) rfl rfl rfl rfl (fun h => h) rfl (congrArg (fun n : Nat => Res.ok (.v (.int .i64 (n : Int)))) (List.length_map ..)) ?_
        refine gOkS (d := 77) (x := .v (.int .i64 (((LF.length : Nat) : Int) - 1))) (g := x.2.halt != 0) rfl rfl rfl rfl (fun h => h) rfl (okI (wrap_i64 (by omega) (by omega))) ?_
        refine gOkS (d := 78) (x := .v (.bool (((i : Nat) : Int) != (((LF.length : Nat) : Int) - 1)))) (g := x.2.halt != 0) rfl rfl rfl rfl (fun h => by simp_all) rfl rfl ?_
        refine rNeed (d := 79) (x := .v (.bool (cond2 (x.2.halt != 0) (((i : Nat) : Int) != (((LF.length : Nat) : Int) - 1)) false))) rfl rfl rfl (fun h => h) ?_
        refine rEnd (n' := 62) rfl ?_
        refine cCond (v := cond2 (x.2.halt != 0) (((i : Nat) : Int) != (((LF.length : Nat) : Int) - 1)) false) rfl (fun h6 => by have q := cond2_and h6; have e := hhl i x hx (by simpa using q.1); have q2 := q.2; simp at q2; omega) (fun _ => ?_)
        refine cSkip ?_
        refine cReg rfl ?_
        refine rOk (d := 80) (x := .v (.int .i64 (IntKind.wrap .i64 (((i : Nat) : Int) + 1)))) rfl rfl rfl ?_
        refine rOk (d := 65) (x := .v (.int .i64 (IntKind.wrap .i64 (((i : Nat) : Int) + 1)))) rfl rfl rfl ?_
        refine rEnd (n' := 64) rfl ?_
        refine ⟨i + 1, fun s => s, Weak.of_lists (fun s => s) ⟨⟨rfl, rfl⟩, ⟨rfl, rfl⟩, ⟨rfl, rfl⟩, ⟨rfl, rfl⟩, ⟨rfl, rfl⟩, ⟨rfl, rfl⟩, ⟨rfl, rfl⟩, ⟨rfl, rfl⟩, ⟨rfl, rfl⟩, ⟨slot_inc i (by have := of_decide_eq_true h5; omega), rfl⟩, trivial⟩ ⟨⟨rfl, rfl, rfl⟩, ⟨rfl, rfl, rfl⟩, ⟨rfl, rfl, rfl⟩, trivial⟩ rfl, of_decide_eq_true h5, by have := of_decide_eq_true h5; show LF.length - (i + 1) < LF.length - i; omega⟩
      · skip
        refine cExit ?_
        refine cSeq ?_
        refine cReg rfl ?_
        refine rCall (args := []) (d := 81) (x := .v (.bool true)) rfl rfl rfl rfl (.inl rfl) rfl (dAlive6) ?_
        refine rOk (d := 82) (x := .v (.bool true)) rfl rfl rfl ?_
        refine gOk (d := 83) (x := .agg (stL ((goS (prog.take 64) S1 k).pc) ((goS (prog.take 64) S1 k).r) ((goS (prog.take 64) S1 k).mem) ((goS (prog.take 64) S1 k).halt))) (g := true) rfl rfl rfl rfl rfl rfl ?_
        refine gOk (d := 84) (x := .agg (stL T1.pc T1.r T1.mem T1.halt)) (g := true) rfl rfl rfl rfl rfl rfl ?_
        refine gOkS (d := 85) (x := .v (.bool true)) (g := true) rfl rfl rfl rfl (fun h => by simp_all) rfl (show binA C0 .eql 28 (stA (goS (prog.take 64) S1 k)) (stA T1) = _ from by rw [hTk]; exact stEq _) ?_
        refine rNeed (d := 86) (x := .v (.bool (cond2 true true false))) rfl rfl rfl (fun h => h) ?_
        refine rOk (d := 87) (x := .v (.bool (cond2 true true false))) rfl rfl rfl ?_
        refine gOk (d := 88) (x := .osl 20 0 ((goL (prog.take 64) L1 S1 k).length) false) (g := cond2 true true false) rfl rfl rfl rfl rfl rfl ?_
        refine gOk (d := 89) (x := .sl 9 (LF.map rowS) false) (g := cond2 true true false) rfl rfl rfl rfl rfl rfl ?_
        refine gCallS (args := [.osl 20 0 ((goL (prog.take 64) L1 S1 k).length) false, .sl 9 (LF.map rowS) false]) (d := 90) (x := .v (.bool true)) (g := cond2 true true false) rfl rfl rfl rfl (fun h => by simp_all) rfl rfl rfl (.inr ⟨rfl, by show 0 + (goL (prog.take 64) L1 S1 k).length ≤ (goL (prog.take 64) L1 S1 k).length; omega, trivial, trivial⟩) rfl (fun hg => hlikeA) ?_
        refine rNeed (d := 91) (x := .v (.bool (cond2 (cond2 true true false) true false))) rfl rfl rfl (fun h => h) ?_
        refine rOk (d := 92) (x := .v (.bool (cond2 (cond2 true true false) true false))) rfl rfl rfl ?_
        refine gOk (d := 93) (x := .ptr 36 1) (g := cond2 (cond2 true true false) true false) rfl rfl rfl rfl rfl rfl ?_
        refine gNeedS (d := 94) (x := .ptr 36 1) (g := cond2 (cond2 true true false) true false) rfl rfl rfl rfl (fun h => h) rfl rfl (fun _ => ⟨by decide, by decide⟩) ?_
        refine gOkS (d := 95) (x := .v (.int .u32 ((T1.r 0 : Nat) : Int))) (g := cond2 (cond2 true true false) true false) rfl rfl rfl rfl (fun h => h) rfl rfl ?_
        refine gOkS (d := 96) (x := .v (.bool true)) (g := cond2 (cond2 true true false) true false) rfl rfl rfl rfl (fun h => h) rfl (okB (beq_iff_eq.2 (congrArg (fun n : Nat => (n : Int)) hr0))) ?_
        refine rNeed (d := 97) (x := .v (.bool (cond2 (cond2 (cond2 true true false) true false) true false))) rfl rfl rfl (fun h => h) ?_
        refine rOk (d := 98) (x := .v (.bool (cond2 (cond2 (cond2 true true false) true false) true false))) rfl rfl rfl ?_
        refine gOk (d := 99) (x := .ptr 36 33) (g := cond2 (cond2 (cond2 true true false) true false) true false) rfl rfl rfl rfl rfl rfl ?_
        refine gOkS (d := 100) (x := .v (.string T1.mem)) (g := cond2 (cond2 (cond2 true true false) true false) true false) rfl rfl rfl rfl (fun h => h) rfl rfl ?_
        refine gOkS (d := 101) (x := .v (.int .i64 ((T1.mem.size : Nat) : Int))) (g := cond2 (cond2 (cond2 true true false) true false) true false) rfl rfl rfl rfl (fun h => h) rfl rfl ?_
        refine gOk (d := 102) (x := .sl 1 ((prog.take 64).map rowU) false) (g := cond2 (cond2 (cond2 true true false) true false) true false) rfl rfl rfl rfl rfl rfl ?_
        refine gOk (d := 103) (x := .v (.string (m.extract 0 (min m.size 300)))) (g := cond2 (cond2 (cond2 true true false) true false) true false) rfl rfl rfl rfl rfl rfl ?_
        refine gCallS (args := [.sl 1 ((prog.take 64).map rowU) false, .v (.string (m.extract 0 (min m.size 300)))]) (d := 104) (x := .agg (stL Z.pc Z.r Z.mem Z.halt)) (g := cond2 (cond2 (cond2 true true false) true false) true false) rfl rfl rfl rfl (fun h => by simp_all) rfl rfl rfl (.inl rfl) rfl (fun hg => hz3) ?_
        refine gOkS (d := 105) (x := .v (.string Z.mem)) (g := cond2 (cond2 (cond2 true true false) true false) true false) rfl rfl rfl rfl (fun h => h) rfl rfl ?_
        refine gOkS (d := 106) (x := .v (.int .i64 ((Z.mem.size : Nat) : Int))) (g := cond2 (cond2 (cond2 true true false) true false) true false) rfl rfl rfl rfl (fun h => h) rfl rfl ?_
        refine gOkS (d := 107) (x := .v (.bool true)) (g := cond2 (cond2 (cond2 true true false) true false) true false) rfl rfl rfl rfl (fun h => by simp_all) rfl (okB (beq_iff_eq.2 (congrArg (fun n : Nat => (n : Int)) hms))) ?_
        refine rNeed (d := 108) (x := .v (.bool (cond2 (cond2 (cond2 (cond2 true true false) true false) true false) true false))) rfl rfl rfl (fun h => h) ?_
        refine rOk (d := 8) (x := .v (.bool (cond2 (cond2 (cond2 (cond2 true true false) true false) true false) true false))) rfl rfl rfl ?_
        refine rEnd (n' := 75) rfl ?_
        refine cRet ?_
        exact retA_eq rfl trivial rfl rfl
end Go.Proofs.YtahnhhbgkmlfcaaDoor
