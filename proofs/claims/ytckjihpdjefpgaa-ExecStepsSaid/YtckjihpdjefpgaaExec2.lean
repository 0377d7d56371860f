
/- The contracts of exec.Address, exec.Take and exec.Store (printed by wip/bin/execgen2.py). -/
import Derived.Test.YtckjihpdjefpgaaExec
import Derived.Test.YtckjihpdjefpgaaMem
import Derived.Deep.RegionHeld3
namespace Go.Proofs.Ytckjihpdjefpgaa
open Go.RowKit

theorem below_drew (w : World) : Below w.heap.size w w.drew := below_draws w 1
def takeP (e : En) (v : Nat) : En := if kindOf e.op ≠ 3 ∨ e.known = false ∨ (e.is ≠ 0 ∧ e.is ≠ 2) then e else { e with is := 1, left := 1, value := if wrP e.op e.rd = 0 then 0 else (v : Int) }
def storeP (e : En) (v : Nat) : En := if kindOf e.op ≠ 4 ∨ e.known = false ∨ e.is ≠ 0 then e else { e with is := 3, value := (v : Int) }
def addrP (e : En) (size : Int) (a : Nat) : En :=
  if (kindOf e.op ≠ 3 ∧ kindOf e.op ≠ 4) ∨ e.is ≠ 0 ∨ e.known = true then e
  else if rightP size ((a + e.imm) % 4294967296) (sizeOf' e.op) = true then { e with addr := ((a + e.imm) % 4294967296 : Nat), known := true }
  else { e with addr := ((a + e.imm) % 4294967296 : Nat), halt := if kindOf e.op = 4 then 5 else 4, is := 3 }

set_option maxRecDepth 100000 in
set_option maxHeartbeats 16000000 in
theorem store_early (e0 : En) (b : Nat) (w : World) (q0 : kindOf e0.op ≠ 4 ∨ e0.known = false ∨ e0.is ≠ 0) :
    Calls Try.prog 15 #[.agg #[.int .i64 e0.no, .int .u32 e0.pc, .int .i64 e0.op, .int .i64 e0.rd, .int .i64 e0.rs1, .int .i64 e0.rs2, .int .u32 e0.imm, .int .u32 e0.guess, .int .i64 e0.is, .int .i64 e0.left, .int .u32 e0.value, .int .u32 e0.next, .int .u32 e0.addr, .int .i64 e0.halt, .int .i64 e0.took, .bool e0.known, .bool e0.filled], .int .u32 b] w fun e w' => e = .returned (.agg #[.int .i64 e0.no, .int .u32 e0.pc, .int .i64 e0.op, .int .i64 e0.rd, .int .i64 e0.rs1, .int .i64 e0.rs2, .int .u32 e0.imm, .int .u32 e0.guess, .int .i64 e0.is, .int .i64 e0.left, .int .u32 e0.value, .int .u32 e0.next, .int .u32 e0.addr, .int .i64 e0.halt, .int .i64 e0.took, .bool e0.known, .bool e0.filled]) ∧ Below w.heap.size w w' := by
  have ck := fun w => kind_any e0.op e0.rd e0.rs1 e0.rs2 e0.imm w
  obtain ⟨k, hk⟩ : ∃ k, k = kindOf e0.op := ⟨_, rfl⟩
  rw [← hk] at ck q0
  clear hk
  have hc : (((k : Int) != 4) = true) ∨ (k = 4 ∧ e0.known = false) ∨ (k = 4 ∧ e0.known = true ∧ (e0.is != 0) = true) := by
    by_cases h4 : k = 4
    · rcases Bool.eq_false_or_eq_true e0.known with h | h
      · refine .inr (.inr ⟨h4, h, ?_⟩)
        rcases q0 with q | q | q
        · exact absurd h4 q
        · rw [h] at q; cases q
        · simpa using q
      · exact .inr (.inl ⟨h4, h⟩)
    · exact .inl (by simp; omega)
  clear q0
  rcases hc with q1 | ⟨rfl, hkn⟩ | ⟨rfl, hkn, q3⟩
  · go_enter Try.func15, Try.ntmps15
    go_wp2_with fail
    have S0 := EnSt.start w e0
    refine (ck _).mono ?_; rintro e w1 ⟨rfl, b1⟩
    have S1 := S0.kept b1
    clear S0 b1
    go_upto_region 2 with (fail)
    refine wp_region_lit ?_
    refine wpList_load_mid rfl 26 (.tmp 2) rfl w.heap.size 0 rfl (En.cells e0) _ (En.range S1.m) Try.underlying26 rfl (by kernel_rfl) ?_
    refine wpList_store_mid rfl 26 (.tmp 4) (.tmp 19) rfl (w.heap.size + 1) 0 (En.cells e0).toArray rfl rfl (En.there S1.z rfl) (by kernel_rfl) (en_one _) ?_
    have hL := run_loadVar_mid (P := Try.prog) (w1.setCells (w.heap.size + 1) 0 (En.cells e0)) (w.heap.size + 1) 0 26 (En.cells e0) _ (World.rangeAt_setCells_same w1 (w.heap.size + 1) 0 (En.cells e0) (En.there S1.z rfl)) Try.underlying26 rfl (by kernel_rfl)
    have hbz := setCells_below (w.heap.size + 1) (En.cells e0) 0 w1 S1.b (Nat.le_succ _)
    clear S1
    simp only [Act.put, List.setIfInBounds_toArray, List.set_cons_zero, List.set_cons_succ]
    go_wp2_with fail
    refine bodyPost_ret (v := .agg (En.cells e0).toArray) (by simp [results, Try.results15, asAddr, hL]; done) rfl ?_
    exact ⟨rfl, hbz⟩
  · have HKN := Lib.hid hkn
    clear hkn
    go_enter Try.func15, Try.ntmps15
    go_wp2_with fail
    have S0 := EnSt.start w e0
    refine (ck _).mono ?_; rintro e w1 ⟨rfl, b1⟩
    have S1 := S0.kept b1
    clear S0 b1
    have c15 : w1.cell? ⟨w.heap.size, 15, none⟩ = some (.bool false) := (S1.m.c 15 _ rfl).trans (by rw [HKN.out])
    go_upto_region 2 with (fail)
    refine wp_region_lit ?_
    refine wpList_load_mid rfl 26 (.tmp 2) rfl w.heap.size 0 rfl (En.cells e0) _ (En.range S1.m) Try.underlying26 rfl (by kernel_rfl) ?_
    refine wpList_store_mid rfl 26 (.tmp 4) (.tmp 19) rfl (w.heap.size + 1) 0 (En.cells e0).toArray rfl rfl (En.there S1.z rfl) (by kernel_rfl) (en_one _) ?_
    have hL := run_loadVar_mid (P := Try.prog) (w1.setCells (w.heap.size + 1) 0 (En.cells e0)) (w.heap.size + 1) 0 26 (En.cells e0) _ (World.rangeAt_setCells_same w1 (w.heap.size + 1) 0 (En.cells e0) (En.there S1.z rfl)) Try.underlying26 rfl (by kernel_rfl)
    have hbz := setCells_below (w.heap.size + 1) (En.cells e0) 0 w1 S1.b (Nat.le_succ _)
    clear S1
    simp only [Act.put, List.setIfInBounds_toArray, List.set_cons_zero, List.set_cons_succ]
    go_wp2_with fail
    refine bodyPost_ret (v := .agg (En.cells e0).toArray) (by simp [results, Try.results15, asAddr, hL]; done) rfl ?_
    exact ⟨rfl, hbz⟩
  · have HKN := Lib.hid hkn
    clear hkn
    go_enter Try.func15, Try.ntmps15
    go_wp2_with fail
    have S0 := EnSt.start w e0
    refine (ck _).mono ?_; rintro e w1 ⟨rfl, b1⟩
    have S1 := S0.kept b1
    clear S0 b1
    have c15 : w1.cell? ⟨w.heap.size, 15, none⟩ = some (.bool true) := (S1.m.c 15 _ rfl).trans (by rw [HKN.out])
    have c8 : w1.cell? ⟨w.heap.size, 8, none⟩ = some (.int .i64 e0.is) := S1.m.c 8 _ rfl
    go_upto_region 2 with (fail)
    refine wp_region_lit ?_
    refine wpList_load_mid rfl 26 (.tmp 2) rfl w.heap.size 0 rfl (En.cells e0) _ (En.range S1.m) Try.underlying26 rfl (by kernel_rfl) ?_
    refine wpList_store_mid rfl 26 (.tmp 4) (.tmp 19) rfl (w.heap.size + 1) 0 (En.cells e0).toArray rfl rfl (En.there S1.z rfl) (by kernel_rfl) (en_one _) ?_
    have hL := run_loadVar_mid (P := Try.prog) (w1.setCells (w.heap.size + 1) 0 (En.cells e0)) (w.heap.size + 1) 0 26 (En.cells e0) _ (World.rangeAt_setCells_same w1 (w.heap.size + 1) 0 (En.cells e0) (En.there S1.z rfl)) Try.underlying26 rfl (by kernel_rfl)
    have hbz := setCells_below (w.heap.size + 1) (En.cells e0) 0 w1 S1.b (Nat.le_succ _)
    clear S1
    simp only [Act.put, List.setIfInBounds_toArray, List.set_cons_zero, List.set_cons_succ]
    go_wp2_with fail
    refine bodyPost_ret (v := .agg (En.cells e0).toArray) (by simp [results, Try.results15, asAddr, hL]; done) rfl ?_
    exact ⟨rfl, hbz⟩

set_option maxRecDepth 100000 in
set_option maxHeartbeats 16000000 in
theorem store_late (e0 : En) (b v : Nat) (w : World) (q1 : kindOf e0.op = 4) (hkn : e0.known = true) (q3 : (e0.is != 0) = false) (cl : ∀ w, Calls Try.prog 36 #[.int .u32 b, .int .i64 (sizeOf' e0.op)] w fun e w' => e = .returned (.int .u32 v) ∧ Below w.heap.size w w') :
    Calls Try.prog 15 #[.agg #[.int .i64 e0.no, .int .u32 e0.pc, .int .i64 e0.op, .int .i64 e0.rd, .int .i64 e0.rs1, .int .i64 e0.rs2, .int .u32 e0.imm, .int .u32 e0.guess, .int .i64 e0.is, .int .i64 e0.left, .int .u32 e0.value, .int .u32 e0.next, .int .u32 e0.addr, .int .i64 e0.halt, .int .i64 e0.took, .bool e0.known, .bool e0.filled], .int .u32 b] w fun e w' => e = .returned (.agg #[.int .i64 ({ e0 with is := 3, value := (v : Int) } : En).no, .int .u32 ({ e0 with is := 3, value := (v : Int) } : En).pc, .int .i64 ({ e0 with is := 3, value := (v : Int) } : En).op, .int .i64 ({ e0 with is := 3, value := (v : Int) } : En).rd, .int .i64 ({ e0 with is := 3, value := (v : Int) } : En).rs1, .int .i64 ({ e0 with is := 3, value := (v : Int) } : En).rs2, .int .u32 ({ e0 with is := 3, value := (v : Int) } : En).imm, .int .u32 ({ e0 with is := 3, value := (v : Int) } : En).guess, .int .i64 ({ e0 with is := 3, value := (v : Int) } : En).is, .int .i64 ({ e0 with is := 3, value := (v : Int) } : En).left, .int .u32 ({ e0 with is := 3, value := (v : Int) } : En).value, .int .u32 ({ e0 with is := 3, value := (v : Int) } : En).next, .int .u32 ({ e0 with is := 3, value := (v : Int) } : En).addr, .int .i64 ({ e0 with is := 3, value := (v : Int) } : En).halt, .int .i64 ({ e0 with is := 3, value := (v : Int) } : En).took, .bool ({ e0 with is := 3, value := (v : Int) } : En).known, .bool ({ e0 with is := 3, value := (v : Int) } : En).filled]) ∧ Below w.heap.size w w' := by
  have ck := fun w => kind_any e0.op e0.rd e0.rs1 e0.rs2 e0.imm w
  have cs := fun w => size_any e0.op e0.rd e0.rs1 e0.rs2 e0.imm w
  rw [q1] at ck
  clear q1
  generalize sizeOf' e0.op = sz at *
  have HKN := Lib.hid hkn
  clear hkn
  go_enter Try.func15, Try.ntmps15
  go_wp2_with fail
  have S0 := EnSt.start w e0
  refine (ck _).mono ?_; rintro e w1 ⟨rfl, b1⟩
  have S1 := S0.kept b1
  clear S0 b1
  have c15 : w1.cell? ⟨w.heap.size, 15, none⟩ = some (.bool true) := (S1.m.c 15 _ rfl).trans (by rw [HKN.out])
  have c8 : w1.cell? ⟨w.heap.size, 8, none⟩ = some (.int .i64 e0.is) := S1.m.c 8 _ rfl
  have g8 := S1.m.g 8
  go_upto_region 4 with (fail)
  have S2 := S1.set (e' := { e0 with is := 3 }) 8 (.int .i64 3) (by omega) rfl
  clear S1 c15 c8 g8
  generalize w1.setCell _ _ = w2 at *
  have c2 : w2.cell? ⟨w.heap.size, 2, none⟩ = some (.int .i64 e0.op) := S2.m.c 2 _ rfl
  have c3 : w2.cell? ⟨w.heap.size, 3, none⟩ = some (.int .i64 e0.rd) := S2.m.c 3 _ rfl
  have c4 : w2.cell? ⟨w.heap.size, 4, none⟩ = some (.int .i64 e0.rs1) := S2.m.c 4 _ rfl
  have c5 : w2.cell? ⟨w.heap.size, 5, none⟩ = some (.int .i64 e0.rs2) := S2.m.c 5 _ rfl
  have c6 : w2.cell? ⟨w.heap.size, 6, none⟩ = some (.int .u32 e0.imm) := S2.m.c 6 _ rfl
  go_wp2_with fail
  refine (cs _).mono ?_; rintro e w3 ⟨rfl, b3⟩
  have S3 := S2.kept b3
  clear S2 b3 c2 c3 c4 c5 c6
  go_wp2_with fail
  refine (cl _).mono ?_; rintro e w4 ⟨rfl, b4⟩
  have S4 := S3.kept b4
  clear S3 b4
  have c10 : w4.cell? ⟨w.heap.size, 10, none⟩ = some (.int .u32 e0.value) := S4.m.c 10 _ rfl
  have g10 := S4.m.g 10
  go_upto_region 5 with (fail)
  have S5 := S4.set (e' := { e0 with is := 3, value := (v : Int) }) 10 (.int .u32 v) (by omega) rfl
  clear S4 c10 g10
  generalize w4.setCell _ _ = w5 at *
  refine wp_region_lit ?_
  refine wpList_load_mid rfl 26 (.tmp 2) rfl w.heap.size 0 rfl (En.cells { e0 with is := 3, value := (v : Int) }) _ (En.range S5.m) Try.underlying26 rfl (by kernel_rfl) ?_
  refine wpList_store_mid rfl 26 (.tmp 4) (.tmp 27) rfl (w.heap.size + 1) 0 (En.cells { e0 with is := 3, value := (v : Int) }).toArray rfl rfl (En.there S5.z rfl) (by kernel_rfl) (en_one _) ?_
  have hL := run_loadVar_mid (P := Try.prog) (w5.setCells (w.heap.size + 1) 0 (En.cells { e0 with is := 3, value := (v : Int) })) (w.heap.size + 1) 0 26 (En.cells { e0 with is := 3, value := (v : Int) }) _ (World.rangeAt_setCells_same w5 (w.heap.size + 1) 0 (En.cells { e0 with is := 3, value := (v : Int) }) (En.there S5.z rfl)) Try.underlying26 rfl (by kernel_rfl)
  have hbz := setCells_below (w.heap.size + 1) (En.cells { e0 with is := 3, value := (v : Int) }) 0 w5 S5.b (Nat.le_succ _)
  clear S5
  simp only [Act.put, List.setIfInBounds_toArray, List.set_cons_zero, List.set_cons_succ]
  go_wp2_with fail
  refine bodyPost_ret (v := .agg (En.cells { e0 with is := 3, value := (v : Int) }).toArray) (by simp [results, Try.results15, asAddr, hL]; done) rfl ?_
  exact ⟨rfl, hbz⟩

theorem store_any (e0 : En) (b v : Nat) (w : World) (cl : ∀ w, Calls Try.prog 36 #[.int .u32 b, .int .i64 (sizeOf' e0.op)] w fun e w' => e = .returned (.int .u32 v) ∧ Below w.heap.size w w') :
    Calls Try.prog 15 #[.agg #[.int .i64 e0.no, .int .u32 e0.pc, .int .i64 e0.op, .int .i64 e0.rd, .int .i64 e0.rs1, .int .i64 e0.rs2, .int .u32 e0.imm, .int .u32 e0.guess, .int .i64 e0.is, .int .i64 e0.left, .int .u32 e0.value, .int .u32 e0.next, .int .u32 e0.addr, .int .i64 e0.halt, .int .i64 e0.took, .bool e0.known, .bool e0.filled], .int .u32 b] w fun e w' => e = .returned (.agg #[.int .i64 (storeP e0 v).no, .int .u32 (storeP e0 v).pc, .int .i64 (storeP e0 v).op, .int .i64 (storeP e0 v).rd, .int .i64 (storeP e0 v).rs1, .int .i64 (storeP e0 v).rs2, .int .u32 (storeP e0 v).imm, .int .u32 (storeP e0 v).guess, .int .i64 (storeP e0 v).is, .int .i64 (storeP e0 v).left, .int .u32 (storeP e0 v).value, .int .u32 (storeP e0 v).next, .int .u32 (storeP e0 v).addr, .int .i64 (storeP e0 v).halt, .int .i64 (storeP e0 v).took, .bool (storeP e0 v).known, .bool (storeP e0 v).filled]) ∧ Below w.heap.size w w' := by
  by_cases h : kindOf e0.op ≠ 4 ∨ e0.known = false ∨ e0.is ≠ 0
  · have hv : storeP e0 v = e0 := by unfold storeP; rw [if_pos h]
    rw [hv]
    exact store_early e0 b w h
  · have hv : storeP e0 v = { e0 with is := 3, value := (v : Int) } := by unfold storeP; rw [if_neg h]
    rw [hv]
    have h1 : kindOf e0.op = 4 := Classical.byContradiction fun q => h (.inl q)
    have h2 : e0.known = true := by
      rcases Bool.eq_false_or_eq_true e0.known with q | q
      · exact q
      · exact absurd (.inr (.inl q)) h
    have h3 : e0.is = 0 := Classical.byContradiction fun q => h (.inr (.inr q))
    exact store_late e0 b v w h1 h2 (by simpa using h3) cl
set_option maxRecDepth 100000 in
set_option maxHeartbeats 16000000 in
theorem take_early (e0 : En) (sb : ByteArray) (w : World) (q0 : kindOf e0.op ≠ 3 ∨ e0.known = false ∨ (e0.is ≠ 0 ∧ e0.is ≠ 2)) :
    Calls Try.prog 14 #[.agg #[.int .i64 e0.no, .int .u32 e0.pc, .int .i64 e0.op, .int .i64 e0.rd, .int .i64 e0.rs1, .int .i64 e0.rs2, .int .u32 e0.imm, .int .u32 e0.guess, .int .i64 e0.is, .int .i64 e0.left, .int .u32 e0.value, .int .u32 e0.next, .int .u32 e0.addr, .int .i64 e0.halt, .int .i64 e0.took, .bool e0.known, .bool e0.filled], .string sb] w fun e w' => e = .returned (.agg #[.int .i64 e0.no, .int .u32 e0.pc, .int .i64 e0.op, .int .i64 e0.rd, .int .i64 e0.rs1, .int .i64 e0.rs2, .int .u32 e0.imm, .int .u32 e0.guess, .int .i64 e0.is, .int .i64 e0.left, .int .u32 e0.value, .int .u32 e0.next, .int .u32 e0.addr, .int .i64 e0.halt, .int .i64 e0.took, .bool e0.known, .bool e0.filled]) ∧ Below w.heap.size w w' := by
  have ck := fun w => kind_any e0.op e0.rd e0.rs1 e0.rs2 e0.imm w
  obtain ⟨k, hk⟩ : ∃ k, k = kindOf e0.op := ⟨_, rfl⟩
  rw [← hk] at ck q0
  clear hk
  have hc : (((k : Int) != 3) = true) ∨ (k = 3 ∧ e0.known = false) ∨ (k = 3 ∧ e0.known = true ∧ (e0.is != 0) = true ∧ (e0.is != 2) = true) := by
    by_cases h4 : k = 3
    · rcases Bool.eq_false_or_eq_true e0.known with h | h
      · refine .inr (.inr ⟨h4, h, ?_⟩)
        rcases q0 with q | q | q
        · exact absurd h4 q
        · rw [h] at q; cases q
        · simpa using q
      · exact .inr (.inl ⟨h4, h⟩)
    · exact .inl (by simp; omega)
  clear q0
  rcases hc with q1 | ⟨rfl, hkn⟩ | ⟨rfl, hkn, q3, q4⟩
  · go_enter Try.func14, Try.ntmps14
    go_wp2_with fail
    have S0 := EnSt.start w e0
    refine (ck _).mono ?_; rintro e w1 ⟨rfl, b1⟩
    have S1 := S0.kept b1
    clear S0 b1
    go_upto_region 2 with (fail)
    refine wp_region_lit ?_
    refine wpList_load_mid rfl 26 (.tmp 2) rfl w.heap.size 0 rfl (En.cells e0) _ (En.range S1.m) Try.underlying26 rfl (by kernel_rfl) ?_
    refine wpList_store_mid rfl 26 (.tmp 4) (.tmp 24) rfl (w.heap.size + 1) 0 (En.cells e0).toArray rfl rfl (En.there S1.z rfl) (by kernel_rfl) (en_one _) ?_
    have hL := run_loadVar_mid (P := Try.prog) (w1.setCells (w.heap.size + 1) 0 (En.cells e0)) (w.heap.size + 1) 0 26 (En.cells e0) _ (World.rangeAt_setCells_same w1 (w.heap.size + 1) 0 (En.cells e0) (En.there S1.z rfl)) Try.underlying26 rfl (by kernel_rfl)
    have hbz := setCells_below (w.heap.size + 1) (En.cells e0) 0 w1 S1.b (Nat.le_succ _)
    clear S1
    simp only [Act.put, List.setIfInBounds_toArray, List.set_cons_zero, List.set_cons_succ]
    go_wp2_with fail
    refine bodyPost_ret (v := .agg (En.cells e0).toArray) (by simp [results, Try.results14, asAddr, hL]; done) rfl ?_
    exact ⟨rfl, hbz⟩
  · have HKN := Lib.hid hkn
    clear hkn
    go_enter Try.func14, Try.ntmps14
    go_wp2_with fail
    have S0 := EnSt.start w e0
    refine (ck _).mono ?_; rintro e w1 ⟨rfl, b1⟩
    have S1 := S0.kept b1
    clear S0 b1
    have c15 : w1.cell? ⟨w.heap.size, 15, none⟩ = some (.bool false) := (S1.m.c 15 _ rfl).trans (by rw [HKN.out])
    go_upto_region 2 with (fail)
    refine wp_region_lit ?_
    refine wpList_load_mid rfl 26 (.tmp 2) rfl w.heap.size 0 rfl (En.cells e0) _ (En.range S1.m) Try.underlying26 rfl (by kernel_rfl) ?_
    refine wpList_store_mid rfl 26 (.tmp 4) (.tmp 24) rfl (w.heap.size + 1) 0 (En.cells e0).toArray rfl rfl (En.there S1.z rfl) (by kernel_rfl) (en_one _) ?_
    have hL := run_loadVar_mid (P := Try.prog) (w1.setCells (w.heap.size + 1) 0 (En.cells e0)) (w.heap.size + 1) 0 26 (En.cells e0) _ (World.rangeAt_setCells_same w1 (w.heap.size + 1) 0 (En.cells e0) (En.there S1.z rfl)) Try.underlying26 rfl (by kernel_rfl)
    have hbz := setCells_below (w.heap.size + 1) (En.cells e0) 0 w1 S1.b (Nat.le_succ _)
    clear S1
    simp only [Act.put, List.setIfInBounds_toArray, List.set_cons_zero, List.set_cons_succ]
    go_wp2_with fail
    refine bodyPost_ret (v := .agg (En.cells e0).toArray) (by simp [results, Try.results14, asAddr, hL]; done) rfl ?_
    exact ⟨rfl, hbz⟩
  · have HKN := Lib.hid hkn
    clear hkn
    go_enter Try.func14, Try.ntmps14
    go_wp2_with fail
    have S0 := EnSt.start w e0
    refine (ck _).mono ?_; rintro e w1 ⟨rfl, b1⟩
    have S1 := S0.kept b1
    clear S0 b1
    have c15 : w1.cell? ⟨w.heap.size, 15, none⟩ = some (.bool true) := (S1.m.c 15 _ rfl).trans (by rw [HKN.out])
    have c8 : w1.cell? ⟨w.heap.size, 8, none⟩ = some (.int .i64 e0.is) := S1.m.c 8 _ rfl
    go_upto_region 2 with (fail)
    refine wp_region_lit ?_
    refine wpList_load_mid rfl 26 (.tmp 2) rfl w.heap.size 0 rfl (En.cells e0) _ (En.range S1.m) Try.underlying26 rfl (by kernel_rfl) ?_
    refine wpList_store_mid rfl 26 (.tmp 4) (.tmp 24) rfl (w.heap.size + 1) 0 (En.cells e0).toArray rfl rfl (En.there S1.z rfl) (by kernel_rfl) (en_one _) ?_
    have hL := run_loadVar_mid (P := Try.prog) (w1.setCells (w.heap.size + 1) 0 (En.cells e0)) (w.heap.size + 1) 0 26 (En.cells e0) _ (World.rangeAt_setCells_same w1 (w.heap.size + 1) 0 (En.cells e0) (En.there S1.z rfl)) Try.underlying26 rfl (by kernel_rfl)
    have hbz := setCells_below (w.heap.size + 1) (En.cells e0) 0 w1 S1.b (Nat.le_succ _)
    clear S1
    simp only [Act.put, List.setIfInBounds_toArray, List.set_cons_zero, List.set_cons_succ]
    go_wp2_with fail
    refine bodyPost_ret (v := .agg (En.cells e0).toArray) (by simp [results, Try.results14, asAddr, hL]; done) rfl ?_
    exact ⟨rfl, hbz⟩

set_option maxRecDepth 100000 in
set_option maxHeartbeats 16000000 in
theorem take_late (e0 : En) (sb : ByteArray) (v : Nat) (vv : Int) (w : World) (q1 : kindOf e0.op = 3) (hkn : e0.known = true) (q3 : (e0.is != 0) = false ∨ ((e0.is != 0) = true ∧ (e0.is != 2) = false)) (hvv : vv = if wrP e0.op e0.rd = 0 then (0 : Int) else (v : Int)) (cl : ∀ w, Calls Try.prog 35 #[.int .i64 e0.op, .string sb] w fun e w' => e = .returned (.int .u32 v) ∧ Below w.heap.size w w') :
    Calls Try.prog 14 #[.agg #[.int .i64 e0.no, .int .u32 e0.pc, .int .i64 e0.op, .int .i64 e0.rd, .int .i64 e0.rs1, .int .i64 e0.rs2, .int .u32 e0.imm, .int .u32 e0.guess, .int .i64 e0.is, .int .i64 e0.left, .int .u32 e0.value, .int .u32 e0.next, .int .u32 e0.addr, .int .i64 e0.halt, .int .i64 e0.took, .bool e0.known, .bool e0.filled], .string sb] w fun e w' => e = .returned (.agg #[.int .i64 ({ e0 with is := 1, left := 1, value := vv } : En).no, .int .u32 ({ e0 with is := 1, left := 1, value := vv } : En).pc, .int .i64 ({ e0 with is := 1, left := 1, value := vv } : En).op, .int .i64 ({ e0 with is := 1, left := 1, value := vv } : En).rd, .int .i64 ({ e0 with is := 1, left := 1, value := vv } : En).rs1, .int .i64 ({ e0 with is := 1, left := 1, value := vv } : En).rs2, .int .u32 ({ e0 with is := 1, left := 1, value := vv } : En).imm, .int .u32 ({ e0 with is := 1, left := 1, value := vv } : En).guess, .int .i64 ({ e0 with is := 1, left := 1, value := vv } : En).is, .int .i64 ({ e0 with is := 1, left := 1, value := vv } : En).left, .int .u32 ({ e0 with is := 1, left := 1, value := vv } : En).value, .int .u32 ({ e0 with is := 1, left := 1, value := vv } : En).next, .int .u32 ({ e0 with is := 1, left := 1, value := vv } : En).addr, .int .i64 ({ e0 with is := 1, left := 1, value := vv } : En).halt, .int .i64 ({ e0 with is := 1, left := 1, value := vv } : En).took, .bool ({ e0 with is := 1, left := 1, value := vv } : En).known, .bool ({ e0 with is := 1, left := 1, value := vv } : En).filled]) ∧ Below w.heap.size w w' := by
  have ck := fun w => kind_any e0.op e0.rd e0.rs1 e0.rs2 e0.imm w
  have hwr := fun w => writes_to e0.op e0.rd e0.rs1 e0.rs2 e0.imm w
  rw [q1] at ck
  clear q1
  generalize wrP e0.op e0.rd = wr at *
  have HV := Lib.hid hvv
  have HKN := Lib.hid hkn
  clear hkn hvv
  rcases q3 with q3 | ⟨q3, q4⟩
  all_goals
    go_enter Try.func14, Try.ntmps14
    go_wp2_with fail
    have S0 := EnSt.start w e0
    refine (ck _).mono ?_; rintro e w1 ⟨rfl, b1⟩
    have S1 := S0.kept b1
    clear S0 b1
    have c15 : w1.cell? ⟨w.heap.size, 15, none⟩ = some (.bool true) := (S1.m.c 15 _ rfl).trans (by rw [HKN.out])
    have c8 : w1.cell? ⟨w.heap.size, 8, none⟩ = some (.int .i64 e0.is) := S1.m.c 8 _ rfl
    have g8 := S1.m.g 8
    go_upto_region 4 with (fail)
    have S2 := S1.set (e' := { e0 with is := 1 }) 8 (.int .i64 1) (by omega) rfl
    clear S1 c15 c8 g8
    generalize w1.setCell _ _ = w2 at *
    have c9 : w2.cell? ⟨w.heap.size, 9, none⟩ = some (.int .i64 e0.left) := S2.m.c 9 _ rfl
    have g9 := S2.m.g 9
    go_upto_region 5 with (fail)
    have S3 := S2.set (e' := { e0 with is := 1, left := 1 }) 9 (.int .i64 1) (by omega) rfl
    clear S2 c9 g9
    generalize w2.setCell _ _ = w3 at *
    have c10 : w3.cell? ⟨w.heap.size, 10, none⟩ = some (.int .u32 e0.value) := S3.m.c 10 _ rfl
    have g10 := S3.m.g 10
    go_upto_region 6 with (fail)
    have S4 := S3.set (e' := { e0 with is := 1, left := 1, value := 0 }) 10 (.int .u32 0) (by omega) rfl
    clear S3 c10 g10
    generalize w3.setCell _ _ = w4 at *
    have c2 : w4.cell? ⟨w.heap.size, 2, none⟩ = some (.int .i64 e0.op) := S4.m.c 2 _ rfl
    have c3 : w4.cell? ⟨w.heap.size, 3, none⟩ = some (.int .i64 e0.rd) := S4.m.c 3 _ rfl
    have c4 : w4.cell? ⟨w.heap.size, 4, none⟩ = some (.int .i64 e0.rs1) := S4.m.c 4 _ rfl
    have c5 : w4.cell? ⟨w.heap.size, 5, none⟩ = some (.int .i64 e0.rs2) := S4.m.c 5 _ rfl
    have c6 : w4.cell? ⟨w.heap.size, 6, none⟩ = some (.int .u32 e0.imm) := S4.m.c 6 _ rfl
    go_wp2_with fail
    refine (hwr _).mono ?_; rintro e w5 ⟨rfl, b5⟩
    have S5 := S4.kept b5
    clear S4 b5 c2 c3 c4 c5 c6
    go_upto_if 31 with (fail)
    go_cut [2] (fun t2 wx => t2 = .pointer (some ⟨w.heap.size, 0, none⟩) ∧ EnSt w wx { e0 with is := 1, left := 1, value := vv })
    case first =>
      by_cases hw0 : wr = 0
      · have he : Hid (vv = 0) := by show _ = _; rw [HV.out, if_pos hw0]
        go_wp2_with fail
        go_meet
        case rel => exact ⟨rfl, by rw [he.out]; exact S5⟩
      · have he : Hid (vv = (v : Int)) := by show _ = _; rw [HV.out, if_neg hw0]
        have c2 : w5.cell? ⟨w.heap.size, 2, none⟩ = some (.int .i64 e0.op) := S5.m.c 2 _ rfl
        go_wp2_with (go_at_call 35; refine (cl _).mono ?_; rintro e w6 ⟨rfl, b6⟩; have c10 : w6.cell? ⟨w.heap.size, 10, none⟩ = some (.int .u32 0) := (S5.kept b6).m.c 10 _ rfl; have g10 := (S5.kept b6).m.g 10)
        go_meet
        case rel => exact ⟨rfl, by rw [he.out]; exact (S5.kept b6).set (e' := { e0 with is := 1, left := 1, value := (v : Int) }) 10 (.int .u32 v) (by omega) rfl⟩
    case rest =>
    obtain ⟨rfl, S9⟩ := hcut
    clear S5
    go_upto_region 8 with (fail)
    refine wp_region_lit ?_
    refine wpList_load_mid rfl 26 (.tmp 2) rfl w.heap.size 0 rfl (En.cells { e0 with is := 1, left := 1, value := vv }) _ (En.range S9.m) Try.underlying26 rfl (by kernel_rfl) ?_
    refine wpList_store_mid rfl 26 (.tmp 4) (.tmp 38) rfl (w.heap.size + 1) 0 (En.cells { e0 with is := 1, left := 1, value := vv }).toArray rfl rfl (En.there S9.z rfl) (by kernel_rfl) (en_one _) ?_
    have hL := run_loadVar_mid (P := Try.prog) (wc.setCells (w.heap.size + 1) 0 (En.cells { e0 with is := 1, left := 1, value := vv })) (w.heap.size + 1) 0 26 (En.cells { e0 with is := 1, left := 1, value := vv }) _ (World.rangeAt_setCells_same wc (w.heap.size + 1) 0 (En.cells { e0 with is := 1, left := 1, value := vv }) (En.there S9.z rfl)) Try.underlying26 rfl (by kernel_rfl)
    have hbz := setCells_below (w.heap.size + 1) (En.cells { e0 with is := 1, left := 1, value := vv }) 0 wc S9.b (Nat.le_succ _)
    clear S9
    simp only [Act.put, List.setIfInBounds_toArray, List.set_cons_zero, List.set_cons_succ]
    go_wp2_with fail
    refine bodyPost_ret (v := .agg (En.cells { e0 with is := 1, left := 1, value := vv }).toArray) (by simp [results, Try.results14, asAddr, hL]; done) rfl ?_
    exact ⟨rfl, hbz⟩

theorem take_any (e0 : En) (sb : ByteArray) (v : Nat) (w : World) (cl : ∀ w, Calls Try.prog 35 #[.int .i64 e0.op, .string sb] w fun e w' => e = .returned (.int .u32 v) ∧ Below w.heap.size w w') :
    Calls Try.prog 14 #[.agg #[.int .i64 e0.no, .int .u32 e0.pc, .int .i64 e0.op, .int .i64 e0.rd, .int .i64 e0.rs1, .int .i64 e0.rs2, .int .u32 e0.imm, .int .u32 e0.guess, .int .i64 e0.is, .int .i64 e0.left, .int .u32 e0.value, .int .u32 e0.next, .int .u32 e0.addr, .int .i64 e0.halt, .int .i64 e0.took, .bool e0.known, .bool e0.filled], .string sb] w fun e w' => e = .returned (.agg #[.int .i64 (takeP e0 v).no, .int .u32 (takeP e0 v).pc, .int .i64 (takeP e0 v).op, .int .i64 (takeP e0 v).rd, .int .i64 (takeP e0 v).rs1, .int .i64 (takeP e0 v).rs2, .int .u32 (takeP e0 v).imm, .int .u32 (takeP e0 v).guess, .int .i64 (takeP e0 v).is, .int .i64 (takeP e0 v).left, .int .u32 (takeP e0 v).value, .int .u32 (takeP e0 v).next, .int .u32 (takeP e0 v).addr, .int .i64 (takeP e0 v).halt, .int .i64 (takeP e0 v).took, .bool (takeP e0 v).known, .bool (takeP e0 v).filled]) ∧ Below w.heap.size w w' := by
  by_cases h : kindOf e0.op ≠ 3 ∨ e0.known = false ∨ (e0.is ≠ 0 ∧ e0.is ≠ 2)
  · have hv : takeP e0 v = e0 := by unfold takeP; rw [if_pos h]
    rw [hv]
    exact take_early e0 sb w h
  · have hv : takeP e0 v = { e0 with is := 1, left := 1, value := if wrP e0.op e0.rd = 0 then 0 else (v : Int) } := by unfold takeP; rw [if_neg h]
    rw [hv]
    have h1 : kindOf e0.op = 3 := Classical.byContradiction fun q => h (.inl q)
    have h2 : e0.known = true := by
      rcases Bool.eq_false_or_eq_true e0.known with q | q
      · exact q
      · exact absurd (.inr (.inl q)) h
    refine take_late e0 sb v _ w h1 h2 ?_ rfl cl
    by_cases h3 : e0.is = 0
    · exact .inl (by simpa using h3)
    · by_cases h4 : e0.is = 2
      · exact .inr ⟨by simpa using h3, by simpa using h4⟩
      · exact absurd (.inr (.inr ⟨h3, h4⟩)) h
set_option maxRecDepth 100000 in
set_option maxHeartbeats 16000000 in
theorem addr_early (e0 : En) (size : Int) (a : Nat) (w : World) (q0 : (kindOf e0.op ≠ 3 ∧ kindOf e0.op ≠ 4) ∨ e0.is ≠ 0 ∨ e0.known = true) :
    Calls Try.prog 13 #[.agg #[.int .i64 e0.no, .int .u32 e0.pc, .int .i64 e0.op, .int .i64 e0.rd, .int .i64 e0.rs1, .int .i64 e0.rs2, .int .u32 e0.imm, .int .u32 e0.guess, .int .i64 e0.is, .int .i64 e0.left, .int .u32 e0.value, .int .u32 e0.next, .int .u32 e0.addr, .int .i64 e0.halt, .int .i64 e0.took, .bool e0.known, .bool e0.filled], .int .i64 size, .int .u32 a] w fun e w' => e = .returned (.agg #[.int .i64 e0.no, .int .u32 e0.pc, .int .i64 e0.op, .int .i64 e0.rd, .int .i64 e0.rs1, .int .i64 e0.rs2, .int .u32 e0.imm, .int .u32 e0.guess, .int .i64 e0.is, .int .i64 e0.left, .int .u32 e0.value, .int .u32 e0.next, .int .u32 e0.addr, .int .i64 e0.halt, .int .i64 e0.took, .bool e0.known, .bool e0.filled]) ∧ Below w.heap.size w w' := by
  have ck := fun w => kind_any e0.op e0.rd e0.rs1 e0.rs2 e0.imm w
  obtain ⟨k, hk⟩ : ∃ k, k = kindOf e0.op := ⟨_, rfl⟩
  rw [← hk] at ck q0
  clear hk
  have hc : (((k : Int) != 3) = true ∧ ((k : Int) != 4) = true) ∨ (k = 3 ∧ (e0.is != 0) = true) ∨ (k = 4 ∧ (e0.is != 0) = true) ∨ (k = 3 ∧ (e0.is != 0) = false ∧ e0.known = true) ∨ (k = 4 ∧ (e0.is != 0) = false ∧ e0.known = true) := by
    by_cases h3 : k = 3
    · by_cases h0 : e0.is = 0
      · refine .inr (.inr (.inr (.inl ⟨h3, by simpa using h0, ?_⟩)))
        rcases q0 with q | q | q
        · exact absurd h3 q.1
        · exact absurd h0 q
        · exact q
      · exact .inr (.inl ⟨h3, by simpa using h0⟩)
    · by_cases h4 : k = 4
      · by_cases h0 : e0.is = 0
        · refine .inr (.inr (.inr (.inr ⟨h4, by simpa using h0, ?_⟩)))
          rcases q0 with q | q | q
          · exact absurd h4 q.2
          · exact absurd h0 q
          · exact q
        · exact .inr (.inr (.inl ⟨h4, by simpa using h0⟩))
      · exact .inl ⟨by simp; omega, by simp; omega⟩
  clear q0
  rcases hc with ⟨q1, q2⟩ | ⟨rfl, q1⟩ | ⟨rfl, q1⟩ | ⟨rfl, q1, hkn⟩ | ⟨rfl, q1, hkn⟩
  · go_enter Try.func13, Try.ntmps13
    go_wp2_with fail
    have S0 := EnSt.start w e0
    refine (ck _).mono ?_; rintro e w1 ⟨rfl, b1⟩
    have S1 := S0.kept b1
    clear S0 b1
    go_upto_region 3 with (fail)
    refine wp_region_lit ?_
    refine wpList_load_mid rfl 26 (.tmp 3) rfl w.heap.size 0 rfl (En.cells e0) _ (En.range S1.m) Try.underlying26 rfl (by kernel_rfl) ?_
    refine wpList_store_mid rfl 26 (.tmp 6) (.tmp 26) rfl (w.heap.size + 1) 0 (En.cells e0).toArray rfl rfl (En.there S1.z rfl) (by kernel_rfl) (en_one _) ?_
    have hL := run_loadVar_mid (P := Try.prog) (w1.setCells (w.heap.size + 1) 0 (En.cells e0)) (w.heap.size + 1) 0 26 (En.cells e0) _ (World.rangeAt_setCells_same w1 (w.heap.size + 1) 0 (En.cells e0) (En.there S1.z rfl)) Try.underlying26 rfl (by kernel_rfl)
    have hbz := setCells_below (w.heap.size + 1) (En.cells e0) 0 w1 S1.b (Nat.le_succ _)
    clear S1
    simp only [Act.put, List.setIfInBounds_toArray, List.set_cons_zero, List.set_cons_succ]
    go_wp2_with fail
    refine bodyPost_ret (v := .agg (En.cells e0).toArray) (by simp [results, Try.results13, asAddr, hL]; done) rfl ?_
    exact ⟨rfl, hbz⟩
  · go_enter Try.func13, Try.ntmps13
    go_wp2_with fail
    have S0 := EnSt.start w e0
    refine (ck _).mono ?_; rintro e w1 ⟨rfl, b1⟩
    have S1 := S0.kept b1
    clear S0 b1
    have c8 : w1.cell? ⟨w.heap.size, 8, none⟩ = some (.int .i64 e0.is) := S1.m.c 8 _ rfl
    go_upto_region 3 with (fail)
    refine wp_region_lit ?_
    refine wpList_load_mid rfl 26 (.tmp 3) rfl w.heap.size 0 rfl (En.cells e0) _ (En.range S1.m) Try.underlying26 rfl (by kernel_rfl) ?_
    refine wpList_store_mid rfl 26 (.tmp 6) (.tmp 26) rfl (w.heap.size + 1) 0 (En.cells e0).toArray rfl rfl (En.there S1.z rfl) (by kernel_rfl) (en_one _) ?_
    have hL := run_loadVar_mid (P := Try.prog) (w1.setCells (w.heap.size + 1) 0 (En.cells e0)) (w.heap.size + 1) 0 26 (En.cells e0) _ (World.rangeAt_setCells_same w1 (w.heap.size + 1) 0 (En.cells e0) (En.there S1.z rfl)) Try.underlying26 rfl (by kernel_rfl)
    have hbz := setCells_below (w.heap.size + 1) (En.cells e0) 0 w1 S1.b (Nat.le_succ _)
    clear S1
    simp only [Act.put, List.setIfInBounds_toArray, List.set_cons_zero, List.set_cons_succ]
    go_wp2_with fail
    refine bodyPost_ret (v := .agg (En.cells e0).toArray) (by simp [results, Try.results13, asAddr, hL]; done) rfl ?_
    exact ⟨rfl, hbz⟩
  · go_enter Try.func13, Try.ntmps13
    go_wp2_with fail
    have S0 := EnSt.start w e0
    refine (ck _).mono ?_; rintro e w1 ⟨rfl, b1⟩
    have S1 := S0.kept b1
    clear S0 b1
    have c8 : w1.cell? ⟨w.heap.size, 8, none⟩ = some (.int .i64 e0.is) := S1.m.c 8 _ rfl
    go_upto_region 3 with (fail)
    refine wp_region_lit ?_
    refine wpList_load_mid rfl 26 (.tmp 3) rfl w.heap.size 0 rfl (En.cells e0) _ (En.range S1.m) Try.underlying26 rfl (by kernel_rfl) ?_
    refine wpList_store_mid rfl 26 (.tmp 6) (.tmp 26) rfl (w.heap.size + 1) 0 (En.cells e0).toArray rfl rfl (En.there S1.z rfl) (by kernel_rfl) (en_one _) ?_
    have hL := run_loadVar_mid (P := Try.prog) (w1.setCells (w.heap.size + 1) 0 (En.cells e0)) (w.heap.size + 1) 0 26 (En.cells e0) _ (World.rangeAt_setCells_same w1 (w.heap.size + 1) 0 (En.cells e0) (En.there S1.z rfl)) Try.underlying26 rfl (by kernel_rfl)
    have hbz := setCells_below (w.heap.size + 1) (En.cells e0) 0 w1 S1.b (Nat.le_succ _)
    clear S1
    simp only [Act.put, List.setIfInBounds_toArray, List.set_cons_zero, List.set_cons_succ]
    go_wp2_with fail
    refine bodyPost_ret (v := .agg (En.cells e0).toArray) (by simp [results, Try.results13, asAddr, hL]; done) rfl ?_
    exact ⟨rfl, hbz⟩
  · have HKN := Lib.hid hkn
    clear hkn
    go_enter Try.func13, Try.ntmps13
    go_wp2_with fail
    have S0 := EnSt.start w e0
    refine (ck _).mono ?_; rintro e w1 ⟨rfl, b1⟩
    have S1 := S0.kept b1
    clear S0 b1
    have c15 : w1.cell? ⟨w.heap.size, 15, none⟩ = some (.bool true) := (S1.m.c 15 _ rfl).trans (by rw [HKN.out])
    have c8 : w1.cell? ⟨w.heap.size, 8, none⟩ = some (.int .i64 e0.is) := S1.m.c 8 _ rfl
    go_upto_region 3 with (fail)
    refine wp_region_lit ?_
    refine wpList_load_mid rfl 26 (.tmp 3) rfl w.heap.size 0 rfl (En.cells e0) _ (En.range S1.m) Try.underlying26 rfl (by kernel_rfl) ?_
    refine wpList_store_mid rfl 26 (.tmp 6) (.tmp 26) rfl (w.heap.size + 1) 0 (En.cells e0).toArray rfl rfl (En.there S1.z rfl) (by kernel_rfl) (en_one _) ?_
    have hL := run_loadVar_mid (P := Try.prog) (w1.setCells (w.heap.size + 1) 0 (En.cells e0)) (w.heap.size + 1) 0 26 (En.cells e0) _ (World.rangeAt_setCells_same w1 (w.heap.size + 1) 0 (En.cells e0) (En.there S1.z rfl)) Try.underlying26 rfl (by kernel_rfl)
    have hbz := setCells_below (w.heap.size + 1) (En.cells e0) 0 w1 S1.b (Nat.le_succ _)
    clear S1
    simp only [Act.put, List.setIfInBounds_toArray, List.set_cons_zero, List.set_cons_succ]
    go_wp2_with fail
    refine bodyPost_ret (v := .agg (En.cells e0).toArray) (by simp [results, Try.results13, asAddr, hL]; done) rfl ?_
    exact ⟨rfl, hbz⟩
  · have HKN := Lib.hid hkn
    clear hkn
    go_enter Try.func13, Try.ntmps13
    go_wp2_with fail
    have S0 := EnSt.start w e0
    refine (ck _).mono ?_; rintro e w1 ⟨rfl, b1⟩
    have S1 := S0.kept b1
    clear S0 b1
    have c15 : w1.cell? ⟨w.heap.size, 15, none⟩ = some (.bool true) := (S1.m.c 15 _ rfl).trans (by rw [HKN.out])
    have c8 : w1.cell? ⟨w.heap.size, 8, none⟩ = some (.int .i64 e0.is) := S1.m.c 8 _ rfl
    go_upto_region 3 with (fail)
    refine wp_region_lit ?_
    refine wpList_load_mid rfl 26 (.tmp 3) rfl w.heap.size 0 rfl (En.cells e0) _ (En.range S1.m) Try.underlying26 rfl (by kernel_rfl) ?_
    refine wpList_store_mid rfl 26 (.tmp 6) (.tmp 26) rfl (w.heap.size + 1) 0 (En.cells e0).toArray rfl rfl (En.there S1.z rfl) (by kernel_rfl) (en_one _) ?_
    have hL := run_loadVar_mid (P := Try.prog) (w1.setCells (w.heap.size + 1) 0 (En.cells e0)) (w.heap.size + 1) 0 26 (En.cells e0) _ (World.rangeAt_setCells_same w1 (w.heap.size + 1) 0 (En.cells e0) (En.there S1.z rfl)) Try.underlying26 rfl (by kernel_rfl)
    have hbz := setCells_below (w.heap.size + 1) (En.cells e0) 0 w1 S1.b (Nat.le_succ _)
    clear S1
    simp only [Act.put, List.setIfInBounds_toArray, List.set_cons_zero, List.set_cons_succ]
    go_wp2_with fail
    refine bodyPost_ret (v := .agg (En.cells e0).toArray) (by simp [results, Try.results13, asAddr, hL]; done) rfl ?_
    exact ⟨rfl, hbz⟩

set_option maxRecDepth 100000 in
set_option maxHeartbeats 16000000 in
theorem addr_late (e0 : En) (size : Int) (a : Nat) (w : World) (k : Nat) (hk : kindOf e0.op = k) (hk34 : k = 3 ∨ k = 4) (hkn : e0.known = false) (q3 : (e0.is != 0) = false) (hs : size < 9223372036854775808) (r : En) (hr : r = if rightP size ((a + e0.imm) % 4294967296) (sizeOf' e0.op) = true then { e0 with addr := ((a + e0.imm) % 4294967296 : Nat), known := true } else { e0 with addr := ((a + e0.imm) % 4294967296 : Nat), halt := if k = 4 then 5 else 4, is := 3 }) :
    Calls Try.prog 13 #[.agg #[.int .i64 e0.no, .int .u32 e0.pc, .int .i64 e0.op, .int .i64 e0.rd, .int .i64 e0.rs1, .int .i64 e0.rs2, .int .u32 e0.imm, .int .u32 e0.guess, .int .i64 e0.is, .int .i64 e0.left, .int .u32 e0.value, .int .u32 e0.next, .int .u32 e0.addr, .int .i64 e0.halt, .int .i64 e0.took, .bool e0.known, .bool e0.filled], .int .i64 size, .int .u32 a] w fun e w' => e = .returned (.agg #[.int .i64 r.no, .int .u32 r.pc, .int .i64 r.op, .int .i64 r.rd, .int .i64 r.rs1, .int .i64 r.rs2, .int .u32 r.imm, .int .u32 r.guess, .int .i64 r.is, .int .i64 r.left, .int .u32 r.value, .int .u32 r.next, .int .u32 r.addr, .int .i64 r.halt, .int .i64 r.took, .bool r.known, .bool r.filled]) ∧ Below w.heap.size w w' := by
  have ck := fun w => kind_any e0.op e0.rd e0.rs1 e0.rs2 e0.imm w
  have cs := fun w => size_any e0.op e0.rd e0.rs1 e0.rs2 e0.imm w
  have hadl : (a + e0.imm) % 4294967296 < 4294967296 := Nat.mod_lt _ (by decide)
  have hadq : ((a : Int) + e0.imm) % 4294967296 = (((a + e0.imm) % 4294967296 : Nat) : Int) := by omega
  generalize (a + e0.imm) % 4294967296 = ad at *
  generalize sizeOf' e0.op = sz at *
  have cr := fun w => right_any size ad (sz : Int) w hs hadl
  rw [hk] at ck
  clear hk
  obtain ⟨rt, hrt⟩ : ∃ rt, rt = rightP size ad sz := ⟨_, rfl⟩
  rw [← hrt] at cr hr
  clear hrt
  have HR := Lib.hid hr
  have HKN := Lib.hid hkn
  clear hr hkn
  rcases hk34 with rfl | rfl
  · go_enter Try.func13, Try.ntmps13
    go_wp2_with fail
    have S0 := EnSt.start w e0
    refine (ck _).mono ?_; rintro e w1 ⟨rfl, b1⟩
    have S1 := S0.kept b1
    clear S0 b1
    have c15 : w1.cell? ⟨w.heap.size, 15, none⟩ = some (.bool false) := (S1.m.c 15 _ rfl).trans (by rw [HKN.out])
    have c8 : w1.cell? ⟨w.heap.size, 8, none⟩ = some (.int .i64 e0.is) := S1.m.c 8 _ rfl
    have c6 : w1.cell? ⟨w.heap.size, 6, none⟩ = some (.int .u32 e0.imm) := S1.m.c 6 _ rfl
    have c12 : w1.cell? ⟨w.heap.size, 12, none⟩ = some (.int .u32 e0.addr) := S1.m.c 12 _ rfl
    have g12 := S1.m.g 12
    go_upto_region 5 with (fail)
    have S2 := S1.set (e' := { e0 with addr := (ad : Int) }) 12 (.int .u32 ad) (by omega) rfl
    clear S1 c15 c8 c6 c12 g12
    generalize w1.setCell _ _ = w2 at *
    have c2 : w2.cell? ⟨w.heap.size, 2, none⟩ = some (.int .i64 e0.op) := S2.m.c 2 _ rfl
    have c3 : w2.cell? ⟨w.heap.size, 3, none⟩ = some (.int .i64 e0.rd) := S2.m.c 3 _ rfl
    have c4 : w2.cell? ⟨w.heap.size, 4, none⟩ = some (.int .i64 e0.rs1) := S2.m.c 4 _ rfl
    have c5 : w2.cell? ⟨w.heap.size, 5, none⟩ = some (.int .i64 e0.rs2) := S2.m.c 5 _ rfl
    have c6 : w2.cell? ⟨w.heap.size, 6, none⟩ = some (.int .u32 e0.imm) := S2.m.c 6 _ rfl
    have c12 : w2.cell? ⟨w.heap.size, 12, none⟩ = some (.int .u32 ad) := S2.m.c 12 _ rfl
    first | (go_region_held3 (fun w' => w'.cell? ⟨w.heap.size, 2, none⟩ = some (.int .i64 e0.op) ∧ w'.cell? ⟨w.heap.size, 3, none⟩ = some (.int .i64 e0.rd) ∧ w'.cell? ⟨w.heap.size, 4, none⟩ = some (.int .i64 e0.rs1) ∧ w'.cell? ⟨w.heap.size, 5, none⟩ = some (.int .i64 e0.rs2) ∧ w'.cell? ⟨w.heap.size, 6, none⟩ = some (.int .u32 e0.imm) ∧ w'.cell? ⟨w.heap.size, 12, none⟩ = some (.int .u32 ad)) (go_keep)
      (first
        | (go_at_call 34; refine (cs _).mono ?_; rintro e w3 ⟨rfl, b3⟩; have u2 : w3.cell? ⟨w.heap.size, 2, none⟩ = some (.int .i64 e0.op) := ((S2.kept (below_drew w2)).kept b3).m.c 2 _ rfl; have u3 : w3.cell? ⟨w.heap.size, 3, none⟩ = some (.int .i64 e0.rd) := ((S2.kept (below_drew w2)).kept b3).m.c 3 _ rfl; have u4 : w3.cell? ⟨w.heap.size, 4, none⟩ = some (.int .i64 e0.rs1) := ((S2.kept (below_drew w2)).kept b3).m.c 4 _ rfl; have u5 : w3.cell? ⟨w.heap.size, 5, none⟩ = some (.int .i64 e0.rs2) := ((S2.kept (below_drew w2)).kept b3).m.c 5 _ rfl; have u6 : w3.cell? ⟨w.heap.size, 6, none⟩ = some (.int .u32 e0.imm) := ((S2.kept (below_drew w2)).kept b3).m.c 6 _ rfl; have u12 : w3.cell? ⟨w.heap.size, 12, none⟩ = some (.int .u32 ad) := ((S2.kept (below_drew w2)).kept b3).m.c 12 _ rfl)
        | (go_at_call 33; refine (cr _).mono ?_; rintro e w4 ⟨rfl, rfl⟩))) | fail
    have S3 := (S2.kept (below_drew w2)).kept b3
    clear S2 b3 c2 c3 c4 c5 c6 c12 u2 u3 u4 u5 u6 u12
    cases rt with
    | true =>
      have he : Hid (r = { e0 with addr := (ad : Int), known := true }) := by show _ = _; rw [HR.out, if_pos rfl]
      have c15 : w3.cell? ⟨w.heap.size, 15, none⟩ = some (.bool e0.known) := S3.m.c 15 _ rfl
      have g15 := S3.m.g 15
      go_upto_region 7 with (fail)
      have S4 := S3.set (e' := { e0 with addr := (ad : Int), known := true }) 15 (.bool true) (by omega) rfl
      clear S3 c15 g15
      generalize w3.setCell _ _ = w4 at *
      refine wp_region_lit ?_
      refine wpList_load_mid rfl 26 (.tmp 3) rfl w.heap.size 0 rfl (En.cells { e0 with addr := (ad : Int), known := true }) _ (En.range S4.m) Try.underlying26 rfl (by kernel_rfl) ?_
      refine wpList_store_mid rfl 26 (.tmp 6) (.tmp 41) rfl (w.heap.size + 1) 0 (En.cells { e0 with addr := (ad : Int), known := true }).toArray rfl rfl (En.there S4.z rfl) (by kernel_rfl) (en_one _) ?_
      have hL := run_loadVar_mid (P := Try.prog) (w4.setCells (w.heap.size + 1) 0 (En.cells { e0 with addr := (ad : Int), known := true })) (w.heap.size + 1) 0 26 (En.cells { e0 with addr := (ad : Int), known := true }) _ (World.rangeAt_setCells_same w4 (w.heap.size + 1) 0 (En.cells { e0 with addr := (ad : Int), known := true }) (En.there S4.z rfl)) Try.underlying26 rfl (by kernel_rfl)
      have hbz := setCells_below (w.heap.size + 1) (En.cells { e0 with addr := (ad : Int), known := true }) 0 w4 S4.b (Nat.le_succ _)
      clear S4
      simp only [Act.put, List.setIfInBounds_toArray, List.set_cons_zero, List.set_cons_succ]
      go_wp2_with fail
      refine bodyPost_ret (v := .agg (En.cells { e0 with addr := (ad : Int), known := true }).toArray) (by simp [results, Try.results13, asAddr, hL]; done) rfl ?_
      exact ⟨by rw [he.out]; rfl, hbz⟩
    | false =>
      have he : Hid (r = { e0 with addr := (ad : Int), halt := 4, is := 3 }) := by show _ = _; rw [HR.out, if_neg (by decide)]; rfl
      have c13 : w3.cell? ⟨w.heap.size, 13, none⟩ = some (.int .i64 e0.halt) := S3.m.c 13 _ rfl
      have g13 := S3.m.g 13
      go_upto_region 9 with (fail)
      have S4 := S3.set (e' := { e0 with addr := (ad : Int), halt := 4 }) 13 (.int .i64 4) (by omega) rfl
      clear S3 c13 g13
      generalize w3.setCell _ _ = w4 at *
      have S5 := S4
      clear S4
      obtain ⟨w5, hw5⟩ : ∃ w5, w5 = w4 := ⟨_, rfl⟩
      subst hw5
      have c8 : w5.cell? ⟨w.heap.size, 8, none⟩ = some (.int .i64 e0.is) := S5.m.c 8 _ rfl
      have g8 := S5.m.g 8
      go_upto_region 12 with (fail)
      have S6 := S5.set (e' := { e0 with addr := (ad : Int), halt := 4, is := 3 }) 8 (.int .i64 3) (by omega) rfl
      clear S5 c8 g8
      generalize w5.setCell _ _ = w6 at *
      refine wp_region_lit ?_
      refine wpList_load_mid rfl 26 (.tmp 3) rfl w.heap.size 0 rfl (En.cells { e0 with addr := (ad : Int), halt := 4, is := 3 }) _ (En.range S6.m) Try.underlying26 rfl (by kernel_rfl) ?_
      refine wpList_store_mid rfl 26 (.tmp 6) (.tmp 47) rfl (w.heap.size + 1) 0 (En.cells { e0 with addr := (ad : Int), halt := 4, is := 3 }).toArray rfl rfl (En.there S6.z rfl) (by kernel_rfl) (en_one _) ?_
      have hL := run_loadVar_mid (P := Try.prog) (w6.setCells (w.heap.size + 1) 0 (En.cells { e0 with addr := (ad : Int), halt := 4, is := 3 })) (w.heap.size + 1) 0 26 (En.cells { e0 with addr := (ad : Int), halt := 4, is := 3 }) _ (World.rangeAt_setCells_same w6 (w.heap.size + 1) 0 (En.cells { e0 with addr := (ad : Int), halt := 4, is := 3 }) (En.there S6.z rfl)) Try.underlying26 rfl (by kernel_rfl)
      have hbz := setCells_below (w.heap.size + 1) (En.cells { e0 with addr := (ad : Int), halt := 4, is := 3 }) 0 w6 S6.b (Nat.le_succ _)
      clear S6
      simp only [Act.put, List.setIfInBounds_toArray, List.set_cons_zero, List.set_cons_succ]
      go_wp2_with fail
      refine bodyPost_ret (v := .agg (En.cells { e0 with addr := (ad : Int), halt := 4, is := 3 }).toArray) (by simp [results, Try.results13, asAddr, hL]; done) rfl ?_
      exact ⟨by rw [he.out]; rfl, hbz⟩
  · go_enter Try.func13, Try.ntmps13
    go_wp2_with fail
    have S0 := EnSt.start w e0
    refine (ck _).mono ?_; rintro e w1 ⟨rfl, b1⟩
    have S1 := S0.kept b1
    clear S0 b1
    have c15 : w1.cell? ⟨w.heap.size, 15, none⟩ = some (.bool false) := (S1.m.c 15 _ rfl).trans (by rw [HKN.out])
    have c8 : w1.cell? ⟨w.heap.size, 8, none⟩ = some (.int .i64 e0.is) := S1.m.c 8 _ rfl
    have c6 : w1.cell? ⟨w.heap.size, 6, none⟩ = some (.int .u32 e0.imm) := S1.m.c 6 _ rfl
    have c12 : w1.cell? ⟨w.heap.size, 12, none⟩ = some (.int .u32 e0.addr) := S1.m.c 12 _ rfl
    have g12 := S1.m.g 12
    go_upto_region 5 with (fail)
    have S2 := S1.set (e' := { e0 with addr := (ad : Int) }) 12 (.int .u32 ad) (by omega) rfl
    clear S1 c15 c8 c6 c12 g12
    generalize w1.setCell _ _ = w2 at *
    have c2 : w2.cell? ⟨w.heap.size, 2, none⟩ = some (.int .i64 e0.op) := S2.m.c 2 _ rfl
    have c3 : w2.cell? ⟨w.heap.size, 3, none⟩ = some (.int .i64 e0.rd) := S2.m.c 3 _ rfl
    have c4 : w2.cell? ⟨w.heap.size, 4, none⟩ = some (.int .i64 e0.rs1) := S2.m.c 4 _ rfl
    have c5 : w2.cell? ⟨w.heap.size, 5, none⟩ = some (.int .i64 e0.rs2) := S2.m.c 5 _ rfl
    have c6 : w2.cell? ⟨w.heap.size, 6, none⟩ = some (.int .u32 e0.imm) := S2.m.c 6 _ rfl
    have c12 : w2.cell? ⟨w.heap.size, 12, none⟩ = some (.int .u32 ad) := S2.m.c 12 _ rfl
    first | (go_region_held3 (fun w' => w'.cell? ⟨w.heap.size, 2, none⟩ = some (.int .i64 e0.op) ∧ w'.cell? ⟨w.heap.size, 3, none⟩ = some (.int .i64 e0.rd) ∧ w'.cell? ⟨w.heap.size, 4, none⟩ = some (.int .i64 e0.rs1) ∧ w'.cell? ⟨w.heap.size, 5, none⟩ = some (.int .i64 e0.rs2) ∧ w'.cell? ⟨w.heap.size, 6, none⟩ = some (.int .u32 e0.imm) ∧ w'.cell? ⟨w.heap.size, 12, none⟩ = some (.int .u32 ad)) (go_keep)
      (first
        | (go_at_call 34; refine (cs _).mono ?_; rintro e w3 ⟨rfl, b3⟩; have u2 : w3.cell? ⟨w.heap.size, 2, none⟩ = some (.int .i64 e0.op) := ((S2.kept (below_drew w2)).kept b3).m.c 2 _ rfl; have u3 : w3.cell? ⟨w.heap.size, 3, none⟩ = some (.int .i64 e0.rd) := ((S2.kept (below_drew w2)).kept b3).m.c 3 _ rfl; have u4 : w3.cell? ⟨w.heap.size, 4, none⟩ = some (.int .i64 e0.rs1) := ((S2.kept (below_drew w2)).kept b3).m.c 4 _ rfl; have u5 : w3.cell? ⟨w.heap.size, 5, none⟩ = some (.int .i64 e0.rs2) := ((S2.kept (below_drew w2)).kept b3).m.c 5 _ rfl; have u6 : w3.cell? ⟨w.heap.size, 6, none⟩ = some (.int .u32 e0.imm) := ((S2.kept (below_drew w2)).kept b3).m.c 6 _ rfl; have u12 : w3.cell? ⟨w.heap.size, 12, none⟩ = some (.int .u32 ad) := ((S2.kept (below_drew w2)).kept b3).m.c 12 _ rfl)
        | (go_at_call 33; refine (cr _).mono ?_; rintro e w4 ⟨rfl, rfl⟩))) | fail
    have S3 := (S2.kept (below_drew w2)).kept b3
    clear S2 b3 c2 c3 c4 c5 c6 c12 u2 u3 u4 u5 u6 u12
    cases rt with
    | true =>
      have he : Hid (r = { e0 with addr := (ad : Int), known := true }) := by show _ = _; rw [HR.out, if_pos rfl]
      have c15 : w3.cell? ⟨w.heap.size, 15, none⟩ = some (.bool e0.known) := S3.m.c 15 _ rfl
      have g15 := S3.m.g 15
      go_upto_region 7 with (fail)
      have S4 := S3.set (e' := { e0 with addr := (ad : Int), known := true }) 15 (.bool true) (by omega) rfl
      clear S3 c15 g15
      generalize w3.setCell _ _ = w4 at *
      refine wp_region_lit ?_
      refine wpList_load_mid rfl 26 (.tmp 3) rfl w.heap.size 0 rfl (En.cells { e0 with addr := (ad : Int), known := true }) _ (En.range S4.m) Try.underlying26 rfl (by kernel_rfl) ?_
      refine wpList_store_mid rfl 26 (.tmp 6) (.tmp 41) rfl (w.heap.size + 1) 0 (En.cells { e0 with addr := (ad : Int), known := true }).toArray rfl rfl (En.there S4.z rfl) (by kernel_rfl) (en_one _) ?_
      have hL := run_loadVar_mid (P := Try.prog) (w4.setCells (w.heap.size + 1) 0 (En.cells { e0 with addr := (ad : Int), known := true })) (w.heap.size + 1) 0 26 (En.cells { e0 with addr := (ad : Int), known := true }) _ (World.rangeAt_setCells_same w4 (w.heap.size + 1) 0 (En.cells { e0 with addr := (ad : Int), known := true }) (En.there S4.z rfl)) Try.underlying26 rfl (by kernel_rfl)
      have hbz := setCells_below (w.heap.size + 1) (En.cells { e0 with addr := (ad : Int), known := true }) 0 w4 S4.b (Nat.le_succ _)
      clear S4
      simp only [Act.put, List.setIfInBounds_toArray, List.set_cons_zero, List.set_cons_succ]
      go_wp2_with fail
      refine bodyPost_ret (v := .agg (En.cells { e0 with addr := (ad : Int), known := true }).toArray) (by simp [results, Try.results13, asAddr, hL]; done) rfl ?_
      exact ⟨by rw [he.out]; rfl, hbz⟩
    | false =>
      have he : Hid (r = { e0 with addr := (ad : Int), halt := 5, is := 3 }) := by show _ = _; rw [HR.out, if_neg (by decide)]; rfl
      have c13 : w3.cell? ⟨w.heap.size, 13, none⟩ = some (.int .i64 e0.halt) := S3.m.c 13 _ rfl
      have g13 := S3.m.g 13
      go_upto_region 9 with (fail)
      have S4 := S3.set (e' := { e0 with addr := (ad : Int), halt := 4 }) 13 (.int .i64 4) (by omega) rfl
      clear S3 c13 g13
      generalize w3.setCell _ _ = w4 at *
      have c13 : w4.cell? ⟨w.heap.size, 13, none⟩ = some (.int .i64 4) := S4.m.c 13 _ rfl
      have g13 := S4.m.g 13
      go_upto_region 11 with (fail)
      have S5 := S4.set (e' := { e0 with addr := (ad : Int), halt := 5 }) 13 (.int .i64 5) (by omega) rfl
      clear S4 c13 g13
      generalize w4.setCell _ _ = w5 at *
      have c8 : w5.cell? ⟨w.heap.size, 8, none⟩ = some (.int .i64 e0.is) := S5.m.c 8 _ rfl
      have g8 := S5.m.g 8
      go_upto_region 12 with (fail)
      have S6 := S5.set (e' := { e0 with addr := (ad : Int), halt := 5, is := 3 }) 8 (.int .i64 3) (by omega) rfl
      clear S5 c8 g8
      generalize w5.setCell _ _ = w6 at *
      refine wp_region_lit ?_
      refine wpList_load_mid rfl 26 (.tmp 3) rfl w.heap.size 0 rfl (En.cells { e0 with addr := (ad : Int), halt := 5, is := 3 }) _ (En.range S6.m) Try.underlying26 rfl (by kernel_rfl) ?_
      refine wpList_store_mid rfl 26 (.tmp 6) (.tmp 47) rfl (w.heap.size + 1) 0 (En.cells { e0 with addr := (ad : Int), halt := 5, is := 3 }).toArray rfl rfl (En.there S6.z rfl) (by kernel_rfl) (en_one _) ?_
      have hL := run_loadVar_mid (P := Try.prog) (w6.setCells (w.heap.size + 1) 0 (En.cells { e0 with addr := (ad : Int), halt := 5, is := 3 })) (w.heap.size + 1) 0 26 (En.cells { e0 with addr := (ad : Int), halt := 5, is := 3 }) _ (World.rangeAt_setCells_same w6 (w.heap.size + 1) 0 (En.cells { e0 with addr := (ad : Int), halt := 5, is := 3 }) (En.there S6.z rfl)) Try.underlying26 rfl (by kernel_rfl)
      have hbz := setCells_below (w.heap.size + 1) (En.cells { e0 with addr := (ad : Int), halt := 5, is := 3 }) 0 w6 S6.b (Nat.le_succ _)
      clear S6
      simp only [Act.put, List.setIfInBounds_toArray, List.set_cons_zero, List.set_cons_succ]
      go_wp2_with fail
      refine bodyPost_ret (v := .agg (En.cells { e0 with addr := (ad : Int), halt := 5, is := 3 }).toArray) (by simp [results, Try.results13, asAddr, hL]; done) rfl ?_
      exact ⟨by rw [he.out]; rfl, hbz⟩

theorem addr_any (e0 : En) (size : Int) (a : Nat) (w : World) (hs : size < 9223372036854775808) :
    Calls Try.prog 13 #[.agg #[.int .i64 e0.no, .int .u32 e0.pc, .int .i64 e0.op, .int .i64 e0.rd, .int .i64 e0.rs1, .int .i64 e0.rs2, .int .u32 e0.imm, .int .u32 e0.guess, .int .i64 e0.is, .int .i64 e0.left, .int .u32 e0.value, .int .u32 e0.next, .int .u32 e0.addr, .int .i64 e0.halt, .int .i64 e0.took, .bool e0.known, .bool e0.filled], .int .i64 size, .int .u32 a] w fun e w' => e = .returned (.agg #[.int .i64 (addrP e0 size a).no, .int .u32 (addrP e0 size a).pc, .int .i64 (addrP e0 size a).op, .int .i64 (addrP e0 size a).rd, .int .i64 (addrP e0 size a).rs1, .int .i64 (addrP e0 size a).rs2, .int .u32 (addrP e0 size a).imm, .int .u32 (addrP e0 size a).guess, .int .i64 (addrP e0 size a).is, .int .i64 (addrP e0 size a).left, .int .u32 (addrP e0 size a).value, .int .u32 (addrP e0 size a).next, .int .u32 (addrP e0 size a).addr, .int .i64 (addrP e0 size a).halt, .int .i64 (addrP e0 size a).took, .bool (addrP e0 size a).known, .bool (addrP e0 size a).filled]) ∧ Below w.heap.size w w' := by
  by_cases h : (kindOf e0.op ≠ 3 ∧ kindOf e0.op ≠ 4) ∨ e0.is ≠ 0 ∨ e0.known = true
  · have hv : addrP e0 size a = e0 := by unfold addrP; rw [if_pos h]
    rw [hv]
    exact addr_early e0 size a w h
  · have h1 : kindOf e0.op = 3 ∨ kindOf e0.op = 4 := by
      by_cases q3 : kindOf e0.op = 3
      · exact .inl q3
      · by_cases q4 : kindOf e0.op = 4
        · exact .inr q4
        · exact absurd (.inl ⟨q3, q4⟩) h
    have h2 : e0.known = false := by
      rcases Bool.eq_false_or_eq_true e0.known with q | q
      · exact absurd (.inr (.inr q)) h
      · exact q
    have h3 : e0.is = 0 := Classical.byContradiction fun q => h (.inr (.inl q))
    refine addr_late e0 size a w _ rfl h1 h2 (by simpa using h3) hs _ ?_
    unfold addrP
    rw [if_neg h]
end Go.Proofs.Ytckjihpdjefpgaa
