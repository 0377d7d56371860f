/- The law InstClean: what a word's instruction does not read or write is 0; loads and stores have a size (printed by wip/bin/cleangen.py). -/
import Derived.Test.YtaimbclbpoelgaaDoorBits
import Derived.Test.YtaimbclbpoelgaaDoorMine
import Derived.Test.YtaimbclbpoelgaaDoorInst6
import Derived.Test.YtaimbclbpoelgaaDoorLaw02
import Derived.Deep.DeepCutAuto
import Derived.Deep.RegionHeld3
namespace Go.Proofs.YtaimbclbpoelgaaDoor
open Go.RowKit

theorem below_drew' (w : World) : Below w.heap.size w w.drew := below_draws w 1
def cleanRow (k : Nat) : Bool :=
  (kindOf k == 3 && (decide (0 < sizeOf' k) && formOf k == 2)) || ((kindOf k == 4 && (decide (0 < sizeOf' k) && formOf k == 4)) || ((kindOf k == 6 && (sizeOf' k == 0 && formOf k == 8)) || ((kindOf k == 1 && (sizeOf' k == 0 && formOf k == 1)) ||
    ((kindOf k == 2 && (sizeOf' k == 0 && formOf k == 1)) || ((kindOf k == 0 && sizeOf' k == 0) || (kindOf k == 5 && sizeOf' k == 0))))))
theorem clean_rows : ∀ k : Nat, k < 49 → 1 ≤ k → cleanRow k = true := by decide
theorem clean_tab (k : Nat) (h1 : k < 49) (h2 : 1 ≤ k) : (kindOf k = 3 ∧ 0 < sizeOf' k ∧ formOf k = 2) ∨ (kindOf k = 4 ∧ 0 < sizeOf' k ∧ formOf k = 4) ∨ (kindOf k = 6 ∧ sizeOf' k = 0 ∧ formOf k = 8) ∨ (kindOf k = 1 ∧ sizeOf' k = 0 ∧ formOf k = 1) ∨ (kindOf k = 2 ∧ sizeOf' k = 0 ∧ formOf k = 1) ∨ (kindOf k = 0 ∧ sizeOf' k = 0) ∨ (kindOf k = 5 ∧ sizeOf' k = 0) := by
  have h := clean_rows k h1 h2
  simp only [cleanRow, Bool.or_eq_true, Bool.and_eq_true, beq_iff_eq, decide_eq_true_eq] at h
  exact h
theorem reg_bound (b : Bool) (x a : Nat) : 0 ≤ (if b = true then ((field x a 5 : Nat) : Int) else 0) ∧ (if b = true then ((field x a 5 : Nat) : Int) else 0) ≤ 31 := by
  have := field_lt x a 5
  split <;> omega

theorem in_any (n : Int) (w : World) (h1 : 0 ≤ n) (h2 : n ≤ 31) : Calls Tryd.prog 16 #[.int .i64 n] w fun e w' => e = .returned (.bool true) ∧ w = w' := by
  go_enter Tryd.func16, Tryd.ntmps16
  go_wp2
  go_ret
  exact ⟨rfl, rfl⟩

set_option maxRecDepth 100000 in
set_option maxHeartbeats 8000000 in
theorem clean_no (x : Nat) (w : World) (hC : Codes w) (hx : x < 4294967296) (hk : opOf x = 0) : Calls Tryd.prog 9 #[.int .u32 x] w fun e w' => e = .returned (.bool true) ∧ Below w.heap.size w w' := by
  go_enter Tryd.func9, Tryd.ntmps9
  go_wp2_with fail
  refine (decode_no x _ hC hx hk).mono ?_; rintro e w1 ⟨rfl, B1⟩
  go_wp2_with fail
  have hb1 := B1.and (below_all (.cells #[.int .i64 0, .int .i64 0, .int .i64 0, .int .i64 0, .int .u32 0] 24))
  have N1 := Mine.new w1 #[.int .i64 0, .int .i64 0, .int .i64 0, .int .i64 0, .int .u32 0] 24
  refine (alive02 _ (hC.kept hb1)).mono ?_; rintro e w2 ⟨rfl, B2⟩
  have d0 := (N1.kept B2).c 0 _ rfl
  have d1 := (N1.kept B2).c 1 _ rfl
  have d2 := (N1.kept B2).c 2 _ rfl
  have d3 := (N1.kept B2).c 3 _ rfl
  have d4 := (N1.kept B2).c 4 _ rfl
  go_wp2_with fail
  go_ret
  exact ⟨rfl, hb1.and B2⟩

set_option maxRecDepth 100000 in
set_option maxHeartbeats 8000000 in
theorem clean_3 (x : Nat) (o rd rs1 : Int) (imm : Nat) (sz : Nat) (rda : 0 ≤ rd) (rdb : rd ≤ 31) (rs1a : 0 ≤ rs1) (rs1b : rs1 ≤ 31) (hs : 0 < sz) (w : World) (hC : Codes w)
    (c1 : ∀ w, Codes w → Calls Tryd.prog 10 #[.int .u32 x] w fun e w' => e = .returned (.tuple #[.agg #[.int .i64 o, .int .i64 rd, .int .i64 rs1, .int .i64 0, .int .u32 imm], .int .i64 0]) ∧ Below w.heap.size w w')
    (ck : ∀ w, Calls Tryd.prog 13 #[.agg #[.int .i64 o, .int .i64 rd, .int .i64 rs1, .int .i64 0, .int .u32 imm]] w fun e w' => e = .returned (.int .i64 3) ∧ Below w.heap.size w w')
    (cs : ∀ w, Calls Tryd.prog 17 #[.agg #[.int .i64 o, .int .i64 rd, .int .i64 rs1, .int .i64 0, .int .u32 imm]] w fun e w' => e = .returned (.int .i64 sz) ∧ Below w.heap.size w w')
    (cw : ∀ w, Calls Tryd.prog 14 #[.agg #[.int .i64 o, .int .i64 rd, .int .i64 rs1, .int .i64 0, .int .u32 imm]] w fun e w' => e = .returned (.int .i64 rd) ∧ Below w.heap.size w w') :
    Calls Tryd.prog 9 #[.int .u32 x] w fun e w' => e = .returned (.bool true) ∧ Below w.heap.size w w' := by
  have hsz : decide ((0 : Int) < sz) = true := by simp; omega
  go_enter Tryd.func9, Tryd.ntmps9
  go_wp2_with fail
  refine (c1 _ hC).mono ?_; rintro e w1 ⟨rfl, B1⟩
  go_upto_region 4 with (fail)
  have hb2 := B1.and (below_all (.cells #[.int .i64 o, .int .i64 rd, .int .i64 rs1, .int .i64 0, .int .u32 imm] 24))
  have N2 := Mine.new w1 #[.int .i64 o, .int .i64 rd, .int .i64 rs1, .int .i64 0, .int .u32 imm] 24
  generalize w1.alloc _ = w2 at *
  generalize w1.heap.size = b1 at *
  have c0 := N2.c 0 _ rfl
  have c1 := N2.c 1 _ rfl
  have c2 := N2.c 2 _ rfl
  have c3 := N2.c 3 _ rfl
  have c4 := N2.c 4 _ rfl
  go_wp2_with fail
  refine (ck _).mono ?_; rintro e w3 ⟨rfl, B3⟩
  have hb3 := hb2.and B3
  have N3 := N2.kept B3
  clear c0 c1 c2 c3 c4 N2 B3 hb2
  have c0 := N3.c 0 _ rfl
  have c1 := N3.c 1 _ rfl
  have c2 := N3.c 2 _ rfl
  have c3 := N3.c 3 _ rfl
  have c4 := N3.c 4 _ rfl
  go_upto_region 9 with (first | (go_at_call 16; refine (in_any _ _ (by first | assumption | decide) (by first | assumption | decide)).mono ?_; rintro e w' ⟨rfl, rfl⟩) | (go_at_call 17; refine (cs _).mono ?_; rintro e w5 ⟨rfl, B5⟩; have e0 := (N3.kept B5).c 0 _ rfl; have e1 := (N3.kept B5).c 1 _ rfl; have e2 := (N3.kept B5).c 2 _ rfl; have e3 := (N3.kept B5).c 3 _ rfl; have e4 := (N3.kept B5).c 4 _ rfl))
  have hb5 := hb3.and B5
  have N5 := N3.kept B5
  clear c0 c1 c2 c3 c4 N3 B5 hb3

  refine wp_region_held_drew (S := fun w' => w'.cell? ⟨b1, 0, none⟩ = some (.int .i64 o) ∧ w'.cell? ⟨b1, 1, none⟩ = some (.int .i64 rd) ∧ w'.cell? ⟨b1, 2, none⟩ = some (.int .i64 rs1) ∧ w'.cell? ⟨b1, 3, none⟩ = some (.int .i64 0) ∧ w'.cell? ⟨b1, 4, none⟩ = some (.int .u32 imm)) (by kernel_rfl) ⟨N5.drew.c 0 _ rfl, N5.drew.c 1 _ rfl, N5.drew.c 2 _ rfl, N5.drew.c 3 _ rfl, N5.drew.c 4 _ rfl⟩ (fun hS => ?_)
  refine wpAnyH_ready (rs := [0]) (by kernel_rfl) (by simp) ?_
  refine AllReadyH.cons (o := { dst := some 73, op := Op.call { callee := Callee.value (Operand.func 12), args := #[], argTypes := #[] }, type := 4, pos := "law.go:75", after := #[], guard := none }) rfl (fun K hK => ?_) AllReadyH.nil
  go_simp
  (go_at_call 12; refine (alive02 _ (hC.kept (hb5.and (below_drew' _)))).mono ?_; rintro e w6 ⟨rfl, B6⟩)
  (try dsimp only)
  refine hK.out _ _ (by (try dsimp only); exact ⟨(N5.drew.kept B6).c 0 _ rfl, (N5.drew.kept B6).c 1 _ rfl, (N5.drew.kept B6).c 2 _ rfl, (N5.drew.kept B6).c 3 _ rfl, (N5.drew.kept B6).c 4 _ rfl⟩) (fun hS => ?_)
  clear hK
  (try simp only [Act.put, List.setIfInBounds_toArray, List.set_cons_zero, List.set_cons_succ])
  refine wpAnyH_take (i := 1) (oi := { dst := some 74, op := Op.move (Operand.tmp 73), type := 4, pos := "law.go:75", after := #[{ on := 0, ground := Ground.data }, { on := 0, ground := Ground.chain }], guard := none }) (v := ?_) rfl (by kernel_rfl) (by kernel_rfl) (by kernel_rfl) (fun _ _ _ h => h) (Or.inl ⟨by rfl, fun w hSw => ?hy1⟩) (by assumption) ?rest1
  case hy1 =>
    (try dsimp only at hSw)
    go_simp
    (try with_reducible rfl)
  (try simp only [Act.put, List.setIfInBounds_toArray, List.set_cons_zero, List.set_cons_succ])
  refine wpAnyH_take (i := 2) (oi := { dst := some 75, op := Op.move (Operand.tmp 6), type := 3, pos := "law.go:75", after := #[{ on := 1, ground := Ground.guard }], guard := some (1, true) }) (v := ?_) rfl (by kernel_rfl) (by kernel_rfl) (by kernel_rfl) (fun _ _ _ h => h) (Or.inl ⟨by rfl, fun w hSw => ?hy2⟩) (by assumption) ?rest2
  case hy2 =>
    (try dsimp only at hSw)
    go_simp
    (try with_reducible rfl)
  (try simp only [Act.put, List.setIfInBounds_toArray, List.set_cons_zero, List.set_cons_succ])
  refine wpAnyH_take (i := 3) (oi := { dst := some 76, op := Op.binOp BinOp.neq 3 (Operand.tmp 75) (Operand.const (Value.int IntKind.i64 6)) 3, type := 4, pos := "law.go:75", after := #[{ on := 2, ground := Ground.data }, { on := 1, ground := Ground.guard }], guard := some (1, true) }) (v := ?_) rfl (by kernel_rfl) (by kernel_rfl) (by kernel_rfl) (fun _ _ _ h => h) (Or.inl ⟨by rfl, fun w hSw => ?hy3⟩) (by assumption) ?rest3
  case hy3 =>
    (try dsimp only at hSw)
    go_simp
    (try with_reducible rfl)
  (try simp only [Act.put, List.setIfInBounds_toArray, List.set_cons_zero, List.set_cons_succ])
  refine wpAnyH_take (i := 4) (oi := { dst := some 77, op := Op.move (Operand.tmp 76), type := 4, pos := "law.go:75", after := #[{ on := 3, ground := Ground.data }, { on := 1, ground := Ground.chain }, { on := 1, ground := Ground.guard }], guard := some (1, true) }) (v := ?_) rfl (by kernel_rfl) (by kernel_rfl) (by kernel_rfl) (fun _ _ _ h => h) (Or.inl ⟨by rfl, fun w hSw => ?hy4⟩) (by assumption) ?rest4
  case hy4 =>
    (try dsimp only at hSw)
    go_simp
    (try with_reducible rfl)
  (try simp only [Act.put, List.setIfInBounds_toArray, List.set_cons_zero, List.set_cons_succ])
  refine wpAnyH_take (i := 5) (oi := { dst := some 78, op := Op.load 24 (Operand.tmp 3), type := 24, pos := "law.go:75", after := #[{ on := 4, ground := Ground.guard }], guard := some (4, false) }) (v := undef) rfl (by kernel_rfl) (by kernel_rfl) (by kernel_rfl) (fun _ _ _ h => h) (Or.inr ⟨by rfl, rfl⟩) (by assumption) ?_
  (try simp only [Act.put, List.setIfInBounds_toArray, List.set_cons_zero, List.set_cons_succ])
  refine wpAnyH_take (i := 6) (oi := { dst := some 79, op := Op.fieldAddr 24 (Operand.tmp 3) 0, type := 0, pos := "law.go:75", after := #[{ on := 4, ground := Ground.guard }], guard := some (4, false) }) (v := undef) rfl (by kernel_rfl) (by kernel_rfl) (by kernel_rfl) (fun _ _ _ h => h) (Or.inr ⟨by rfl, rfl⟩) (by assumption) ?_
  (try simp only [Act.put, List.setIfInBounds_toArray, List.set_cons_zero, List.set_cons_succ])
  refine wpAnyH_take (i := 7) (oi := { dst := some 80, op := Op.load 3 (Operand.tmp 79), type := 3, pos := "law.go:75", after := #[{ on := 6, ground := Ground.data }, { on := 4, ground := Ground.guard }], guard := some (4, false) }) (v := undef) rfl (by kernel_rfl) (by kernel_rfl) (by kernel_rfl) (fun _ _ _ h => h) (Or.inr ⟨by rfl, rfl⟩) (by assumption) ?_
  (try simp only [Act.put, List.setIfInBounds_toArray, List.set_cons_zero, List.set_cons_succ])
  refine wpAnyH_take (i := 8) (oi := { dst := some 81, op := Op.build 24 #[(0, Operand.tmp 80)], type := 24, pos := "law.go:75", after := #[{ on := 7, ground := Ground.data }, { on := 4, ground := Ground.guard }], guard := some (4, false) }) (v := undef) rfl (by kernel_rfl) (by kernel_rfl) (by kernel_rfl) (fun _ _ _ h => h) (Or.inr ⟨by rfl, rfl⟩) (by assumption) ?_
  (try simp only [Act.put, List.setIfInBounds_toArray, List.set_cons_zero, List.set_cons_succ])
  refine wpAnyH_take (i := 9) (oi := { dst := some 82, op := Op.binOp BinOp.eql 24 (Operand.tmp 78) (Operand.tmp 81) 24, type := 4, pos := "law.go:75", after := #[{ on := 5, ground := Ground.data }, { on := 8, ground := Ground.data }, { on := 4, ground := Ground.guard }], guard := some (4, false) }) (v := undef) rfl (by kernel_rfl) (by kernel_rfl) (by kernel_rfl) (fun _ _ _ h => h) (Or.inr ⟨by rfl, rfl⟩) (by assumption) ?_
  (try simp only [Act.put, List.setIfInBounds_toArray, List.set_cons_zero, List.set_cons_succ])
  refine wpAnyH_take (i := 10) (oi := { dst := some 83, op := Op.pick (Operand.tmp 77) (Operand.const (Value.bool true)) (Operand.tmp 82), type := 4, pos := "law.go:75", after := #[{ on := 4, ground := Ground.data }, { on := 9, ground := Ground.data }, { on := 1, ground := Ground.guard }], guard := some (1, true) }) (v := ?_) rfl (by kernel_rfl) (by kernel_rfl) (by kernel_rfl) (fun _ _ _ h => h) (Or.inl ⟨by rfl, fun w hSw => ?hy10⟩) (by assumption) ?rest10
  case hy10 =>
    (try dsimp only at hSw)
    go_simp
    (try with_reducible rfl)
  (try simp only [Act.put, List.setIfInBounds_toArray, List.set_cons_zero, List.set_cons_succ])
  refine wpAnyH_take (i := 11) (oi := { dst := some 84, op := Op.pick (Operand.tmp 74) (Operand.tmp 83) (Operand.const (Value.bool false)), type := 4, pos := "law.go:75", after := #[{ on := 1, ground := Ground.data }, { on := 10, ground := Ground.data }], guard := none }) (v := ?_) rfl (by kernel_rfl) (by kernel_rfl) (by kernel_rfl) (fun _ _ _ h => h) (Or.inl ⟨by rfl, fun w hSw => ?hy11⟩) (by assumption) ?rest11
  case hy11 =>
    (try dsimp only at hSw)
    go_simp
    (try with_reducible rfl)
  (try simp only [Act.put, List.setIfInBounds_toArray, List.set_cons_zero, List.set_cons_succ])
  refine wpAnyH_take (i := 12) (oi := { dst := some 85, op := Op.move (Operand.tmp 84), type := 4, pos := "law.go:75", after := #[{ on := 11, ground := Ground.data }, { on := 4, ground := Ground.chain }], guard := none }) (v := ?_) rfl (by kernel_rfl) (by kernel_rfl) (by kernel_rfl) (fun _ _ _ h => h) (Or.inl ⟨by rfl, fun w hSw => ?hy12⟩) (by assumption) ?rest12
  case hy12 =>
    (try dsimp only at hSw)
    go_simp
    (try with_reducible rfl)
  (try simp only [Act.put, List.setIfInBounds_toArray, List.set_cons_zero, List.set_cons_succ])
  refine wpAnyH_take (i := 13) (oi := { dst := some 86, op := Op.move (Operand.tmp 6), type := 3, pos := "law.go:75", after := #[{ on := 12, ground := Ground.guard }], guard := some (12, true) }) (v := ?_) rfl (by kernel_rfl) (by kernel_rfl) (by kernel_rfl) (fun _ _ _ h => h) (Or.inl ⟨by rfl, fun w hSw => ?hy13⟩) (by assumption) ?rest13
  case hy13 =>
    (try dsimp only at hSw)
    go_simp
    (try with_reducible rfl)
  (try simp only [Act.put, List.setIfInBounds_toArray, List.set_cons_zero, List.set_cons_succ])
  refine wpAnyH_take (i := 14) (oi := { dst := some 87, op := Op.binOp BinOp.neq 3 (Operand.tmp 86) (Operand.const (Value.int IntKind.i64 1)) 3, type := 4, pos := "law.go:75", after := #[{ on := 13, ground := Ground.data }, { on := 12, ground := Ground.guard }], guard := some (12, true) }) (v := ?_) rfl (by kernel_rfl) (by kernel_rfl) (by kernel_rfl) (fun _ _ _ h => h) (Or.inl ⟨by rfl, fun w hSw => ?hy14⟩) (by assumption) ?rest14
  case hy14 =>
    (try dsimp only at hSw)
    go_simp
    (try with_reducible rfl)
  (try simp only [Act.put, List.setIfInBounds_toArray, List.set_cons_zero, List.set_cons_succ])
  refine wpAnyH_take (i := 15) (oi := { dst := some 88, op := Op.move (Operand.tmp 87), type := 4, pos := "law.go:75", after := #[{ on := 14, ground := Ground.data }, { on := 12, ground := Ground.chain }, { on := 12, ground := Ground.guard }], guard := some (12, true) }) (v := ?_) rfl (by kernel_rfl) (by kernel_rfl) (by kernel_rfl) (fun _ _ _ h => h) (Or.inl ⟨by rfl, fun w hSw => ?hy15⟩) (by assumption) ?rest15
  case hy15 =>
    (try dsimp only at hSw)
    go_simp
    (try with_reducible rfl)
  (try simp only [Act.put, List.setIfInBounds_toArray, List.set_cons_zero, List.set_cons_succ])
  refine wpAnyH_take (i := 16) (oi := { dst := some 89, op := Op.move (Operand.tmp 6), type := 3, pos := "law.go:75", after := #[{ on := 15, ground := Ground.guard }], guard := some (15, true) }) (v := ?_) rfl (by kernel_rfl) (by kernel_rfl) (by kernel_rfl) (fun _ _ _ h => h) (Or.inl ⟨by rfl, fun w hSw => ?hy16⟩) (by assumption) ?rest16
  case hy16 =>
    (try dsimp only at hSw)
    go_simp
    (try with_reducible rfl)
  (try simp only [Act.put, List.setIfInBounds_toArray, List.set_cons_zero, List.set_cons_succ])
  refine wpAnyH_take (i := 17) (oi := { dst := some 90, op := Op.binOp BinOp.neq 3 (Operand.tmp 89) (Operand.const (Value.int IntKind.i64 2)) 3, type := 4, pos := "law.go:75", after := #[{ on := 16, ground := Ground.data }, { on := 15, ground := Ground.guard }], guard := some (15, true) }) (v := ?_) rfl (by kernel_rfl) (by kernel_rfl) (by kernel_rfl) (fun _ _ _ h => h) (Or.inl ⟨by rfl, fun w hSw => ?hy17⟩) (by assumption) ?rest17
  case hy17 =>
    (try dsimp only at hSw)
    go_simp
    (try with_reducible rfl)
  (try simp only [Act.put, List.setIfInBounds_toArray, List.set_cons_zero, List.set_cons_succ])
  refine wpAnyH_take (i := 18) (oi := { dst := some 91, op := Op.pick (Operand.tmp 88) (Operand.tmp 90) (Operand.const (Value.bool false)), type := 4, pos := "law.go:75", after := #[{ on := 15, ground := Ground.data }, { on := 17, ground := Ground.data }, { on := 12, ground := Ground.guard }], guard := some (12, true) }) (v := ?_) rfl (by kernel_rfl) (by kernel_rfl) (by kernel_rfl) (fun _ _ _ h => h) (Or.inl ⟨by rfl, fun w hSw => ?hy18⟩) (by assumption) ?rest18
  case hy18 =>
    (try dsimp only at hSw)
    go_simp
    (try with_reducible rfl)
  (try simp only [Act.put, List.setIfInBounds_toArray, List.set_cons_zero, List.set_cons_succ])
  refine wpAnyH_take (i := 19) (oi := { dst := some 92, op := Op.move (Operand.tmp 91), type := 4, pos := "law.go:75", after := #[{ on := 18, ground := Ground.data }, { on := 15, ground := Ground.chain }, { on := 12, ground := Ground.guard }], guard := some (12, true) }) (v := ?_) rfl (by kernel_rfl) (by kernel_rfl) (by kernel_rfl) (fun _ _ _ h => h) (Or.inl ⟨by rfl, fun w hSw => ?hy19⟩) (by assumption) ?rest19
  case hy19 =>
    (try dsimp only at hSw)
    go_simp
    (try with_reducible rfl)
  (try simp only [Act.put, List.setIfInBounds_toArray, List.set_cons_zero, List.set_cons_succ])
  refine wpAnyH_take (i := 20) (oi := { dst := some 93, op := Op.fieldAddr 24 (Operand.tmp 3) 4, type := 0, pos := "law.go:75", after := #[{ on := 19, ground := Ground.guard }], guard := some (19, false) }) (v := undef) rfl (by kernel_rfl) (by kernel_rfl) (by kernel_rfl) (fun _ _ _ h => h) (Or.inr ⟨by rfl, rfl⟩) (by assumption) ?_
  (try simp only [Act.put, List.setIfInBounds_toArray, List.set_cons_zero, List.set_cons_succ])
  refine wpAnyH_take (i := 21) (oi := { dst := some 94, op := Op.load 22 (Operand.tmp 93), type := 22, pos := "law.go:75", after := #[{ on := 20, ground := Ground.data }, { on := 19, ground := Ground.guard }], guard := some (19, false) }) (v := undef) rfl (by kernel_rfl) (by kernel_rfl) (by kernel_rfl) (fun _ _ _ h => h) (Or.inr ⟨by rfl, rfl⟩) (by assumption) ?_
  (try simp only [Act.put, List.setIfInBounds_toArray, List.set_cons_zero, List.set_cons_succ])
  refine wpAnyH_take (i := 22) (oi := { dst := some 95, op := Op.binOp BinOp.eql 22 (Operand.tmp 94) (Operand.const (Value.int IntKind.u32 0)) 22, type := 4, pos := "law.go:75", after := #[{ on := 21, ground := Ground.data }, { on := 19, ground := Ground.guard }], guard := some (19, false) }) (v := undef) rfl (by kernel_rfl) (by kernel_rfl) (by kernel_rfl) (fun _ _ _ h => h) (Or.inr ⟨by rfl, rfl⟩) (by assumption) ?_
  (try simp only [Act.put, List.setIfInBounds_toArray, List.set_cons_zero, List.set_cons_succ])
  refine wpAnyH_take (i := 23) (oi := { dst := some 96, op := Op.pick (Operand.tmp 92) (Operand.const (Value.bool true)) (Operand.tmp 95), type := 4, pos := "law.go:75", after := #[{ on := 19, ground := Ground.data }, { on := 22, ground := Ground.data }, { on := 12, ground := Ground.guard }], guard := some (12, true) }) (v := ?_) rfl (by kernel_rfl) (by kernel_rfl) (by kernel_rfl) (fun _ _ _ h => h) (Or.inl ⟨by rfl, fun w hSw => ?hy23⟩) (by assumption) ?rest23
  case hy23 =>
    (try dsimp only at hSw)
    go_simp
    (try with_reducible rfl)
  (try simp only [Act.put, List.setIfInBounds_toArray, List.set_cons_zero, List.set_cons_succ])
  refine wpAnyH_take (i := 24) (oi := { dst := some 97, op := Op.pick (Operand.tmp 85) (Operand.tmp 96) (Operand.const (Value.bool false)), type := 4, pos := "law.go:75", after := #[{ on := 12, ground := Ground.data }, { on := 23, ground := Ground.data }], guard := none }) (v := ?_) rfl (by kernel_rfl) (by kernel_rfl) (by kernel_rfl) (fun _ _ _ h => h) (Or.inl ⟨by rfl, fun w hSw => ?hy24⟩) (by assumption) ?rest24
  case hy24 =>
    (try dsimp only at hSw)
    go_simp
    (try with_reducible rfl)
  (try simp only [Act.put, List.setIfInBounds_toArray, List.set_cons_zero, List.set_cons_succ])
  refine wpAnyH_take (i := 25) (oi := { dst := some 98, op := Op.move (Operand.tmp 97), type := 4, pos := "law.go:75", after := #[{ on := 24, ground := Ground.data }, { on := 19, ground := Ground.chain }], guard := none }) (v := ?_) rfl (by kernel_rfl) (by kernel_rfl) (by kernel_rfl) (fun _ _ _ h => h) (Or.inl ⟨by rfl, fun w hSw => ?hy25⟩) (by assumption) ?rest25
  case hy25 =>
    (try dsimp only at hSw)
    go_simp
    (try with_reducible rfl)
  (try simp only [Act.put, List.setIfInBounds_toArray, List.set_cons_zero, List.set_cons_succ])
  refine wpAnyH_take (i := 26) (oi := { dst := some 99, op := Op.load 24 (Operand.tmp 3), type := 24, pos := "law.go:75", after := #[{ on := 25, ground := Ground.guard }], guard := some (25, true) }) (v := ?_) rfl (by kernel_rfl) (by kernel_rfl) (by kernel_rfl) (fun _ _ _ h => h) (Or.inl ⟨by rfl, fun w hSw => ?hy26⟩) (by assumption) ?rest26
  case hy26 =>
    (try dsimp only at hSw)
    go_simp
    (try with_reducible rfl)
  (try simp only [Act.put, List.setIfInBounds_toArray, List.set_cons_zero, List.set_cons_succ])
  refine wpAnyH_take (i := 28) (oi := { dst := some 101, op := Op.fieldAddr 24 (Operand.tmp 3) 1, type := 0, pos := "law.go:75", after := #[{ on := 25, ground := Ground.guard }], guard := some (25, true) }) (v := ?_) rfl (by kernel_rfl) (by kernel_rfl) (by kernel_rfl) (fun _ _ _ h => h) (Or.inl ⟨by rfl, fun w hSw => ?hy28⟩) (by assumption) ?rest28
  case hy28 =>
    (try dsimp only at hSw)
    go_simp
    (try with_reducible rfl)
  (try simp only [Act.put, List.setIfInBounds_toArray, List.set_cons_zero, List.set_cons_succ])
  refine wpAnyH_take (i := 29) (oi := { dst := some 102, op := Op.load 3 (Operand.tmp 101), type := 3, pos := "law.go:75", after := #[{ on := 28, ground := Ground.data }, { on := 25, ground := Ground.guard }], guard := some (25, true) }) (v := ?_) rfl (by kernel_rfl) (by kernel_rfl) (by kernel_rfl) (fun _ _ _ h => h) (Or.inl ⟨by rfl, fun w hSw => ?hy29⟩) (by assumption) ?rest29
  case hy29 =>
    (try dsimp only at hSw)
    go_simp
    (try with_reducible rfl)
  (try simp only [Act.put, List.setIfInBounds_toArray, List.set_cons_zero, List.set_cons_succ])
  refine wpAnyH_ready (rs := [27]) (by kernel_rfl) (by simp) ?_
  refine AllReadyH.cons (o := { dst := some 100, op := Op.call { callee := Callee.value (Operand.func 14), args := #[Operand.tmp 99], argTypes := #[24] }, type := 3, pos := "law.go:75", after := #[{ on := 26, ground := Ground.data }, { on := 25, ground := Ground.chain }, { on := 25, ground := Ground.guard }], guard := some (25, true) }) rfl (fun K hK => ?_) AllReadyH.nil
  go_simp
  (go_at_call 14; refine (cw _).mono ?_; rintro e w7 ⟨rfl, B7⟩)
  (try dsimp only)
  refine hK.out _ _ (by (try dsimp only); exact ⟨((N5.drew.kept B6).kept B7).c 0 _ rfl, ((N5.drew.kept B6).kept B7).c 1 _ rfl, ((N5.drew.kept B6).kept B7).c 2 _ rfl, ((N5.drew.kept B6).kept B7).c 3 _ rfl, ((N5.drew.kept B6).kept B7).c 4 _ rfl⟩) (fun hS => ?_)
  clear hK
  (try simp only [Act.put, List.setIfInBounds_toArray, List.set_cons_zero, List.set_cons_succ])
  refine wpAnyH_take (i := 30) (oi := { dst := some 103, op := Op.binOp BinOp.eql 3 (Operand.tmp 100) (Operand.tmp 102) 3, type := 4, pos := "law.go:75", after := #[{ on := 27, ground := Ground.data }, { on := 29, ground := Ground.data }, { on := 25, ground := Ground.guard }], guard := some (25, true) }) (v := ?_) rfl (by kernel_rfl) (by kernel_rfl) (by kernel_rfl) (fun _ _ _ h => h) (Or.inl ⟨by rfl, fun w hSw => ?hy30⟩) (by assumption) ?rest30
  case hy30 =>
    (try dsimp only at hSw)
    go_simp
    (try with_reducible rfl)
  (try simp only [Act.put, List.setIfInBounds_toArray, List.set_cons_zero, List.set_cons_succ])
  refine wpAnyH_take (i := 31) (oi := { dst := some 104, op := Op.pick (Operand.tmp 98) (Operand.tmp 103) (Operand.const (Value.bool false)), type := 4, pos := "law.go:75", after := #[{ on := 25, ground := Ground.data }, { on := 30, ground := Ground.data }], guard := none }) (v := ?_) rfl (by kernel_rfl) (by kernel_rfl) (by kernel_rfl) (fun _ _ _ h => h) (Or.inl ⟨by rfl, fun w hSw => ?hy31⟩) (by assumption) ?rest31
  case hy31 =>
    (try dsimp only at hSw)
    go_simp
    (try with_reducible rfl)
  (try simp only [Act.put, List.setIfInBounds_toArray, List.set_cons_zero, List.set_cons_succ])
  refine wpAnyH_take (i := 32) (oi := { dst := some 2, op := Op.assign (Operand.tmp 104), type := 4, pos := "law.go:75", after := #[{ on := 31, ground := Ground.data }, { on := 27, ground := Ground.chain }, { on := 0, ground := Ground.phase }, { on := 1, ground := Ground.phase }, { on := 2, ground := Ground.phase }, { on := 3, ground := Ground.phase }, { on := 4, ground := Ground.phase }, { on := 5, ground := Ground.phase }, { on := 6, ground := Ground.phase }, { on := 7, ground := Ground.phase }, { on := 8, ground := Ground.phase }, { on := 9, ground := Ground.phase }, { on := 10, ground := Ground.phase }, { on := 11, ground := Ground.phase }, { on := 12, ground := Ground.phase }, { on := 13, ground := Ground.phase }, { on := 14, ground := Ground.phase }, { on := 15, ground := Ground.phase }, { on := 16, ground := Ground.phase }, { on := 17, ground := Ground.phase }, { on := 18, ground := Ground.phase }, { on := 19, ground := Ground.phase }, { on := 20, ground := Ground.phase }, { on := 21, ground := Ground.phase }, { on := 22, ground := Ground.phase }, { on := 23, ground := Ground.phase }, { on := 24, ground := Ground.phase }, { on := 25, ground := Ground.phase }, { on := 26, ground := Ground.phase }, { on := 27, ground := Ground.phase }, { on := 28, ground := Ground.phase }, { on := 29, ground := Ground.phase }, { on := 30, ground := Ground.phase }, { on := 31, ground := Ground.phase }], guard := none }) (v := ?_) rfl (by kernel_rfl) (by kernel_rfl) (by kernel_rfl) (fun _ _ _ h => h) (Or.inl ⟨by rfl, fun w hSw => ?hy32⟩) (by assumption) ?rest32
  case hy32 =>
    (try dsimp only at hSw)
    go_simp
    (try with_reducible rfl)
  (try simp only [Act.put, List.setIfInBounds_toArray, List.set_cons_zero, List.set_cons_succ])
  refine wpAnyH_done (by kernel_rfl) ?_ _
  have hb7 := ((hb5.and (below_drew' _)).and B6).and B7
  go_wp2_with fail
  go_ret
  exact ⟨rfl, hb7⟩

set_option maxRecDepth 100000 in
set_option maxHeartbeats 8000000 in
theorem clean_4 (x : Nat) (o rs1 rs2 : Int) (imm : Nat) (sz : Nat) (rs1a : 0 ≤ rs1) (rs1b : rs1 ≤ 31) (rs2a : 0 ≤ rs2) (rs2b : rs2 ≤ 31) (hs : 0 < sz) (w : World) (hC : Codes w)
    (c1 : ∀ w, Codes w → Calls Tryd.prog 10 #[.int .u32 x] w fun e w' => e = .returned (.tuple #[.agg #[.int .i64 o, .int .i64 0, .int .i64 rs1, .int .i64 rs2, .int .u32 imm], .int .i64 0]) ∧ Below w.heap.size w w')
    (ck : ∀ w, Calls Tryd.prog 13 #[.agg #[.int .i64 o, .int .i64 0, .int .i64 rs1, .int .i64 rs2, .int .u32 imm]] w fun e w' => e = .returned (.int .i64 4) ∧ Below w.heap.size w w')
    (cs : ∀ w, Calls Tryd.prog 17 #[.agg #[.int .i64 o, .int .i64 0, .int .i64 rs1, .int .i64 rs2, .int .u32 imm]] w fun e w' => e = .returned (.int .i64 sz) ∧ Below w.heap.size w w')
    (cw : ∀ w, Calls Tryd.prog 14 #[.agg #[.int .i64 o, .int .i64 0, .int .i64 rs1, .int .i64 rs2, .int .u32 imm]] w fun e w' => e = .returned (.int .i64 0) ∧ Below w.heap.size w w') :
    Calls Tryd.prog 9 #[.int .u32 x] w fun e w' => e = .returned (.bool true) ∧ Below w.heap.size w w' := by
  have hsz : decide ((0 : Int) < sz) = true := by simp; omega
  go_enter Tryd.func9, Tryd.ntmps9
  go_wp2_with fail
  refine (c1 _ hC).mono ?_; rintro e w1 ⟨rfl, B1⟩
  go_upto_region 4 with (fail)
  have hb2 := B1.and (below_all (.cells #[.int .i64 o, .int .i64 0, .int .i64 rs1, .int .i64 rs2, .int .u32 imm] 24))
  have N2 := Mine.new w1 #[.int .i64 o, .int .i64 0, .int .i64 rs1, .int .i64 rs2, .int .u32 imm] 24
  generalize w1.alloc _ = w2 at *
  generalize w1.heap.size = b1 at *
  have c0 := N2.c 0 _ rfl
  have c1 := N2.c 1 _ rfl
  have c2 := N2.c 2 _ rfl
  have c3 := N2.c 3 _ rfl
  have c4 := N2.c 4 _ rfl
  go_wp2_with fail
  refine (ck _).mono ?_; rintro e w3 ⟨rfl, B3⟩
  have hb3 := hb2.and B3
  have N3 := N2.kept B3
  clear c0 c1 c2 c3 c4 N2 B3 hb2
  have c0 := N3.c 0 _ rfl
  have c1 := N3.c 1 _ rfl
  have c2 := N3.c 2 _ rfl
  have c3 := N3.c 3 _ rfl
  have c4 := N3.c 4 _ rfl
  go_upto_region 9 with (first | (go_at_call 16; refine (in_any _ _ (by first | assumption | decide) (by first | assumption | decide)).mono ?_; rintro e w' ⟨rfl, rfl⟩) | (go_at_call 17; refine (cs _).mono ?_; rintro e w5 ⟨rfl, B5⟩; have e0 := (N3.kept B5).c 0 _ rfl; have e1 := (N3.kept B5).c 1 _ rfl; have e2 := (N3.kept B5).c 2 _ rfl; have e3 := (N3.kept B5).c 3 _ rfl; have e4 := (N3.kept B5).c 4 _ rfl))
  have hb5 := hb3.and B5
  have N5 := N3.kept B5
  clear c0 c1 c2 c3 c4 N3 B5 hb3

  refine wp_region_held_drew (S := fun w' => w'.cell? ⟨b1, 0, none⟩ = some (.int .i64 o) ∧ w'.cell? ⟨b1, 1, none⟩ = some (.int .i64 0) ∧ w'.cell? ⟨b1, 2, none⟩ = some (.int .i64 rs1) ∧ w'.cell? ⟨b1, 3, none⟩ = some (.int .i64 rs2) ∧ w'.cell? ⟨b1, 4, none⟩ = some (.int .u32 imm)) (by kernel_rfl) ⟨N5.drew.c 0 _ rfl, N5.drew.c 1 _ rfl, N5.drew.c 2 _ rfl, N5.drew.c 3 _ rfl, N5.drew.c 4 _ rfl⟩ (fun hS => ?_)
  refine wpAnyH_ready (rs := [0]) (by kernel_rfl) (by simp) ?_
  refine AllReadyH.cons (o := { dst := some 73, op := Op.call { callee := Callee.value (Operand.func 12), args := #[], argTypes := #[] }, type := 4, pos := "law.go:75", after := #[], guard := none }) rfl (fun K hK => ?_) AllReadyH.nil
  go_simp
  (go_at_call 12; refine (alive02 _ (hC.kept (hb5.and (below_drew' _)))).mono ?_; rintro e w6 ⟨rfl, B6⟩)
  (try dsimp only)
  refine hK.out _ _ (by (try dsimp only); exact ⟨(N5.drew.kept B6).c 0 _ rfl, (N5.drew.kept B6).c 1 _ rfl, (N5.drew.kept B6).c 2 _ rfl, (N5.drew.kept B6).c 3 _ rfl, (N5.drew.kept B6).c 4 _ rfl⟩) (fun hS => ?_)
  clear hK
  (try simp only [Act.put, List.setIfInBounds_toArray, List.set_cons_zero, List.set_cons_succ])
  refine wpAnyH_take (i := 1) (oi := { dst := some 74, op := Op.move (Operand.tmp 73), type := 4, pos := "law.go:75", after := #[{ on := 0, ground := Ground.data }, { on := 0, ground := Ground.chain }], guard := none }) (v := ?_) rfl (by kernel_rfl) (by kernel_rfl) (by kernel_rfl) (fun _ _ _ h => h) (Or.inl ⟨by rfl, fun w hSw => ?hy1⟩) (by assumption) ?rest1
  case hy1 =>
    (try dsimp only at hSw)
    go_simp
    (try with_reducible rfl)
  (try simp only [Act.put, List.setIfInBounds_toArray, List.set_cons_zero, List.set_cons_succ])
  refine wpAnyH_take (i := 2) (oi := { dst := some 75, op := Op.move (Operand.tmp 6), type := 3, pos := "law.go:75", after := #[{ on := 1, ground := Ground.guard }], guard := some (1, true) }) (v := ?_) rfl (by kernel_rfl) (by kernel_rfl) (by kernel_rfl) (fun _ _ _ h => h) (Or.inl ⟨by rfl, fun w hSw => ?hy2⟩) (by assumption) ?rest2
  case hy2 =>
    (try dsimp only at hSw)
    go_simp
    (try with_reducible rfl)
  (try simp only [Act.put, List.setIfInBounds_toArray, List.set_cons_zero, List.set_cons_succ])
  refine wpAnyH_take (i := 3) (oi := { dst := some 76, op := Op.binOp BinOp.neq 3 (Operand.tmp 75) (Operand.const (Value.int IntKind.i64 6)) 3, type := 4, pos := "law.go:75", after := #[{ on := 2, ground := Ground.data }, { on := 1, ground := Ground.guard }], guard := some (1, true) }) (v := ?_) rfl (by kernel_rfl) (by kernel_rfl) (by kernel_rfl) (fun _ _ _ h => h) (Or.inl ⟨by rfl, fun w hSw => ?hy3⟩) (by assumption) ?rest3
  case hy3 =>
    (try dsimp only at hSw)
    go_simp
    (try with_reducible rfl)
  (try simp only [Act.put, List.setIfInBounds_toArray, List.set_cons_zero, List.set_cons_succ])
  refine wpAnyH_take (i := 4) (oi := { dst := some 77, op := Op.move (Operand.tmp 76), type := 4, pos := "law.go:75", after := #[{ on := 3, ground := Ground.data }, { on := 1, ground := Ground.chain }, { on := 1, ground := Ground.guard }], guard := some (1, true) }) (v := ?_) rfl (by kernel_rfl) (by kernel_rfl) (by kernel_rfl) (fun _ _ _ h => h) (Or.inl ⟨by rfl, fun w hSw => ?hy4⟩) (by assumption) ?rest4
  case hy4 =>
    (try dsimp only at hSw)
    go_simp
    (try with_reducible rfl)
  (try simp only [Act.put, List.setIfInBounds_toArray, List.set_cons_zero, List.set_cons_succ])
  refine wpAnyH_take (i := 5) (oi := { dst := some 78, op := Op.load 24 (Operand.tmp 3), type := 24, pos := "law.go:75", after := #[{ on := 4, ground := Ground.guard }], guard := some (4, false) }) (v := undef) rfl (by kernel_rfl) (by kernel_rfl) (by kernel_rfl) (fun _ _ _ h => h) (Or.inr ⟨by rfl, rfl⟩) (by assumption) ?_
  (try simp only [Act.put, List.setIfInBounds_toArray, List.set_cons_zero, List.set_cons_succ])
  refine wpAnyH_take (i := 6) (oi := { dst := some 79, op := Op.fieldAddr 24 (Operand.tmp 3) 0, type := 0, pos := "law.go:75", after := #[{ on := 4, ground := Ground.guard }], guard := some (4, false) }) (v := undef) rfl (by kernel_rfl) (by kernel_rfl) (by kernel_rfl) (fun _ _ _ h => h) (Or.inr ⟨by rfl, rfl⟩) (by assumption) ?_
  (try simp only [Act.put, List.setIfInBounds_toArray, List.set_cons_zero, List.set_cons_succ])
  refine wpAnyH_take (i := 7) (oi := { dst := some 80, op := Op.load 3 (Operand.tmp 79), type := 3, pos := "law.go:75", after := #[{ on := 6, ground := Ground.data }, { on := 4, ground := Ground.guard }], guard := some (4, false) }) (v := undef) rfl (by kernel_rfl) (by kernel_rfl) (by kernel_rfl) (fun _ _ _ h => h) (Or.inr ⟨by rfl, rfl⟩) (by assumption) ?_
  (try simp only [Act.put, List.setIfInBounds_toArray, List.set_cons_zero, List.set_cons_succ])
  refine wpAnyH_take (i := 8) (oi := { dst := some 81, op := Op.build 24 #[(0, Operand.tmp 80)], type := 24, pos := "law.go:75", after := #[{ on := 7, ground := Ground.data }, { on := 4, ground := Ground.guard }], guard := some (4, false) }) (v := undef) rfl (by kernel_rfl) (by kernel_rfl) (by kernel_rfl) (fun _ _ _ h => h) (Or.inr ⟨by rfl, rfl⟩) (by assumption) ?_
  (try simp only [Act.put, List.setIfInBounds_toArray, List.set_cons_zero, List.set_cons_succ])
  refine wpAnyH_take (i := 9) (oi := { dst := some 82, op := Op.binOp BinOp.eql 24 (Operand.tmp 78) (Operand.tmp 81) 24, type := 4, pos := "law.go:75", after := #[{ on := 5, ground := Ground.data }, { on := 8, ground := Ground.data }, { on := 4, ground := Ground.guard }], guard := some (4, false) }) (v := undef) rfl (by kernel_rfl) (by kernel_rfl) (by kernel_rfl) (fun _ _ _ h => h) (Or.inr ⟨by rfl, rfl⟩) (by assumption) ?_
  (try simp only [Act.put, List.setIfInBounds_toArray, List.set_cons_zero, List.set_cons_succ])
  refine wpAnyH_take (i := 10) (oi := { dst := some 83, op := Op.pick (Operand.tmp 77) (Operand.const (Value.bool true)) (Operand.tmp 82), type := 4, pos := "law.go:75", after := #[{ on := 4, ground := Ground.data }, { on := 9, ground := Ground.data }, { on := 1, ground := Ground.guard }], guard := some (1, true) }) (v := ?_) rfl (by kernel_rfl) (by kernel_rfl) (by kernel_rfl) (fun _ _ _ h => h) (Or.inl ⟨by rfl, fun w hSw => ?hy10⟩) (by assumption) ?rest10
  case hy10 =>
    (try dsimp only at hSw)
    go_simp
    (try with_reducible rfl)
  (try simp only [Act.put, List.setIfInBounds_toArray, List.set_cons_zero, List.set_cons_succ])
  refine wpAnyH_take (i := 11) (oi := { dst := some 84, op := Op.pick (Operand.tmp 74) (Operand.tmp 83) (Operand.const (Value.bool false)), type := 4, pos := "law.go:75", after := #[{ on := 1, ground := Ground.data }, { on := 10, ground := Ground.data }], guard := none }) (v := ?_) rfl (by kernel_rfl) (by kernel_rfl) (by kernel_rfl) (fun _ _ _ h => h) (Or.inl ⟨by rfl, fun w hSw => ?hy11⟩) (by assumption) ?rest11
  case hy11 =>
    (try dsimp only at hSw)
    go_simp
    (try with_reducible rfl)
  (try simp only [Act.put, List.setIfInBounds_toArray, List.set_cons_zero, List.set_cons_succ])
  refine wpAnyH_take (i := 12) (oi := { dst := some 85, op := Op.move (Operand.tmp 84), type := 4, pos := "law.go:75", after := #[{ on := 11, ground := Ground.data }, { on := 4, ground := Ground.chain }], guard := none }) (v := ?_) rfl (by kernel_rfl) (by kernel_rfl) (by kernel_rfl) (fun _ _ _ h => h) (Or.inl ⟨by rfl, fun w hSw => ?hy12⟩) (by assumption) ?rest12
  case hy12 =>
    (try dsimp only at hSw)
    go_simp
    (try with_reducible rfl)
  (try simp only [Act.put, List.setIfInBounds_toArray, List.set_cons_zero, List.set_cons_succ])
  refine wpAnyH_take (i := 13) (oi := { dst := some 86, op := Op.move (Operand.tmp 6), type := 3, pos := "law.go:75", after := #[{ on := 12, ground := Ground.guard }], guard := some (12, true) }) (v := ?_) rfl (by kernel_rfl) (by kernel_rfl) (by kernel_rfl) (fun _ _ _ h => h) (Or.inl ⟨by rfl, fun w hSw => ?hy13⟩) (by assumption) ?rest13
  case hy13 =>
    (try dsimp only at hSw)
    go_simp
    (try with_reducible rfl)
  (try simp only [Act.put, List.setIfInBounds_toArray, List.set_cons_zero, List.set_cons_succ])
  refine wpAnyH_take (i := 14) (oi := { dst := some 87, op := Op.binOp BinOp.neq 3 (Operand.tmp 86) (Operand.const (Value.int IntKind.i64 1)) 3, type := 4, pos := "law.go:75", after := #[{ on := 13, ground := Ground.data }, { on := 12, ground := Ground.guard }], guard := some (12, true) }) (v := ?_) rfl (by kernel_rfl) (by kernel_rfl) (by kernel_rfl) (fun _ _ _ h => h) (Or.inl ⟨by rfl, fun w hSw => ?hy14⟩) (by assumption) ?rest14
  case hy14 =>
    (try dsimp only at hSw)
    go_simp
    (try with_reducible rfl)
  (try simp only [Act.put, List.setIfInBounds_toArray, List.set_cons_zero, List.set_cons_succ])
  refine wpAnyH_take (i := 15) (oi := { dst := some 88, op := Op.move (Operand.tmp 87), type := 4, pos := "law.go:75", after := #[{ on := 14, ground := Ground.data }, { on := 12, ground := Ground.chain }, { on := 12, ground := Ground.guard }], guard := some (12, true) }) (v := ?_) rfl (by kernel_rfl) (by kernel_rfl) (by kernel_rfl) (fun _ _ _ h => h) (Or.inl ⟨by rfl, fun w hSw => ?hy15⟩) (by assumption) ?rest15
  case hy15 =>
    (try dsimp only at hSw)
    go_simp
    (try with_reducible rfl)
  (try simp only [Act.put, List.setIfInBounds_toArray, List.set_cons_zero, List.set_cons_succ])
  refine wpAnyH_take (i := 16) (oi := { dst := some 89, op := Op.move (Operand.tmp 6), type := 3, pos := "law.go:75", after := #[{ on := 15, ground := Ground.guard }], guard := some (15, true) }) (v := ?_) rfl (by kernel_rfl) (by kernel_rfl) (by kernel_rfl) (fun _ _ _ h => h) (Or.inl ⟨by rfl, fun w hSw => ?hy16⟩) (by assumption) ?rest16
  case hy16 =>
    (try dsimp only at hSw)
    go_simp
    (try with_reducible rfl)
  (try simp only [Act.put, List.setIfInBounds_toArray, List.set_cons_zero, List.set_cons_succ])
  refine wpAnyH_take (i := 17) (oi := { dst := some 90, op := Op.binOp BinOp.neq 3 (Operand.tmp 89) (Operand.const (Value.int IntKind.i64 2)) 3, type := 4, pos := "law.go:75", after := #[{ on := 16, ground := Ground.data }, { on := 15, ground := Ground.guard }], guard := some (15, true) }) (v := ?_) rfl (by kernel_rfl) (by kernel_rfl) (by kernel_rfl) (fun _ _ _ h => h) (Or.inl ⟨by rfl, fun w hSw => ?hy17⟩) (by assumption) ?rest17
  case hy17 =>
    (try dsimp only at hSw)
    go_simp
    (try with_reducible rfl)
  (try simp only [Act.put, List.setIfInBounds_toArray, List.set_cons_zero, List.set_cons_succ])
  refine wpAnyH_take (i := 18) (oi := { dst := some 91, op := Op.pick (Operand.tmp 88) (Operand.tmp 90) (Operand.const (Value.bool false)), type := 4, pos := "law.go:75", after := #[{ on := 15, ground := Ground.data }, { on := 17, ground := Ground.data }, { on := 12, ground := Ground.guard }], guard := some (12, true) }) (v := ?_) rfl (by kernel_rfl) (by kernel_rfl) (by kernel_rfl) (fun _ _ _ h => h) (Or.inl ⟨by rfl, fun w hSw => ?hy18⟩) (by assumption) ?rest18
  case hy18 =>
    (try dsimp only at hSw)
    go_simp
    (try with_reducible rfl)
  (try simp only [Act.put, List.setIfInBounds_toArray, List.set_cons_zero, List.set_cons_succ])
  refine wpAnyH_take (i := 19) (oi := { dst := some 92, op := Op.move (Operand.tmp 91), type := 4, pos := "law.go:75", after := #[{ on := 18, ground := Ground.data }, { on := 15, ground := Ground.chain }, { on := 12, ground := Ground.guard }], guard := some (12, true) }) (v := ?_) rfl (by kernel_rfl) (by kernel_rfl) (by kernel_rfl) (fun _ _ _ h => h) (Or.inl ⟨by rfl, fun w hSw => ?hy19⟩) (by assumption) ?rest19
  case hy19 =>
    (try dsimp only at hSw)
    go_simp
    (try with_reducible rfl)
  (try simp only [Act.put, List.setIfInBounds_toArray, List.set_cons_zero, List.set_cons_succ])
  refine wpAnyH_take (i := 20) (oi := { dst := some 93, op := Op.fieldAddr 24 (Operand.tmp 3) 4, type := 0, pos := "law.go:75", after := #[{ on := 19, ground := Ground.guard }], guard := some (19, false) }) (v := undef) rfl (by kernel_rfl) (by kernel_rfl) (by kernel_rfl) (fun _ _ _ h => h) (Or.inr ⟨by rfl, rfl⟩) (by assumption) ?_
  (try simp only [Act.put, List.setIfInBounds_toArray, List.set_cons_zero, List.set_cons_succ])
  refine wpAnyH_take (i := 21) (oi := { dst := some 94, op := Op.load 22 (Operand.tmp 93), type := 22, pos := "law.go:75", after := #[{ on := 20, ground := Ground.data }, { on := 19, ground := Ground.guard }], guard := some (19, false) }) (v := undef) rfl (by kernel_rfl) (by kernel_rfl) (by kernel_rfl) (fun _ _ _ h => h) (Or.inr ⟨by rfl, rfl⟩) (by assumption) ?_
  (try simp only [Act.put, List.setIfInBounds_toArray, List.set_cons_zero, List.set_cons_succ])
  refine wpAnyH_take (i := 22) (oi := { dst := some 95, op := Op.binOp BinOp.eql 22 (Operand.tmp 94) (Operand.const (Value.int IntKind.u32 0)) 22, type := 4, pos := "law.go:75", after := #[{ on := 21, ground := Ground.data }, { on := 19, ground := Ground.guard }], guard := some (19, false) }) (v := undef) rfl (by kernel_rfl) (by kernel_rfl) (by kernel_rfl) (fun _ _ _ h => h) (Or.inr ⟨by rfl, rfl⟩) (by assumption) ?_
  (try simp only [Act.put, List.setIfInBounds_toArray, List.set_cons_zero, List.set_cons_succ])
  refine wpAnyH_take (i := 23) (oi := { dst := some 96, op := Op.pick (Operand.tmp 92) (Operand.const (Value.bool true)) (Operand.tmp 95), type := 4, pos := "law.go:75", after := #[{ on := 19, ground := Ground.data }, { on := 22, ground := Ground.data }, { on := 12, ground := Ground.guard }], guard := some (12, true) }) (v := ?_) rfl (by kernel_rfl) (by kernel_rfl) (by kernel_rfl) (fun _ _ _ h => h) (Or.inl ⟨by rfl, fun w hSw => ?hy23⟩) (by assumption) ?rest23
  case hy23 =>
    (try dsimp only at hSw)
    go_simp
    (try with_reducible rfl)
  (try simp only [Act.put, List.setIfInBounds_toArray, List.set_cons_zero, List.set_cons_succ])
  refine wpAnyH_take (i := 24) (oi := { dst := some 97, op := Op.pick (Operand.tmp 85) (Operand.tmp 96) (Operand.const (Value.bool false)), type := 4, pos := "law.go:75", after := #[{ on := 12, ground := Ground.data }, { on := 23, ground := Ground.data }], guard := none }) (v := ?_) rfl (by kernel_rfl) (by kernel_rfl) (by kernel_rfl) (fun _ _ _ h => h) (Or.inl ⟨by rfl, fun w hSw => ?hy24⟩) (by assumption) ?rest24
  case hy24 =>
    (try dsimp only at hSw)
    go_simp
    (try with_reducible rfl)
  (try simp only [Act.put, List.setIfInBounds_toArray, List.set_cons_zero, List.set_cons_succ])
  refine wpAnyH_take (i := 25) (oi := { dst := some 98, op := Op.move (Operand.tmp 97), type := 4, pos := "law.go:75", after := #[{ on := 24, ground := Ground.data }, { on := 19, ground := Ground.chain }], guard := none }) (v := ?_) rfl (by kernel_rfl) (by kernel_rfl) (by kernel_rfl) (fun _ _ _ h => h) (Or.inl ⟨by rfl, fun w hSw => ?hy25⟩) (by assumption) ?rest25
  case hy25 =>
    (try dsimp only at hSw)
    go_simp
    (try with_reducible rfl)
  (try simp only [Act.put, List.setIfInBounds_toArray, List.set_cons_zero, List.set_cons_succ])
  refine wpAnyH_take (i := 26) (oi := { dst := some 99, op := Op.load 24 (Operand.tmp 3), type := 24, pos := "law.go:75", after := #[{ on := 25, ground := Ground.guard }], guard := some (25, true) }) (v := ?_) rfl (by kernel_rfl) (by kernel_rfl) (by kernel_rfl) (fun _ _ _ h => h) (Or.inl ⟨by rfl, fun w hSw => ?hy26⟩) (by assumption) ?rest26
  case hy26 =>
    (try dsimp only at hSw)
    go_simp
    (try with_reducible rfl)
  (try simp only [Act.put, List.setIfInBounds_toArray, List.set_cons_zero, List.set_cons_succ])
  refine wpAnyH_take (i := 28) (oi := { dst := some 101, op := Op.fieldAddr 24 (Operand.tmp 3) 1, type := 0, pos := "law.go:75", after := #[{ on := 25, ground := Ground.guard }], guard := some (25, true) }) (v := ?_) rfl (by kernel_rfl) (by kernel_rfl) (by kernel_rfl) (fun _ _ _ h => h) (Or.inl ⟨by rfl, fun w hSw => ?hy28⟩) (by assumption) ?rest28
  case hy28 =>
    (try dsimp only at hSw)
    go_simp
    (try with_reducible rfl)
  (try simp only [Act.put, List.setIfInBounds_toArray, List.set_cons_zero, List.set_cons_succ])
  refine wpAnyH_take (i := 29) (oi := { dst := some 102, op := Op.load 3 (Operand.tmp 101), type := 3, pos := "law.go:75", after := #[{ on := 28, ground := Ground.data }, { on := 25, ground := Ground.guard }], guard := some (25, true) }) (v := ?_) rfl (by kernel_rfl) (by kernel_rfl) (by kernel_rfl) (fun _ _ _ h => h) (Or.inl ⟨by rfl, fun w hSw => ?hy29⟩) (by assumption) ?rest29
  case hy29 =>
    (try dsimp only at hSw)
    go_simp
    (try with_reducible rfl)
  (try simp only [Act.put, List.setIfInBounds_toArray, List.set_cons_zero, List.set_cons_succ])
  refine wpAnyH_ready (rs := [27]) (by kernel_rfl) (by simp) ?_
  refine AllReadyH.cons (o := { dst := some 100, op := Op.call { callee := Callee.value (Operand.func 14), args := #[Operand.tmp 99], argTypes := #[24] }, type := 3, pos := "law.go:75", after := #[{ on := 26, ground := Ground.data }, { on := 25, ground := Ground.chain }, { on := 25, ground := Ground.guard }], guard := some (25, true) }) rfl (fun K hK => ?_) AllReadyH.nil
  go_simp
  (go_at_call 14; refine (cw _).mono ?_; rintro e w7 ⟨rfl, B7⟩)
  (try dsimp only)
  refine hK.out _ _ (by (try dsimp only); exact ⟨((N5.drew.kept B6).kept B7).c 0 _ rfl, ((N5.drew.kept B6).kept B7).c 1 _ rfl, ((N5.drew.kept B6).kept B7).c 2 _ rfl, ((N5.drew.kept B6).kept B7).c 3 _ rfl, ((N5.drew.kept B6).kept B7).c 4 _ rfl⟩) (fun hS => ?_)
  clear hK
  (try simp only [Act.put, List.setIfInBounds_toArray, List.set_cons_zero, List.set_cons_succ])
  refine wpAnyH_take (i := 30) (oi := { dst := some 103, op := Op.binOp BinOp.eql 3 (Operand.tmp 100) (Operand.tmp 102) 3, type := 4, pos := "law.go:75", after := #[{ on := 27, ground := Ground.data }, { on := 29, ground := Ground.data }, { on := 25, ground := Ground.guard }], guard := some (25, true) }) (v := ?_) rfl (by kernel_rfl) (by kernel_rfl) (by kernel_rfl) (fun _ _ _ h => h) (Or.inl ⟨by rfl, fun w hSw => ?hy30⟩) (by assumption) ?rest30
  case hy30 =>
    (try dsimp only at hSw)
    go_simp
    (try with_reducible rfl)
  (try simp only [Act.put, List.setIfInBounds_toArray, List.set_cons_zero, List.set_cons_succ])
  refine wpAnyH_take (i := 31) (oi := { dst := some 104, op := Op.pick (Operand.tmp 98) (Operand.tmp 103) (Operand.const (Value.bool false)), type := 4, pos := "law.go:75", after := #[{ on := 25, ground := Ground.data }, { on := 30, ground := Ground.data }], guard := none }) (v := ?_) rfl (by kernel_rfl) (by kernel_rfl) (by kernel_rfl) (fun _ _ _ h => h) (Or.inl ⟨by rfl, fun w hSw => ?hy31⟩) (by assumption) ?rest31
  case hy31 =>
    (try dsimp only at hSw)
    go_simp
    (try with_reducible rfl)
  (try simp only [Act.put, List.setIfInBounds_toArray, List.set_cons_zero, List.set_cons_succ])
  refine wpAnyH_take (i := 32) (oi := { dst := some 2, op := Op.assign (Operand.tmp 104), type := 4, pos := "law.go:75", after := #[{ on := 31, ground := Ground.data }, { on := 27, ground := Ground.chain }, { on := 0, ground := Ground.phase }, { on := 1, ground := Ground.phase }, { on := 2, ground := Ground.phase }, { on := 3, ground := Ground.phase }, { on := 4, ground := Ground.phase }, { on := 5, ground := Ground.phase }, { on := 6, ground := Ground.phase }, { on := 7, ground := Ground.phase }, { on := 8, ground := Ground.phase }, { on := 9, ground := Ground.phase }, { on := 10, ground := Ground.phase }, { on := 11, ground := Ground.phase }, { on := 12, ground := Ground.phase }, { on := 13, ground := Ground.phase }, { on := 14, ground := Ground.phase }, { on := 15, ground := Ground.phase }, { on := 16, ground := Ground.phase }, { on := 17, ground := Ground.phase }, { on := 18, ground := Ground.phase }, { on := 19, ground := Ground.phase }, { on := 20, ground := Ground.phase }, { on := 21, ground := Ground.phase }, { on := 22, ground := Ground.phase }, { on := 23, ground := Ground.phase }, { on := 24, ground := Ground.phase }, { on := 25, ground := Ground.phase }, { on := 26, ground := Ground.phase }, { on := 27, ground := Ground.phase }, { on := 28, ground := Ground.phase }, { on := 29, ground := Ground.phase }, { on := 30, ground := Ground.phase }, { on := 31, ground := Ground.phase }], guard := none }) (v := ?_) rfl (by kernel_rfl) (by kernel_rfl) (by kernel_rfl) (fun _ _ _ h => h) (Or.inl ⟨by rfl, fun w hSw => ?hy32⟩) (by assumption) ?rest32
  case hy32 =>
    (try dsimp only at hSw)
    go_simp
    (try with_reducible rfl)
  (try simp only [Act.put, List.setIfInBounds_toArray, List.set_cons_zero, List.set_cons_succ])
  refine wpAnyH_done (by kernel_rfl) ?_ _
  have hb7 := ((hb5.and (below_drew' _)).and B6).and B7
  go_wp2_with fail
  go_ret
  exact ⟨rfl, hb7⟩

set_option maxRecDepth 100000 in
set_option maxHeartbeats 8000000 in
theorem clean_6 (x : Nat) (o  : Int) (sz : Nat)  (hs : sz = 0) (w : World) (hC : Codes w)
    (c1 : ∀ w, Codes w → Calls Tryd.prog 10 #[.int .u32 x] w fun e w' => e = .returned (.tuple #[.agg #[.int .i64 o, .int .i64 0, .int .i64 0, .int .i64 0, .int .u32 0], .int .i64 0]) ∧ Below w.heap.size w w')
    (ck : ∀ w, Calls Tryd.prog 13 #[.agg #[.int .i64 o, .int .i64 0, .int .i64 0, .int .i64 0, .int .u32 0]] w fun e w' => e = .returned (.int .i64 6) ∧ Below w.heap.size w w')
    (cs : ∀ w, Calls Tryd.prog 17 #[.agg #[.int .i64 o, .int .i64 0, .int .i64 0, .int .i64 0, .int .u32 0]] w fun e w' => e = .returned (.int .i64 sz) ∧ Below w.heap.size w w')
    (cw : ∀ w, Calls Tryd.prog 14 #[.agg #[.int .i64 o, .int .i64 0, .int .i64 0, .int .i64 0, .int .u32 0]] w fun e w' => e = .returned (.int .i64 0) ∧ Below w.heap.size w w') :
    Calls Tryd.prog 9 #[.int .u32 x] w fun e w' => e = .returned (.bool true) ∧ Below w.heap.size w w' := by
  subst hs
  go_enter Tryd.func9, Tryd.ntmps9
  go_wp2_with fail
  refine (c1 _ hC).mono ?_; rintro e w1 ⟨rfl, B1⟩
  go_upto_region 4 with (fail)
  have hb2 := B1.and (below_all (.cells #[.int .i64 o, .int .i64 0, .int .i64 0, .int .i64 0, .int .u32 0] 24))
  have N2 := Mine.new w1 #[.int .i64 o, .int .i64 0, .int .i64 0, .int .i64 0, .int .u32 0] 24
  generalize w1.alloc _ = w2 at *
  generalize w1.heap.size = b1 at *
  have c0 := N2.c 0 _ rfl
  have c1 := N2.c 1 _ rfl
  have c2 := N2.c 2 _ rfl
  have c3 := N2.c 3 _ rfl
  have c4 := N2.c 4 _ rfl
  go_wp2_with fail
  refine (ck _).mono ?_; rintro e w3 ⟨rfl, B3⟩
  have hb3 := hb2.and B3
  have N3 := N2.kept B3
  clear c0 c1 c2 c3 c4 N2 B3 hb2
  have c0 := N3.c 0 _ rfl
  have c1 := N3.c 1 _ rfl
  have c2 := N3.c 2 _ rfl
  have c3 := N3.c 3 _ rfl
  have c4 := N3.c 4 _ rfl
  go_upto_region 9 with (first | (go_at_call 16; refine (in_any _ _ (by first | assumption | decide) (by first | assumption | decide)).mono ?_; rintro e w' ⟨rfl, rfl⟩) | (go_at_call 17; refine (cs _).mono ?_; rintro e w5 ⟨rfl, B5⟩; have e0 := (N3.kept B5).c 0 _ rfl; have e1 := (N3.kept B5).c 1 _ rfl; have e2 := (N3.kept B5).c 2 _ rfl; have e3 := (N3.kept B5).c 3 _ rfl; have e4 := (N3.kept B5).c 4 _ rfl))
  have hb5 := hb3.and B5
  have N5 := N3.kept B5
  clear c0 c1 c2 c3 c4 N3 B5 hb3

  refine wp_region_held_drew (S := fun w' => w'.cell? ⟨b1, 0, none⟩ = some (.int .i64 o) ∧ w'.cell? ⟨b1, 1, none⟩ = some (.int .i64 0) ∧ w'.cell? ⟨b1, 2, none⟩ = some (.int .i64 0) ∧ w'.cell? ⟨b1, 3, none⟩ = some (.int .i64 0) ∧ w'.cell? ⟨b1, 4, none⟩ = some (.int .u32 0)) (by kernel_rfl) ⟨N5.drew.c 0 _ rfl, N5.drew.c 1 _ rfl, N5.drew.c 2 _ rfl, N5.drew.c 3 _ rfl, N5.drew.c 4 _ rfl⟩ (fun hS => ?_)
  refine wpAnyH_ready (rs := [0]) (by kernel_rfl) (by simp) ?_
  refine AllReadyH.cons (o := { dst := some 73, op := Op.call { callee := Callee.value (Operand.func 12), args := #[], argTypes := #[] }, type := 4, pos := "law.go:75", after := #[], guard := none }) rfl (fun K hK => ?_) AllReadyH.nil
  go_simp
  (go_at_call 12; refine (alive02 _ (hC.kept (hb5.and (below_drew' _)))).mono ?_; rintro e w6 ⟨rfl, B6⟩)
  (try dsimp only)
  refine hK.out _ _ (by (try dsimp only); exact ⟨(N5.drew.kept B6).c 0 _ rfl, (N5.drew.kept B6).c 1 _ rfl, (N5.drew.kept B6).c 2 _ rfl, (N5.drew.kept B6).c 3 _ rfl, (N5.drew.kept B6).c 4 _ rfl⟩) (fun hS => ?_)
  clear hK
  (try simp only [Act.put, List.setIfInBounds_toArray, List.set_cons_zero, List.set_cons_succ])
  refine wpAnyH_take (i := 1) (oi := { dst := some 74, op := Op.move (Operand.tmp 73), type := 4, pos := "law.go:75", after := #[{ on := 0, ground := Ground.data }, { on := 0, ground := Ground.chain }], guard := none }) (v := ?_) rfl (by kernel_rfl) (by kernel_rfl) (by kernel_rfl) (fun _ _ _ h => h) (Or.inl ⟨by rfl, fun w hSw => ?hy1⟩) (by assumption) ?rest1
  case hy1 =>
    (try dsimp only at hSw)
    go_simp
    (try with_reducible rfl)
  (try simp only [Act.put, List.setIfInBounds_toArray, List.set_cons_zero, List.set_cons_succ])
  refine wpAnyH_take (i := 2) (oi := { dst := some 75, op := Op.move (Operand.tmp 6), type := 3, pos := "law.go:75", after := #[{ on := 1, ground := Ground.guard }], guard := some (1, true) }) (v := ?_) rfl (by kernel_rfl) (by kernel_rfl) (by kernel_rfl) (fun _ _ _ h => h) (Or.inl ⟨by rfl, fun w hSw => ?hy2⟩) (by assumption) ?rest2
  case hy2 =>
    (try dsimp only at hSw)
    go_simp
    (try with_reducible rfl)
  (try simp only [Act.put, List.setIfInBounds_toArray, List.set_cons_zero, List.set_cons_succ])
  refine wpAnyH_take (i := 3) (oi := { dst := some 76, op := Op.binOp BinOp.neq 3 (Operand.tmp 75) (Operand.const (Value.int IntKind.i64 6)) 3, type := 4, pos := "law.go:75", after := #[{ on := 2, ground := Ground.data }, { on := 1, ground := Ground.guard }], guard := some (1, true) }) (v := ?_) rfl (by kernel_rfl) (by kernel_rfl) (by kernel_rfl) (fun _ _ _ h => h) (Or.inl ⟨by rfl, fun w hSw => ?hy3⟩) (by assumption) ?rest3
  case hy3 =>
    (try dsimp only at hSw)
    go_simp
    (try with_reducible rfl)
  (try simp only [Act.put, List.setIfInBounds_toArray, List.set_cons_zero, List.set_cons_succ])
  refine wpAnyH_take (i := 4) (oi := { dst := some 77, op := Op.move (Operand.tmp 76), type := 4, pos := "law.go:75", after := #[{ on := 3, ground := Ground.data }, { on := 1, ground := Ground.chain }, { on := 1, ground := Ground.guard }], guard := some (1, true) }) (v := ?_) rfl (by kernel_rfl) (by kernel_rfl) (by kernel_rfl) (fun _ _ _ h => h) (Or.inl ⟨by rfl, fun w hSw => ?hy4⟩) (by assumption) ?rest4
  case hy4 =>
    (try dsimp only at hSw)
    go_simp
    (try with_reducible rfl)
  (try simp only [Act.put, List.setIfInBounds_toArray, List.set_cons_zero, List.set_cons_succ])
  refine wpAnyH_take (i := 5) (oi := { dst := some 78, op := Op.load 24 (Operand.tmp 3), type := 24, pos := "law.go:75", after := #[{ on := 4, ground := Ground.guard }], guard := some (4, false) }) (v := ?_) rfl (by kernel_rfl) (by kernel_rfl) (by kernel_rfl) (fun _ _ _ h => h) (Or.inl ⟨by rfl, fun w hSw => ?hy5⟩) (by assumption) ?rest5
  case hy5 =>
    (try dsimp only at hSw)
    go_simp
    (try with_reducible rfl)
  (try simp only [Act.put, List.setIfInBounds_toArray, List.set_cons_zero, List.set_cons_succ])
  refine wpAnyH_take (i := 6) (oi := { dst := some 79, op := Op.fieldAddr 24 (Operand.tmp 3) 0, type := 0, pos := "law.go:75", after := #[{ on := 4, ground := Ground.guard }], guard := some (4, false) }) (v := ?_) rfl (by kernel_rfl) (by kernel_rfl) (by kernel_rfl) (fun _ _ _ h => h) (Or.inl ⟨by rfl, fun w hSw => ?hy6⟩) (by assumption) ?rest6
  case hy6 =>
    (try dsimp only at hSw)
    go_simp
    (try with_reducible rfl)
  (try simp only [Act.put, List.setIfInBounds_toArray, List.set_cons_zero, List.set_cons_succ])
  refine wpAnyH_take (i := 7) (oi := { dst := some 80, op := Op.load 3 (Operand.tmp 79), type := 3, pos := "law.go:75", after := #[{ on := 6, ground := Ground.data }, { on := 4, ground := Ground.guard }], guard := some (4, false) }) (v := ?_) rfl (by kernel_rfl) (by kernel_rfl) (by kernel_rfl) (fun _ _ _ h => h) (Or.inl ⟨by rfl, fun w hSw => ?hy7⟩) (by assumption) ?rest7
  case hy7 =>
    (try dsimp only at hSw)
    go_simp
    (try with_reducible rfl)
  (try simp only [Act.put, List.setIfInBounds_toArray, List.set_cons_zero, List.set_cons_succ])
  refine wpAnyH_take (i := 8) (oi := { dst := some 81, op := Op.build 24 #[(0, Operand.tmp 80)], type := 24, pos := "law.go:75", after := #[{ on := 7, ground := Ground.data }, { on := 4, ground := Ground.guard }], guard := some (4, false) }) (v := ?_) rfl (by kernel_rfl) (by kernel_rfl) (by kernel_rfl) (fun _ _ _ h => h) (Or.inl ⟨by rfl, fun w hSw => ?hy8⟩) (by assumption) ?rest8
  case hy8 =>
    (try dsimp only at hSw)
    go_simp
    (try with_reducible rfl)
  (try simp only [Act.put, List.setIfInBounds_toArray, List.set_cons_zero, List.set_cons_succ])
  refine wpAnyH_take (i := 9) (oi := { dst := some 82, op := Op.binOp BinOp.eql 24 (Operand.tmp 78) (Operand.tmp 81) 24, type := 4, pos := "law.go:75", after := #[{ on := 5, ground := Ground.data }, { on := 8, ground := Ground.data }, { on := 4, ground := Ground.guard }], guard := some (4, false) }) (v := ?_) rfl (by kernel_rfl) (by kernel_rfl) (by kernel_rfl) (fun _ _ _ h => h) (Or.inl ⟨by rfl, fun w hSw => ?hy9⟩) (by assumption) ?rest9
  case hy9 =>
    (try dsimp only at hSw)
    go_simp
    (try with_reducible rfl)
  (try simp only [Act.put, List.setIfInBounds_toArray, List.set_cons_zero, List.set_cons_succ])
  refine wpAnyH_take (i := 10) (oi := { dst := some 83, op := Op.pick (Operand.tmp 77) (Operand.const (Value.bool true)) (Operand.tmp 82), type := 4, pos := "law.go:75", after := #[{ on := 4, ground := Ground.data }, { on := 9, ground := Ground.data }, { on := 1, ground := Ground.guard }], guard := some (1, true) }) (v := ?_) rfl (by kernel_rfl) (by kernel_rfl) (by kernel_rfl) (fun _ _ _ h => h) (Or.inl ⟨by rfl, fun w hSw => ?hy10⟩) (by assumption) ?rest10
  case hy10 =>
    (try dsimp only at hSw)
    go_simp
    (try with_reducible rfl)
  (try simp only [Act.put, List.setIfInBounds_toArray, List.set_cons_zero, List.set_cons_succ])
  refine wpAnyH_take (i := 11) (oi := { dst := some 84, op := Op.pick (Operand.tmp 74) (Operand.tmp 83) (Operand.const (Value.bool false)), type := 4, pos := "law.go:75", after := #[{ on := 1, ground := Ground.data }, { on := 10, ground := Ground.data }], guard := none }) (v := ?_) rfl (by kernel_rfl) (by kernel_rfl) (by kernel_rfl) (fun _ _ _ h => h) (Or.inl ⟨by rfl, fun w hSw => ?hy11⟩) (by assumption) ?rest11
  case hy11 =>
    (try dsimp only at hSw)
    go_simp
    (try with_reducible rfl)
  (try simp only [Act.put, List.setIfInBounds_toArray, List.set_cons_zero, List.set_cons_succ])
  refine wpAnyH_take (i := 12) (oi := { dst := some 85, op := Op.move (Operand.tmp 84), type := 4, pos := "law.go:75", after := #[{ on := 11, ground := Ground.data }, { on := 4, ground := Ground.chain }], guard := none }) (v := ?_) rfl (by kernel_rfl) (by kernel_rfl) (by kernel_rfl) (fun _ _ _ h => h) (Or.inl ⟨by rfl, fun w hSw => ?hy12⟩) (by assumption) ?rest12
  case hy12 =>
    (try dsimp only at hSw)
    go_simp
    (try with_reducible rfl)
  (try simp only [Act.put, List.setIfInBounds_toArray, List.set_cons_zero, List.set_cons_succ])
  refine wpAnyH_take (i := 13) (oi := { dst := some 86, op := Op.move (Operand.tmp 6), type := 3, pos := "law.go:75", after := #[{ on := 12, ground := Ground.guard }], guard := some (12, true) }) (v := ?_) rfl (by kernel_rfl) (by kernel_rfl) (by kernel_rfl) (fun _ _ _ h => h) (Or.inl ⟨by rfl, fun w hSw => ?hy13⟩) (by assumption) ?rest13
  case hy13 =>
    (try dsimp only at hSw)
    go_simp
    (try with_reducible rfl)
  (try simp only [Act.put, List.setIfInBounds_toArray, List.set_cons_zero, List.set_cons_succ])
  refine wpAnyH_take (i := 14) (oi := { dst := some 87, op := Op.binOp BinOp.neq 3 (Operand.tmp 86) (Operand.const (Value.int IntKind.i64 1)) 3, type := 4, pos := "law.go:75", after := #[{ on := 13, ground := Ground.data }, { on := 12, ground := Ground.guard }], guard := some (12, true) }) (v := ?_) rfl (by kernel_rfl) (by kernel_rfl) (by kernel_rfl) (fun _ _ _ h => h) (Or.inl ⟨by rfl, fun w hSw => ?hy14⟩) (by assumption) ?rest14
  case hy14 =>
    (try dsimp only at hSw)
    go_simp
    (try with_reducible rfl)
  (try simp only [Act.put, List.setIfInBounds_toArray, List.set_cons_zero, List.set_cons_succ])
  refine wpAnyH_take (i := 15) (oi := { dst := some 88, op := Op.move (Operand.tmp 87), type := 4, pos := "law.go:75", after := #[{ on := 14, ground := Ground.data }, { on := 12, ground := Ground.chain }, { on := 12, ground := Ground.guard }], guard := some (12, true) }) (v := ?_) rfl (by kernel_rfl) (by kernel_rfl) (by kernel_rfl) (fun _ _ _ h => h) (Or.inl ⟨by rfl, fun w hSw => ?hy15⟩) (by assumption) ?rest15
  case hy15 =>
    (try dsimp only at hSw)
    go_simp
    (try with_reducible rfl)
  (try simp only [Act.put, List.setIfInBounds_toArray, List.set_cons_zero, List.set_cons_succ])
  refine wpAnyH_take (i := 16) (oi := { dst := some 89, op := Op.move (Operand.tmp 6), type := 3, pos := "law.go:75", after := #[{ on := 15, ground := Ground.guard }], guard := some (15, true) }) (v := ?_) rfl (by kernel_rfl) (by kernel_rfl) (by kernel_rfl) (fun _ _ _ h => h) (Or.inl ⟨by rfl, fun w hSw => ?hy16⟩) (by assumption) ?rest16
  case hy16 =>
    (try dsimp only at hSw)
    go_simp
    (try with_reducible rfl)
  (try simp only [Act.put, List.setIfInBounds_toArray, List.set_cons_zero, List.set_cons_succ])
  refine wpAnyH_take (i := 17) (oi := { dst := some 90, op := Op.binOp BinOp.neq 3 (Operand.tmp 89) (Operand.const (Value.int IntKind.i64 2)) 3, type := 4, pos := "law.go:75", after := #[{ on := 16, ground := Ground.data }, { on := 15, ground := Ground.guard }], guard := some (15, true) }) (v := ?_) rfl (by kernel_rfl) (by kernel_rfl) (by kernel_rfl) (fun _ _ _ h => h) (Or.inl ⟨by rfl, fun w hSw => ?hy17⟩) (by assumption) ?rest17
  case hy17 =>
    (try dsimp only at hSw)
    go_simp
    (try with_reducible rfl)
  (try simp only [Act.put, List.setIfInBounds_toArray, List.set_cons_zero, List.set_cons_succ])
  refine wpAnyH_take (i := 18) (oi := { dst := some 91, op := Op.pick (Operand.tmp 88) (Operand.tmp 90) (Operand.const (Value.bool false)), type := 4, pos := "law.go:75", after := #[{ on := 15, ground := Ground.data }, { on := 17, ground := Ground.data }, { on := 12, ground := Ground.guard }], guard := some (12, true) }) (v := ?_) rfl (by kernel_rfl) (by kernel_rfl) (by kernel_rfl) (fun _ _ _ h => h) (Or.inl ⟨by rfl, fun w hSw => ?hy18⟩) (by assumption) ?rest18
  case hy18 =>
    (try dsimp only at hSw)
    go_simp
    (try with_reducible rfl)
  (try simp only [Act.put, List.setIfInBounds_toArray, List.set_cons_zero, List.set_cons_succ])
  refine wpAnyH_take (i := 19) (oi := { dst := some 92, op := Op.move (Operand.tmp 91), type := 4, pos := "law.go:75", after := #[{ on := 18, ground := Ground.data }, { on := 15, ground := Ground.chain }, { on := 12, ground := Ground.guard }], guard := some (12, true) }) (v := ?_) rfl (by kernel_rfl) (by kernel_rfl) (by kernel_rfl) (fun _ _ _ h => h) (Or.inl ⟨by rfl, fun w hSw => ?hy19⟩) (by assumption) ?rest19
  case hy19 =>
    (try dsimp only at hSw)
    go_simp
    (try with_reducible rfl)
  (try simp only [Act.put, List.setIfInBounds_toArray, List.set_cons_zero, List.set_cons_succ])
  refine wpAnyH_take (i := 20) (oi := { dst := some 93, op := Op.fieldAddr 24 (Operand.tmp 3) 4, type := 0, pos := "law.go:75", after := #[{ on := 19, ground := Ground.guard }], guard := some (19, false) }) (v := undef) rfl (by kernel_rfl) (by kernel_rfl) (by kernel_rfl) (fun _ _ _ h => h) (Or.inr ⟨by rfl, rfl⟩) (by assumption) ?_
  (try simp only [Act.put, List.setIfInBounds_toArray, List.set_cons_zero, List.set_cons_succ])
  refine wpAnyH_take (i := 21) (oi := { dst := some 94, op := Op.load 22 (Operand.tmp 93), type := 22, pos := "law.go:75", after := #[{ on := 20, ground := Ground.data }, { on := 19, ground := Ground.guard }], guard := some (19, false) }) (v := undef) rfl (by kernel_rfl) (by kernel_rfl) (by kernel_rfl) (fun _ _ _ h => h) (Or.inr ⟨by rfl, rfl⟩) (by assumption) ?_
  (try simp only [Act.put, List.setIfInBounds_toArray, List.set_cons_zero, List.set_cons_succ])
  refine wpAnyH_take (i := 22) (oi := { dst := some 95, op := Op.binOp BinOp.eql 22 (Operand.tmp 94) (Operand.const (Value.int IntKind.u32 0)) 22, type := 4, pos := "law.go:75", after := #[{ on := 21, ground := Ground.data }, { on := 19, ground := Ground.guard }], guard := some (19, false) }) (v := undef) rfl (by kernel_rfl) (by kernel_rfl) (by kernel_rfl) (fun _ _ _ h => h) (Or.inr ⟨by rfl, rfl⟩) (by assumption) ?_
  (try simp only [Act.put, List.setIfInBounds_toArray, List.set_cons_zero, List.set_cons_succ])
  refine wpAnyH_take (i := 23) (oi := { dst := some 96, op := Op.pick (Operand.tmp 92) (Operand.const (Value.bool true)) (Operand.tmp 95), type := 4, pos := "law.go:75", after := #[{ on := 19, ground := Ground.data }, { on := 22, ground := Ground.data }, { on := 12, ground := Ground.guard }], guard := some (12, true) }) (v := ?_) rfl (by kernel_rfl) (by kernel_rfl) (by kernel_rfl) (fun _ _ _ h => h) (Or.inl ⟨by rfl, fun w hSw => ?hy23⟩) (by assumption) ?rest23
  case hy23 =>
    (try dsimp only at hSw)
    go_simp
    (try with_reducible rfl)
  (try simp only [Act.put, List.setIfInBounds_toArray, List.set_cons_zero, List.set_cons_succ])
  refine wpAnyH_take (i := 24) (oi := { dst := some 97, op := Op.pick (Operand.tmp 85) (Operand.tmp 96) (Operand.const (Value.bool false)), type := 4, pos := "law.go:75", after := #[{ on := 12, ground := Ground.data }, { on := 23, ground := Ground.data }], guard := none }) (v := ?_) rfl (by kernel_rfl) (by kernel_rfl) (by kernel_rfl) (fun _ _ _ h => h) (Or.inl ⟨by rfl, fun w hSw => ?hy24⟩) (by assumption) ?rest24
  case hy24 =>
    (try dsimp only at hSw)
    go_simp
    (try with_reducible rfl)
  (try simp only [Act.put, List.setIfInBounds_toArray, List.set_cons_zero, List.set_cons_succ])
  refine wpAnyH_take (i := 25) (oi := { dst := some 98, op := Op.move (Operand.tmp 97), type := 4, pos := "law.go:75", after := #[{ on := 24, ground := Ground.data }, { on := 19, ground := Ground.chain }], guard := none }) (v := ?_) rfl (by kernel_rfl) (by kernel_rfl) (by kernel_rfl) (fun _ _ _ h => h) (Or.inl ⟨by rfl, fun w hSw => ?hy25⟩) (by assumption) ?rest25
  case hy25 =>
    (try dsimp only at hSw)
    go_simp
    (try with_reducible rfl)
  (try simp only [Act.put, List.setIfInBounds_toArray, List.set_cons_zero, List.set_cons_succ])
  refine wpAnyH_take (i := 26) (oi := { dst := some 99, op := Op.load 24 (Operand.tmp 3), type := 24, pos := "law.go:75", after := #[{ on := 25, ground := Ground.guard }], guard := some (25, true) }) (v := ?_) rfl (by kernel_rfl) (by kernel_rfl) (by kernel_rfl) (fun _ _ _ h => h) (Or.inl ⟨by rfl, fun w hSw => ?hy26⟩) (by assumption) ?rest26
  case hy26 =>
    (try dsimp only at hSw)
    go_simp
    (try with_reducible rfl)
  (try simp only [Act.put, List.setIfInBounds_toArray, List.set_cons_zero, List.set_cons_succ])
  refine wpAnyH_take (i := 28) (oi := { dst := some 101, op := Op.fieldAddr 24 (Operand.tmp 3) 1, type := 0, pos := "law.go:75", after := #[{ on := 25, ground := Ground.guard }], guard := some (25, true) }) (v := ?_) rfl (by kernel_rfl) (by kernel_rfl) (by kernel_rfl) (fun _ _ _ h => h) (Or.inl ⟨by rfl, fun w hSw => ?hy28⟩) (by assumption) ?rest28
  case hy28 =>
    (try dsimp only at hSw)
    go_simp
    (try with_reducible rfl)
  (try simp only [Act.put, List.setIfInBounds_toArray, List.set_cons_zero, List.set_cons_succ])
  refine wpAnyH_take (i := 29) (oi := { dst := some 102, op := Op.load 3 (Operand.tmp 101), type := 3, pos := "law.go:75", after := #[{ on := 28, ground := Ground.data }, { on := 25, ground := Ground.guard }], guard := some (25, true) }) (v := ?_) rfl (by kernel_rfl) (by kernel_rfl) (by kernel_rfl) (fun _ _ _ h => h) (Or.inl ⟨by rfl, fun w hSw => ?hy29⟩) (by assumption) ?rest29
  case hy29 =>
    (try dsimp only at hSw)
    go_simp
    (try with_reducible rfl)
  (try simp only [Act.put, List.setIfInBounds_toArray, List.set_cons_zero, List.set_cons_succ])
  refine wpAnyH_ready (rs := [27]) (by kernel_rfl) (by simp) ?_
  refine AllReadyH.cons (o := { dst := some 100, op := Op.call { callee := Callee.value (Operand.func 14), args := #[Operand.tmp 99], argTypes := #[24] }, type := 3, pos := "law.go:75", after := #[{ on := 26, ground := Ground.data }, { on := 25, ground := Ground.chain }, { on := 25, ground := Ground.guard }], guard := some (25, true) }) rfl (fun K hK => ?_) AllReadyH.nil
  go_simp
  (go_at_call 14; refine (cw _).mono ?_; rintro e w7 ⟨rfl, B7⟩)
  (try dsimp only)
  refine hK.out _ _ (by (try dsimp only); exact ⟨((N5.drew.kept B6).kept B7).c 0 _ rfl, ((N5.drew.kept B6).kept B7).c 1 _ rfl, ((N5.drew.kept B6).kept B7).c 2 _ rfl, ((N5.drew.kept B6).kept B7).c 3 _ rfl, ((N5.drew.kept B6).kept B7).c 4 _ rfl⟩) (fun hS => ?_)
  clear hK
  (try simp only [Act.put, List.setIfInBounds_toArray, List.set_cons_zero, List.set_cons_succ])
  refine wpAnyH_take (i := 30) (oi := { dst := some 103, op := Op.binOp BinOp.eql 3 (Operand.tmp 100) (Operand.tmp 102) 3, type := 4, pos := "law.go:75", after := #[{ on := 27, ground := Ground.data }, { on := 29, ground := Ground.data }, { on := 25, ground := Ground.guard }], guard := some (25, true) }) (v := ?_) rfl (by kernel_rfl) (by kernel_rfl) (by kernel_rfl) (fun _ _ _ h => h) (Or.inl ⟨by rfl, fun w hSw => ?hy30⟩) (by assumption) ?rest30
  case hy30 =>
    (try dsimp only at hSw)
    go_simp
    (try with_reducible rfl)
  (try simp only [Act.put, List.setIfInBounds_toArray, List.set_cons_zero, List.set_cons_succ])
  refine wpAnyH_take (i := 31) (oi := { dst := some 104, op := Op.pick (Operand.tmp 98) (Operand.tmp 103) (Operand.const (Value.bool false)), type := 4, pos := "law.go:75", after := #[{ on := 25, ground := Ground.data }, { on := 30, ground := Ground.data }], guard := none }) (v := ?_) rfl (by kernel_rfl) (by kernel_rfl) (by kernel_rfl) (fun _ _ _ h => h) (Or.inl ⟨by rfl, fun w hSw => ?hy31⟩) (by assumption) ?rest31
  case hy31 =>
    (try dsimp only at hSw)
    go_simp
    (try with_reducible rfl)
  (try simp only [Act.put, List.setIfInBounds_toArray, List.set_cons_zero, List.set_cons_succ])
  refine wpAnyH_take (i := 32) (oi := { dst := some 2, op := Op.assign (Operand.tmp 104), type := 4, pos := "law.go:75", after := #[{ on := 31, ground := Ground.data }, { on := 27, ground := Ground.chain }, { on := 0, ground := Ground.phase }, { on := 1, ground := Ground.phase }, { on := 2, ground := Ground.phase }, { on := 3, ground := Ground.phase }, { on := 4, ground := Ground.phase }, { on := 5, ground := Ground.phase }, { on := 6, ground := Ground.phase }, { on := 7, ground := Ground.phase }, { on := 8, ground := Ground.phase }, { on := 9, ground := Ground.phase }, { on := 10, ground := Ground.phase }, { on := 11, ground := Ground.phase }, { on := 12, ground := Ground.phase }, { on := 13, ground := Ground.phase }, { on := 14, ground := Ground.phase }, { on := 15, ground := Ground.phase }, { on := 16, ground := Ground.phase }, { on := 17, ground := Ground.phase }, { on := 18, ground := Ground.phase }, { on := 19, ground := Ground.phase }, { on := 20, ground := Ground.phase }, { on := 21, ground := Ground.phase }, { on := 22, ground := Ground.phase }, { on := 23, ground := Ground.phase }, { on := 24, ground := Ground.phase }, { on := 25, ground := Ground.phase }, { on := 26, ground := Ground.phase }, { on := 27, ground := Ground.phase }, { on := 28, ground := Ground.phase }, { on := 29, ground := Ground.phase }, { on := 30, ground := Ground.phase }, { on := 31, ground := Ground.phase }], guard := none }) (v := ?_) rfl (by kernel_rfl) (by kernel_rfl) (by kernel_rfl) (fun _ _ _ h => h) (Or.inl ⟨by rfl, fun w hSw => ?hy32⟩) (by assumption) ?rest32
  case hy32 =>
    (try dsimp only at hSw)
    go_simp
    (try with_reducible rfl)
  (try simp only [Act.put, List.setIfInBounds_toArray, List.set_cons_zero, List.set_cons_succ])
  refine wpAnyH_done (by kernel_rfl) ?_ _
  have hb7 := ((hb5.and (below_drew' _)).and B6).and B7
  go_wp2_with fail
  go_ret
  exact ⟨rfl, hb7⟩

set_option maxRecDepth 100000 in
set_option maxHeartbeats 8000000 in
theorem clean_1 (x : Nat) (o rd rs1 rs2 : Int) (sz : Nat) (rda : 0 ≤ rd) (rdb : rd ≤ 31) (rs1a : 0 ≤ rs1) (rs1b : rs1 ≤ 31) (rs2a : 0 ≤ rs2) (rs2b : rs2 ≤ 31) (hs : sz = 0) (w : World) (hC : Codes w)
    (c1 : ∀ w, Codes w → Calls Tryd.prog 10 #[.int .u32 x] w fun e w' => e = .returned (.tuple #[.agg #[.int .i64 o, .int .i64 rd, .int .i64 rs1, .int .i64 rs2, .int .u32 0], .int .i64 0]) ∧ Below w.heap.size w w')
    (ck : ∀ w, Calls Tryd.prog 13 #[.agg #[.int .i64 o, .int .i64 rd, .int .i64 rs1, .int .i64 rs2, .int .u32 0]] w fun e w' => e = .returned (.int .i64 1) ∧ Below w.heap.size w w')
    (cs : ∀ w, Calls Tryd.prog 17 #[.agg #[.int .i64 o, .int .i64 rd, .int .i64 rs1, .int .i64 rs2, .int .u32 0]] w fun e w' => e = .returned (.int .i64 sz) ∧ Below w.heap.size w w')
    (cw : ∀ w, Calls Tryd.prog 14 #[.agg #[.int .i64 o, .int .i64 rd, .int .i64 rs1, .int .i64 rs2, .int .u32 0]] w fun e w' => e = .returned (.int .i64 rd) ∧ Below w.heap.size w w') :
    Calls Tryd.prog 9 #[.int .u32 x] w fun e w' => e = .returned (.bool true) ∧ Below w.heap.size w w' := by
  subst hs
  go_enter Tryd.func9, Tryd.ntmps9
  go_wp2_with fail
  refine (c1 _ hC).mono ?_; rintro e w1 ⟨rfl, B1⟩
  go_upto_region 4 with (fail)
  have hb2 := B1.and (below_all (.cells #[.int .i64 o, .int .i64 rd, .int .i64 rs1, .int .i64 rs2, .int .u32 0] 24))
  have N2 := Mine.new w1 #[.int .i64 o, .int .i64 rd, .int .i64 rs1, .int .i64 rs2, .int .u32 0] 24
  generalize w1.alloc _ = w2 at *
  generalize w1.heap.size = b1 at *
  have c0 := N2.c 0 _ rfl
  have c1 := N2.c 1 _ rfl
  have c2 := N2.c 2 _ rfl
  have c3 := N2.c 3 _ rfl
  have c4 := N2.c 4 _ rfl
  go_wp2_with fail
  refine (ck _).mono ?_; rintro e w3 ⟨rfl, B3⟩
  have hb3 := hb2.and B3
  have N3 := N2.kept B3
  clear c0 c1 c2 c3 c4 N2 B3 hb2
  have c0 := N3.c 0 _ rfl
  have c1 := N3.c 1 _ rfl
  have c2 := N3.c 2 _ rfl
  have c3 := N3.c 3 _ rfl
  have c4 := N3.c 4 _ rfl
  go_upto_region 9 with (first | (go_at_call 16; refine (in_any _ _ (by first | assumption | decide) (by first | assumption | decide)).mono ?_; rintro e w' ⟨rfl, rfl⟩) | (go_at_call 17; refine (cs _).mono ?_; rintro e w5 ⟨rfl, B5⟩; have e0 := (N3.kept B5).c 0 _ rfl; have e1 := (N3.kept B5).c 1 _ rfl; have e2 := (N3.kept B5).c 2 _ rfl; have e3 := (N3.kept B5).c 3 _ rfl; have e4 := (N3.kept B5).c 4 _ rfl))
  have hb5 := hb3.and B5
  have N5 := N3.kept B5
  clear c0 c1 c2 c3 c4 N3 B5 hb3

  refine wp_region_held_drew (S := fun w' => w'.cell? ⟨b1, 0, none⟩ = some (.int .i64 o) ∧ w'.cell? ⟨b1, 1, none⟩ = some (.int .i64 rd) ∧ w'.cell? ⟨b1, 2, none⟩ = some (.int .i64 rs1) ∧ w'.cell? ⟨b1, 3, none⟩ = some (.int .i64 rs2) ∧ w'.cell? ⟨b1, 4, none⟩ = some (.int .u32 0)) (by kernel_rfl) ⟨N5.drew.c 0 _ rfl, N5.drew.c 1 _ rfl, N5.drew.c 2 _ rfl, N5.drew.c 3 _ rfl, N5.drew.c 4 _ rfl⟩ (fun hS => ?_)
  refine wpAnyH_ready (rs := [0]) (by kernel_rfl) (by simp) ?_
  refine AllReadyH.cons (o := { dst := some 73, op := Op.call { callee := Callee.value (Operand.func 12), args := #[], argTypes := #[] }, type := 4, pos := "law.go:75", after := #[], guard := none }) rfl (fun K hK => ?_) AllReadyH.nil
  go_simp
  (go_at_call 12; refine (alive02 _ (hC.kept (hb5.and (below_drew' _)))).mono ?_; rintro e w6 ⟨rfl, B6⟩)
  (try dsimp only)
  refine hK.out _ _ (by (try dsimp only); exact ⟨(N5.drew.kept B6).c 0 _ rfl, (N5.drew.kept B6).c 1 _ rfl, (N5.drew.kept B6).c 2 _ rfl, (N5.drew.kept B6).c 3 _ rfl, (N5.drew.kept B6).c 4 _ rfl⟩) (fun hS => ?_)
  clear hK
  (try simp only [Act.put, List.setIfInBounds_toArray, List.set_cons_zero, List.set_cons_succ])
  refine wpAnyH_take (i := 1) (oi := { dst := some 74, op := Op.move (Operand.tmp 73), type := 4, pos := "law.go:75", after := #[{ on := 0, ground := Ground.data }, { on := 0, ground := Ground.chain }], guard := none }) (v := ?_) rfl (by kernel_rfl) (by kernel_rfl) (by kernel_rfl) (fun _ _ _ h => h) (Or.inl ⟨by rfl, fun w hSw => ?hy1⟩) (by assumption) ?rest1
  case hy1 =>
    (try dsimp only at hSw)
    go_simp
    (try with_reducible rfl)
  (try simp only [Act.put, List.setIfInBounds_toArray, List.set_cons_zero, List.set_cons_succ])
  refine wpAnyH_take (i := 2) (oi := { dst := some 75, op := Op.move (Operand.tmp 6), type := 3, pos := "law.go:75", after := #[{ on := 1, ground := Ground.guard }], guard := some (1, true) }) (v := ?_) rfl (by kernel_rfl) (by kernel_rfl) (by kernel_rfl) (fun _ _ _ h => h) (Or.inl ⟨by rfl, fun w hSw => ?hy2⟩) (by assumption) ?rest2
  case hy2 =>
    (try dsimp only at hSw)
    go_simp
    (try with_reducible rfl)
  (try simp only [Act.put, List.setIfInBounds_toArray, List.set_cons_zero, List.set_cons_succ])
  refine wpAnyH_take (i := 3) (oi := { dst := some 76, op := Op.binOp BinOp.neq 3 (Operand.tmp 75) (Operand.const (Value.int IntKind.i64 6)) 3, type := 4, pos := "law.go:75", after := #[{ on := 2, ground := Ground.data }, { on := 1, ground := Ground.guard }], guard := some (1, true) }) (v := ?_) rfl (by kernel_rfl) (by kernel_rfl) (by kernel_rfl) (fun _ _ _ h => h) (Or.inl ⟨by rfl, fun w hSw => ?hy3⟩) (by assumption) ?rest3
  case hy3 =>
    (try dsimp only at hSw)
    go_simp
    (try with_reducible rfl)
  (try simp only [Act.put, List.setIfInBounds_toArray, List.set_cons_zero, List.set_cons_succ])
  refine wpAnyH_take (i := 4) (oi := { dst := some 77, op := Op.move (Operand.tmp 76), type := 4, pos := "law.go:75", after := #[{ on := 3, ground := Ground.data }, { on := 1, ground := Ground.chain }, { on := 1, ground := Ground.guard }], guard := some (1, true) }) (v := ?_) rfl (by kernel_rfl) (by kernel_rfl) (by kernel_rfl) (fun _ _ _ h => h) (Or.inl ⟨by rfl, fun w hSw => ?hy4⟩) (by assumption) ?rest4
  case hy4 =>
    (try dsimp only at hSw)
    go_simp
    (try with_reducible rfl)
  (try simp only [Act.put, List.setIfInBounds_toArray, List.set_cons_zero, List.set_cons_succ])
  refine wpAnyH_take (i := 5) (oi := { dst := some 78, op := Op.load 24 (Operand.tmp 3), type := 24, pos := "law.go:75", after := #[{ on := 4, ground := Ground.guard }], guard := some (4, false) }) (v := undef) rfl (by kernel_rfl) (by kernel_rfl) (by kernel_rfl) (fun _ _ _ h => h) (Or.inr ⟨by rfl, rfl⟩) (by assumption) ?_
  (try simp only [Act.put, List.setIfInBounds_toArray, List.set_cons_zero, List.set_cons_succ])
  refine wpAnyH_take (i := 6) (oi := { dst := some 79, op := Op.fieldAddr 24 (Operand.tmp 3) 0, type := 0, pos := "law.go:75", after := #[{ on := 4, ground := Ground.guard }], guard := some (4, false) }) (v := undef) rfl (by kernel_rfl) (by kernel_rfl) (by kernel_rfl) (fun _ _ _ h => h) (Or.inr ⟨by rfl, rfl⟩) (by assumption) ?_
  (try simp only [Act.put, List.setIfInBounds_toArray, List.set_cons_zero, List.set_cons_succ])
  refine wpAnyH_take (i := 7) (oi := { dst := some 80, op := Op.load 3 (Operand.tmp 79), type := 3, pos := "law.go:75", after := #[{ on := 6, ground := Ground.data }, { on := 4, ground := Ground.guard }], guard := some (4, false) }) (v := undef) rfl (by kernel_rfl) (by kernel_rfl) (by kernel_rfl) (fun _ _ _ h => h) (Or.inr ⟨by rfl, rfl⟩) (by assumption) ?_
  (try simp only [Act.put, List.setIfInBounds_toArray, List.set_cons_zero, List.set_cons_succ])
  refine wpAnyH_take (i := 8) (oi := { dst := some 81, op := Op.build 24 #[(0, Operand.tmp 80)], type := 24, pos := "law.go:75", after := #[{ on := 7, ground := Ground.data }, { on := 4, ground := Ground.guard }], guard := some (4, false) }) (v := undef) rfl (by kernel_rfl) (by kernel_rfl) (by kernel_rfl) (fun _ _ _ h => h) (Or.inr ⟨by rfl, rfl⟩) (by assumption) ?_
  (try simp only [Act.put, List.setIfInBounds_toArray, List.set_cons_zero, List.set_cons_succ])
  refine wpAnyH_take (i := 9) (oi := { dst := some 82, op := Op.binOp BinOp.eql 24 (Operand.tmp 78) (Operand.tmp 81) 24, type := 4, pos := "law.go:75", after := #[{ on := 5, ground := Ground.data }, { on := 8, ground := Ground.data }, { on := 4, ground := Ground.guard }], guard := some (4, false) }) (v := undef) rfl (by kernel_rfl) (by kernel_rfl) (by kernel_rfl) (fun _ _ _ h => h) (Or.inr ⟨by rfl, rfl⟩) (by assumption) ?_
  (try simp only [Act.put, List.setIfInBounds_toArray, List.set_cons_zero, List.set_cons_succ])
  refine wpAnyH_take (i := 10) (oi := { dst := some 83, op := Op.pick (Operand.tmp 77) (Operand.const (Value.bool true)) (Operand.tmp 82), type := 4, pos := "law.go:75", after := #[{ on := 4, ground := Ground.data }, { on := 9, ground := Ground.data }, { on := 1, ground := Ground.guard }], guard := some (1, true) }) (v := ?_) rfl (by kernel_rfl) (by kernel_rfl) (by kernel_rfl) (fun _ _ _ h => h) (Or.inl ⟨by rfl, fun w hSw => ?hy10⟩) (by assumption) ?rest10
  case hy10 =>
    (try dsimp only at hSw)
    go_simp
    (try with_reducible rfl)
  (try simp only [Act.put, List.setIfInBounds_toArray, List.set_cons_zero, List.set_cons_succ])
  refine wpAnyH_take (i := 11) (oi := { dst := some 84, op := Op.pick (Operand.tmp 74) (Operand.tmp 83) (Operand.const (Value.bool false)), type := 4, pos := "law.go:75", after := #[{ on := 1, ground := Ground.data }, { on := 10, ground := Ground.data }], guard := none }) (v := ?_) rfl (by kernel_rfl) (by kernel_rfl) (by kernel_rfl) (fun _ _ _ h => h) (Or.inl ⟨by rfl, fun w hSw => ?hy11⟩) (by assumption) ?rest11
  case hy11 =>
    (try dsimp only at hSw)
    go_simp
    (try with_reducible rfl)
  (try simp only [Act.put, List.setIfInBounds_toArray, List.set_cons_zero, List.set_cons_succ])
  refine wpAnyH_take (i := 12) (oi := { dst := some 85, op := Op.move (Operand.tmp 84), type := 4, pos := "law.go:75", after := #[{ on := 11, ground := Ground.data }, { on := 4, ground := Ground.chain }], guard := none }) (v := ?_) rfl (by kernel_rfl) (by kernel_rfl) (by kernel_rfl) (fun _ _ _ h => h) (Or.inl ⟨by rfl, fun w hSw => ?hy12⟩) (by assumption) ?rest12
  case hy12 =>
    (try dsimp only at hSw)
    go_simp
    (try with_reducible rfl)
  (try simp only [Act.put, List.setIfInBounds_toArray, List.set_cons_zero, List.set_cons_succ])
  refine wpAnyH_take (i := 13) (oi := { dst := some 86, op := Op.move (Operand.tmp 6), type := 3, pos := "law.go:75", after := #[{ on := 12, ground := Ground.guard }], guard := some (12, true) }) (v := ?_) rfl (by kernel_rfl) (by kernel_rfl) (by kernel_rfl) (fun _ _ _ h => h) (Or.inl ⟨by rfl, fun w hSw => ?hy13⟩) (by assumption) ?rest13
  case hy13 =>
    (try dsimp only at hSw)
    go_simp
    (try with_reducible rfl)
  (try simp only [Act.put, List.setIfInBounds_toArray, List.set_cons_zero, List.set_cons_succ])
  refine wpAnyH_take (i := 14) (oi := { dst := some 87, op := Op.binOp BinOp.neq 3 (Operand.tmp 86) (Operand.const (Value.int IntKind.i64 1)) 3, type := 4, pos := "law.go:75", after := #[{ on := 13, ground := Ground.data }, { on := 12, ground := Ground.guard }], guard := some (12, true) }) (v := ?_) rfl (by kernel_rfl) (by kernel_rfl) (by kernel_rfl) (fun _ _ _ h => h) (Or.inl ⟨by rfl, fun w hSw => ?hy14⟩) (by assumption) ?rest14
  case hy14 =>
    (try dsimp only at hSw)
    go_simp
    (try with_reducible rfl)
  (try simp only [Act.put, List.setIfInBounds_toArray, List.set_cons_zero, List.set_cons_succ])
  refine wpAnyH_take (i := 15) (oi := { dst := some 88, op := Op.move (Operand.tmp 87), type := 4, pos := "law.go:75", after := #[{ on := 14, ground := Ground.data }, { on := 12, ground := Ground.chain }, { on := 12, ground := Ground.guard }], guard := some (12, true) }) (v := ?_) rfl (by kernel_rfl) (by kernel_rfl) (by kernel_rfl) (fun _ _ _ h => h) (Or.inl ⟨by rfl, fun w hSw => ?hy15⟩) (by assumption) ?rest15
  case hy15 =>
    (try dsimp only at hSw)
    go_simp
    (try with_reducible rfl)
  (try simp only [Act.put, List.setIfInBounds_toArray, List.set_cons_zero, List.set_cons_succ])
  refine wpAnyH_take (i := 16) (oi := { dst := some 89, op := Op.move (Operand.tmp 6), type := 3, pos := "law.go:75", after := #[{ on := 15, ground := Ground.guard }], guard := some (15, true) }) (v := undef) rfl (by kernel_rfl) (by kernel_rfl) (by kernel_rfl) (fun _ _ _ h => h) (Or.inr ⟨by rfl, rfl⟩) (by assumption) ?_
  (try simp only [Act.put, List.setIfInBounds_toArray, List.set_cons_zero, List.set_cons_succ])
  refine wpAnyH_take (i := 17) (oi := { dst := some 90, op := Op.binOp BinOp.neq 3 (Operand.tmp 89) (Operand.const (Value.int IntKind.i64 2)) 3, type := 4, pos := "law.go:75", after := #[{ on := 16, ground := Ground.data }, { on := 15, ground := Ground.guard }], guard := some (15, true) }) (v := undef) rfl (by kernel_rfl) (by kernel_rfl) (by kernel_rfl) (fun _ _ _ h => h) (Or.inr ⟨by rfl, rfl⟩) (by assumption) ?_
  (try simp only [Act.put, List.setIfInBounds_toArray, List.set_cons_zero, List.set_cons_succ])
  refine wpAnyH_take (i := 18) (oi := { dst := some 91, op := Op.pick (Operand.tmp 88) (Operand.tmp 90) (Operand.const (Value.bool false)), type := 4, pos := "law.go:75", after := #[{ on := 15, ground := Ground.data }, { on := 17, ground := Ground.data }, { on := 12, ground := Ground.guard }], guard := some (12, true) }) (v := ?_) rfl (by kernel_rfl) (by kernel_rfl) (by kernel_rfl) (fun _ _ _ h => h) (Or.inl ⟨by rfl, fun w hSw => ?hy18⟩) (by assumption) ?rest18
  case hy18 =>
    (try dsimp only at hSw)
    go_simp
    (try with_reducible rfl)
  (try simp only [Act.put, List.setIfInBounds_toArray, List.set_cons_zero, List.set_cons_succ])
  refine wpAnyH_take (i := 19) (oi := { dst := some 92, op := Op.move (Operand.tmp 91), type := 4, pos := "law.go:75", after := #[{ on := 18, ground := Ground.data }, { on := 15, ground := Ground.chain }, { on := 12, ground := Ground.guard }], guard := some (12, true) }) (v := ?_) rfl (by kernel_rfl) (by kernel_rfl) (by kernel_rfl) (fun _ _ _ h => h) (Or.inl ⟨by rfl, fun w hSw => ?hy19⟩) (by assumption) ?rest19
  case hy19 =>
    (try dsimp only at hSw)
    go_simp
    (try with_reducible rfl)
  (try simp only [Act.put, List.setIfInBounds_toArray, List.set_cons_zero, List.set_cons_succ])
  refine wpAnyH_take (i := 20) (oi := { dst := some 93, op := Op.fieldAddr 24 (Operand.tmp 3) 4, type := 0, pos := "law.go:75", after := #[{ on := 19, ground := Ground.guard }], guard := some (19, false) }) (v := ?_) rfl (by kernel_rfl) (by kernel_rfl) (by kernel_rfl) (fun _ _ _ h => h) (Or.inl ⟨by rfl, fun w hSw => ?hy20⟩) (by assumption) ?rest20
  case hy20 =>
    (try dsimp only at hSw)
    go_simp
    (try with_reducible rfl)
  (try simp only [Act.put, List.setIfInBounds_toArray, List.set_cons_zero, List.set_cons_succ])
  refine wpAnyH_take (i := 21) (oi := { dst := some 94, op := Op.load 22 (Operand.tmp 93), type := 22, pos := "law.go:75", after := #[{ on := 20, ground := Ground.data }, { on := 19, ground := Ground.guard }], guard := some (19, false) }) (v := ?_) rfl (by kernel_rfl) (by kernel_rfl) (by kernel_rfl) (fun _ _ _ h => h) (Or.inl ⟨by rfl, fun w hSw => ?hy21⟩) (by assumption) ?rest21
  case hy21 =>
    (try dsimp only at hSw)
    go_simp
    (try with_reducible rfl)
  (try simp only [Act.put, List.setIfInBounds_toArray, List.set_cons_zero, List.set_cons_succ])
  refine wpAnyH_take (i := 22) (oi := { dst := some 95, op := Op.binOp BinOp.eql 22 (Operand.tmp 94) (Operand.const (Value.int IntKind.u32 0)) 22, type := 4, pos := "law.go:75", after := #[{ on := 21, ground := Ground.data }, { on := 19, ground := Ground.guard }], guard := some (19, false) }) (v := ?_) rfl (by kernel_rfl) (by kernel_rfl) (by kernel_rfl) (fun _ _ _ h => h) (Or.inl ⟨by rfl, fun w hSw => ?hy22⟩) (by assumption) ?rest22
  case hy22 =>
    (try dsimp only at hSw)
    go_simp
    (try with_reducible rfl)
  (try simp only [Act.put, List.setIfInBounds_toArray, List.set_cons_zero, List.set_cons_succ])
  refine wpAnyH_take (i := 23) (oi := { dst := some 96, op := Op.pick (Operand.tmp 92) (Operand.const (Value.bool true)) (Operand.tmp 95), type := 4, pos := "law.go:75", after := #[{ on := 19, ground := Ground.data }, { on := 22, ground := Ground.data }, { on := 12, ground := Ground.guard }], guard := some (12, true) }) (v := ?_) rfl (by kernel_rfl) (by kernel_rfl) (by kernel_rfl) (fun _ _ _ h => h) (Or.inl ⟨by rfl, fun w hSw => ?hy23⟩) (by assumption) ?rest23
  case hy23 =>
    (try dsimp only at hSw)
    go_simp
    (try with_reducible rfl)
  (try simp only [Act.put, List.setIfInBounds_toArray, List.set_cons_zero, List.set_cons_succ])
  refine wpAnyH_take (i := 24) (oi := { dst := some 97, op := Op.pick (Operand.tmp 85) (Operand.tmp 96) (Operand.const (Value.bool false)), type := 4, pos := "law.go:75", after := #[{ on := 12, ground := Ground.data }, { on := 23, ground := Ground.data }], guard := none }) (v := ?_) rfl (by kernel_rfl) (by kernel_rfl) (by kernel_rfl) (fun _ _ _ h => h) (Or.inl ⟨by rfl, fun w hSw => ?hy24⟩) (by assumption) ?rest24
  case hy24 =>
    (try dsimp only at hSw)
    go_simp
    (try with_reducible rfl)
  (try simp only [Act.put, List.setIfInBounds_toArray, List.set_cons_zero, List.set_cons_succ])
  refine wpAnyH_take (i := 25) (oi := { dst := some 98, op := Op.move (Operand.tmp 97), type := 4, pos := "law.go:75", after := #[{ on := 24, ground := Ground.data }, { on := 19, ground := Ground.chain }], guard := none }) (v := ?_) rfl (by kernel_rfl) (by kernel_rfl) (by kernel_rfl) (fun _ _ _ h => h) (Or.inl ⟨by rfl, fun w hSw => ?hy25⟩) (by assumption) ?rest25
  case hy25 =>
    (try dsimp only at hSw)
    go_simp
    (try with_reducible rfl)
  (try simp only [Act.put, List.setIfInBounds_toArray, List.set_cons_zero, List.set_cons_succ])
  refine wpAnyH_take (i := 26) (oi := { dst := some 99, op := Op.load 24 (Operand.tmp 3), type := 24, pos := "law.go:75", after := #[{ on := 25, ground := Ground.guard }], guard := some (25, true) }) (v := ?_) rfl (by kernel_rfl) (by kernel_rfl) (by kernel_rfl) (fun _ _ _ h => h) (Or.inl ⟨by rfl, fun w hSw => ?hy26⟩) (by assumption) ?rest26
  case hy26 =>
    (try dsimp only at hSw)
    go_simp
    (try with_reducible rfl)
  (try simp only [Act.put, List.setIfInBounds_toArray, List.set_cons_zero, List.set_cons_succ])
  refine wpAnyH_take (i := 28) (oi := { dst := some 101, op := Op.fieldAddr 24 (Operand.tmp 3) 1, type := 0, pos := "law.go:75", after := #[{ on := 25, ground := Ground.guard }], guard := some (25, true) }) (v := ?_) rfl (by kernel_rfl) (by kernel_rfl) (by kernel_rfl) (fun _ _ _ h => h) (Or.inl ⟨by rfl, fun w hSw => ?hy28⟩) (by assumption) ?rest28
  case hy28 =>
    (try dsimp only at hSw)
    go_simp
    (try with_reducible rfl)
  (try simp only [Act.put, List.setIfInBounds_toArray, List.set_cons_zero, List.set_cons_succ])
  refine wpAnyH_take (i := 29) (oi := { dst := some 102, op := Op.load 3 (Operand.tmp 101), type := 3, pos := "law.go:75", after := #[{ on := 28, ground := Ground.data }, { on := 25, ground := Ground.guard }], guard := some (25, true) }) (v := ?_) rfl (by kernel_rfl) (by kernel_rfl) (by kernel_rfl) (fun _ _ _ h => h) (Or.inl ⟨by rfl, fun w hSw => ?hy29⟩) (by assumption) ?rest29
  case hy29 =>
    (try dsimp only at hSw)
    go_simp
    (try with_reducible rfl)
  (try simp only [Act.put, List.setIfInBounds_toArray, List.set_cons_zero, List.set_cons_succ])
  refine wpAnyH_ready (rs := [27]) (by kernel_rfl) (by simp) ?_
  refine AllReadyH.cons (o := { dst := some 100, op := Op.call { callee := Callee.value (Operand.func 14), args := #[Operand.tmp 99], argTypes := #[24] }, type := 3, pos := "law.go:75", after := #[{ on := 26, ground := Ground.data }, { on := 25, ground := Ground.chain }, { on := 25, ground := Ground.guard }], guard := some (25, true) }) rfl (fun K hK => ?_) AllReadyH.nil
  go_simp
  (go_at_call 14; refine (cw _).mono ?_; rintro e w7 ⟨rfl, B7⟩)
  (try dsimp only)
  refine hK.out _ _ (by (try dsimp only); exact ⟨((N5.drew.kept B6).kept B7).c 0 _ rfl, ((N5.drew.kept B6).kept B7).c 1 _ rfl, ((N5.drew.kept B6).kept B7).c 2 _ rfl, ((N5.drew.kept B6).kept B7).c 3 _ rfl, ((N5.drew.kept B6).kept B7).c 4 _ rfl⟩) (fun hS => ?_)
  clear hK
  (try simp only [Act.put, List.setIfInBounds_toArray, List.set_cons_zero, List.set_cons_succ])
  refine wpAnyH_take (i := 30) (oi := { dst := some 103, op := Op.binOp BinOp.eql 3 (Operand.tmp 100) (Operand.tmp 102) 3, type := 4, pos := "law.go:75", after := #[{ on := 27, ground := Ground.data }, { on := 29, ground := Ground.data }, { on := 25, ground := Ground.guard }], guard := some (25, true) }) (v := ?_) rfl (by kernel_rfl) (by kernel_rfl) (by kernel_rfl) (fun _ _ _ h => h) (Or.inl ⟨by rfl, fun w hSw => ?hy30⟩) (by assumption) ?rest30
  case hy30 =>
    (try dsimp only at hSw)
    go_simp
    (try with_reducible rfl)
  (try simp only [Act.put, List.setIfInBounds_toArray, List.set_cons_zero, List.set_cons_succ])
  refine wpAnyH_take (i := 31) (oi := { dst := some 104, op := Op.pick (Operand.tmp 98) (Operand.tmp 103) (Operand.const (Value.bool false)), type := 4, pos := "law.go:75", after := #[{ on := 25, ground := Ground.data }, { on := 30, ground := Ground.data }], guard := none }) (v := ?_) rfl (by kernel_rfl) (by kernel_rfl) (by kernel_rfl) (fun _ _ _ h => h) (Or.inl ⟨by rfl, fun w hSw => ?hy31⟩) (by assumption) ?rest31
  case hy31 =>
    (try dsimp only at hSw)
    go_simp
    (try with_reducible rfl)
  (try simp only [Act.put, List.setIfInBounds_toArray, List.set_cons_zero, List.set_cons_succ])
  refine wpAnyH_take (i := 32) (oi := { dst := some 2, op := Op.assign (Operand.tmp 104), type := 4, pos := "law.go:75", after := #[{ on := 31, ground := Ground.data }, { on := 27, ground := Ground.chain }, { on := 0, ground := Ground.phase }, { on := 1, ground := Ground.phase }, { on := 2, ground := Ground.phase }, { on := 3, ground := Ground.phase }, { on := 4, ground := Ground.phase }, { on := 5, ground := Ground.phase }, { on := 6, ground := Ground.phase }, { on := 7, ground := Ground.phase }, { on := 8, ground := Ground.phase }, { on := 9, ground := Ground.phase }, { on := 10, ground := Ground.phase }, { on := 11, ground := Ground.phase }, { on := 12, ground := Ground.phase }, { on := 13, ground := Ground.phase }, { on := 14, ground := Ground.phase }, { on := 15, ground := Ground.phase }, { on := 16, ground := Ground.phase }, { on := 17, ground := Ground.phase }, { on := 18, ground := Ground.phase }, { on := 19, ground := Ground.phase }, { on := 20, ground := Ground.phase }, { on := 21, ground := Ground.phase }, { on := 22, ground := Ground.phase }, { on := 23, ground := Ground.phase }, { on := 24, ground := Ground.phase }, { on := 25, ground := Ground.phase }, { on := 26, ground := Ground.phase }, { on := 27, ground := Ground.phase }, { on := 28, ground := Ground.phase }, { on := 29, ground := Ground.phase }, { on := 30, ground := Ground.phase }, { on := 31, ground := Ground.phase }], guard := none }) (v := ?_) rfl (by kernel_rfl) (by kernel_rfl) (by kernel_rfl) (fun _ _ _ h => h) (Or.inl ⟨by rfl, fun w hSw => ?hy32⟩) (by assumption) ?rest32
  case hy32 =>
    (try dsimp only at hSw)
    go_simp
    (try with_reducible rfl)
  (try simp only [Act.put, List.setIfInBounds_toArray, List.set_cons_zero, List.set_cons_succ])
  refine wpAnyH_done (by kernel_rfl) ?_ _
  have hb7 := ((hb5.and (below_drew' _)).and B6).and B7
  go_wp2_with fail
  go_ret
  exact ⟨rfl, hb7⟩

set_option maxRecDepth 100000 in
set_option maxHeartbeats 8000000 in
theorem clean_2 (x : Nat) (o rd rs1 rs2 : Int) (sz : Nat) (rda : 0 ≤ rd) (rdb : rd ≤ 31) (rs1a : 0 ≤ rs1) (rs1b : rs1 ≤ 31) (rs2a : 0 ≤ rs2) (rs2b : rs2 ≤ 31) (hs : sz = 0) (w : World) (hC : Codes w)
    (c1 : ∀ w, Codes w → Calls Tryd.prog 10 #[.int .u32 x] w fun e w' => e = .returned (.tuple #[.agg #[.int .i64 o, .int .i64 rd, .int .i64 rs1, .int .i64 rs2, .int .u32 0], .int .i64 0]) ∧ Below w.heap.size w w')
    (ck : ∀ w, Calls Tryd.prog 13 #[.agg #[.int .i64 o, .int .i64 rd, .int .i64 rs1, .int .i64 rs2, .int .u32 0]] w fun e w' => e = .returned (.int .i64 2) ∧ Below w.heap.size w w')
    (cs : ∀ w, Calls Tryd.prog 17 #[.agg #[.int .i64 o, .int .i64 rd, .int .i64 rs1, .int .i64 rs2, .int .u32 0]] w fun e w' => e = .returned (.int .i64 sz) ∧ Below w.heap.size w w')
    (cw : ∀ w, Calls Tryd.prog 14 #[.agg #[.int .i64 o, .int .i64 rd, .int .i64 rs1, .int .i64 rs2, .int .u32 0]] w fun e w' => e = .returned (.int .i64 rd) ∧ Below w.heap.size w w') :
    Calls Tryd.prog 9 #[.int .u32 x] w fun e w' => e = .returned (.bool true) ∧ Below w.heap.size w w' := by
  subst hs
  go_enter Tryd.func9, Tryd.ntmps9
  go_wp2_with fail
  refine (c1 _ hC).mono ?_; rintro e w1 ⟨rfl, B1⟩
  go_upto_region 4 with (fail)
  have hb2 := B1.and (below_all (.cells #[.int .i64 o, .int .i64 rd, .int .i64 rs1, .int .i64 rs2, .int .u32 0] 24))
  have N2 := Mine.new w1 #[.int .i64 o, .int .i64 rd, .int .i64 rs1, .int .i64 rs2, .int .u32 0] 24
  generalize w1.alloc _ = w2 at *
  generalize w1.heap.size = b1 at *
  have c0 := N2.c 0 _ rfl
  have c1 := N2.c 1 _ rfl
  have c2 := N2.c 2 _ rfl
  have c3 := N2.c 3 _ rfl
  have c4 := N2.c 4 _ rfl
  go_wp2_with fail
  refine (ck _).mono ?_; rintro e w3 ⟨rfl, B3⟩
  have hb3 := hb2.and B3
  have N3 := N2.kept B3
  clear c0 c1 c2 c3 c4 N2 B3 hb2
  have c0 := N3.c 0 _ rfl
  have c1 := N3.c 1 _ rfl
  have c2 := N3.c 2 _ rfl
  have c3 := N3.c 3 _ rfl
  have c4 := N3.c 4 _ rfl
  go_upto_region 9 with (first | (go_at_call 16; refine (in_any _ _ (by first | assumption | decide) (by first | assumption | decide)).mono ?_; rintro e w' ⟨rfl, rfl⟩) | (go_at_call 17; refine (cs _).mono ?_; rintro e w5 ⟨rfl, B5⟩; have e0 := (N3.kept B5).c 0 _ rfl; have e1 := (N3.kept B5).c 1 _ rfl; have e2 := (N3.kept B5).c 2 _ rfl; have e3 := (N3.kept B5).c 3 _ rfl; have e4 := (N3.kept B5).c 4 _ rfl))
  have hb5 := hb3.and B5
  have N5 := N3.kept B5
  clear c0 c1 c2 c3 c4 N3 B5 hb3

  refine wp_region_held_drew (S := fun w' => w'.cell? ⟨b1, 0, none⟩ = some (.int .i64 o) ∧ w'.cell? ⟨b1, 1, none⟩ = some (.int .i64 rd) ∧ w'.cell? ⟨b1, 2, none⟩ = some (.int .i64 rs1) ∧ w'.cell? ⟨b1, 3, none⟩ = some (.int .i64 rs2) ∧ w'.cell? ⟨b1, 4, none⟩ = some (.int .u32 0)) (by kernel_rfl) ⟨N5.drew.c 0 _ rfl, N5.drew.c 1 _ rfl, N5.drew.c 2 _ rfl, N5.drew.c 3 _ rfl, N5.drew.c 4 _ rfl⟩ (fun hS => ?_)
  refine wpAnyH_ready (rs := [0]) (by kernel_rfl) (by simp) ?_
  refine AllReadyH.cons (o := { dst := some 73, op := Op.call { callee := Callee.value (Operand.func 12), args := #[], argTypes := #[] }, type := 4, pos := "law.go:75", after := #[], guard := none }) rfl (fun K hK => ?_) AllReadyH.nil
  go_simp
  (go_at_call 12; refine (alive02 _ (hC.kept (hb5.and (below_drew' _)))).mono ?_; rintro e w6 ⟨rfl, B6⟩)
  (try dsimp only)
  refine hK.out _ _ (by (try dsimp only); exact ⟨(N5.drew.kept B6).c 0 _ rfl, (N5.drew.kept B6).c 1 _ rfl, (N5.drew.kept B6).c 2 _ rfl, (N5.drew.kept B6).c 3 _ rfl, (N5.drew.kept B6).c 4 _ rfl⟩) (fun hS => ?_)
  clear hK
  (try simp only [Act.put, List.setIfInBounds_toArray, List.set_cons_zero, List.set_cons_succ])
  refine wpAnyH_take (i := 1) (oi := { dst := some 74, op := Op.move (Operand.tmp 73), type := 4, pos := "law.go:75", after := #[{ on := 0, ground := Ground.data }, { on := 0, ground := Ground.chain }], guard := none }) (v := ?_) rfl (by kernel_rfl) (by kernel_rfl) (by kernel_rfl) (fun _ _ _ h => h) (Or.inl ⟨by rfl, fun w hSw => ?hy1⟩) (by assumption) ?rest1
  case hy1 =>
    (try dsimp only at hSw)
    go_simp
    (try with_reducible rfl)
  (try simp only [Act.put, List.setIfInBounds_toArray, List.set_cons_zero, List.set_cons_succ])
  refine wpAnyH_take (i := 2) (oi := { dst := some 75, op := Op.move (Operand.tmp 6), type := 3, pos := "law.go:75", after := #[{ on := 1, ground := Ground.guard }], guard := some (1, true) }) (v := ?_) rfl (by kernel_rfl) (by kernel_rfl) (by kernel_rfl) (fun _ _ _ h => h) (Or.inl ⟨by rfl, fun w hSw => ?hy2⟩) (by assumption) ?rest2
  case hy2 =>
    (try dsimp only at hSw)
    go_simp
    (try with_reducible rfl)
  (try simp only [Act.put, List.setIfInBounds_toArray, List.set_cons_zero, List.set_cons_succ])
  refine wpAnyH_take (i := 3) (oi := { dst := some 76, op := Op.binOp BinOp.neq 3 (Operand.tmp 75) (Operand.const (Value.int IntKind.i64 6)) 3, type := 4, pos := "law.go:75", after := #[{ on := 2, ground := Ground.data }, { on := 1, ground := Ground.guard }], guard := some (1, true) }) (v := ?_) rfl (by kernel_rfl) (by kernel_rfl) (by kernel_rfl) (fun _ _ _ h => h) (Or.inl ⟨by rfl, fun w hSw => ?hy3⟩) (by assumption) ?rest3
  case hy3 =>
    (try dsimp only at hSw)
    go_simp
    (try with_reducible rfl)
  (try simp only [Act.put, List.setIfInBounds_toArray, List.set_cons_zero, List.set_cons_succ])
  refine wpAnyH_take (i := 4) (oi := { dst := some 77, op := Op.move (Operand.tmp 76), type := 4, pos := "law.go:75", after := #[{ on := 3, ground := Ground.data }, { on := 1, ground := Ground.chain }, { on := 1, ground := Ground.guard }], guard := some (1, true) }) (v := ?_) rfl (by kernel_rfl) (by kernel_rfl) (by kernel_rfl) (fun _ _ _ h => h) (Or.inl ⟨by rfl, fun w hSw => ?hy4⟩) (by assumption) ?rest4
  case hy4 =>
    (try dsimp only at hSw)
    go_simp
    (try with_reducible rfl)
  (try simp only [Act.put, List.setIfInBounds_toArray, List.set_cons_zero, List.set_cons_succ])
  refine wpAnyH_take (i := 5) (oi := { dst := some 78, op := Op.load 24 (Operand.tmp 3), type := 24, pos := "law.go:75", after := #[{ on := 4, ground := Ground.guard }], guard := some (4, false) }) (v := undef) rfl (by kernel_rfl) (by kernel_rfl) (by kernel_rfl) (fun _ _ _ h => h) (Or.inr ⟨by rfl, rfl⟩) (by assumption) ?_
  (try simp only [Act.put, List.setIfInBounds_toArray, List.set_cons_zero, List.set_cons_succ])
  refine wpAnyH_take (i := 6) (oi := { dst := some 79, op := Op.fieldAddr 24 (Operand.tmp 3) 0, type := 0, pos := "law.go:75", after := #[{ on := 4, ground := Ground.guard }], guard := some (4, false) }) (v := undef) rfl (by kernel_rfl) (by kernel_rfl) (by kernel_rfl) (fun _ _ _ h => h) (Or.inr ⟨by rfl, rfl⟩) (by assumption) ?_
  (try simp only [Act.put, List.setIfInBounds_toArray, List.set_cons_zero, List.set_cons_succ])
  refine wpAnyH_take (i := 7) (oi := { dst := some 80, op := Op.load 3 (Operand.tmp 79), type := 3, pos := "law.go:75", after := #[{ on := 6, ground := Ground.data }, { on := 4, ground := Ground.guard }], guard := some (4, false) }) (v := undef) rfl (by kernel_rfl) (by kernel_rfl) (by kernel_rfl) (fun _ _ _ h => h) (Or.inr ⟨by rfl, rfl⟩) (by assumption) ?_
  (try simp only [Act.put, List.setIfInBounds_toArray, List.set_cons_zero, List.set_cons_succ])
  refine wpAnyH_take (i := 8) (oi := { dst := some 81, op := Op.build 24 #[(0, Operand.tmp 80)], type := 24, pos := "law.go:75", after := #[{ on := 7, ground := Ground.data }, { on := 4, ground := Ground.guard }], guard := some (4, false) }) (v := undef) rfl (by kernel_rfl) (by kernel_rfl) (by kernel_rfl) (fun _ _ _ h => h) (Or.inr ⟨by rfl, rfl⟩) (by assumption) ?_
  (try simp only [Act.put, List.setIfInBounds_toArray, List.set_cons_zero, List.set_cons_succ])
  refine wpAnyH_take (i := 9) (oi := { dst := some 82, op := Op.binOp BinOp.eql 24 (Operand.tmp 78) (Operand.tmp 81) 24, type := 4, pos := "law.go:75", after := #[{ on := 5, ground := Ground.data }, { on := 8, ground := Ground.data }, { on := 4, ground := Ground.guard }], guard := some (4, false) }) (v := undef) rfl (by kernel_rfl) (by kernel_rfl) (by kernel_rfl) (fun _ _ _ h => h) (Or.inr ⟨by rfl, rfl⟩) (by assumption) ?_
  (try simp only [Act.put, List.setIfInBounds_toArray, List.set_cons_zero, List.set_cons_succ])
  refine wpAnyH_take (i := 10) (oi := { dst := some 83, op := Op.pick (Operand.tmp 77) (Operand.const (Value.bool true)) (Operand.tmp 82), type := 4, pos := "law.go:75", after := #[{ on := 4, ground := Ground.data }, { on := 9, ground := Ground.data }, { on := 1, ground := Ground.guard }], guard := some (1, true) }) (v := ?_) rfl (by kernel_rfl) (by kernel_rfl) (by kernel_rfl) (fun _ _ _ h => h) (Or.inl ⟨by rfl, fun w hSw => ?hy10⟩) (by assumption) ?rest10
  case hy10 =>
    (try dsimp only at hSw)
    go_simp
    (try with_reducible rfl)
  (try simp only [Act.put, List.setIfInBounds_toArray, List.set_cons_zero, List.set_cons_succ])
  refine wpAnyH_take (i := 11) (oi := { dst := some 84, op := Op.pick (Operand.tmp 74) (Operand.tmp 83) (Operand.const (Value.bool false)), type := 4, pos := "law.go:75", after := #[{ on := 1, ground := Ground.data }, { on := 10, ground := Ground.data }], guard := none }) (v := ?_) rfl (by kernel_rfl) (by kernel_rfl) (by kernel_rfl) (fun _ _ _ h => h) (Or.inl ⟨by rfl, fun w hSw => ?hy11⟩) (by assumption) ?rest11
  case hy11 =>
    (try dsimp only at hSw)
    go_simp
    (try with_reducible rfl)
  (try simp only [Act.put, List.setIfInBounds_toArray, List.set_cons_zero, List.set_cons_succ])
  refine wpAnyH_take (i := 12) (oi := { dst := some 85, op := Op.move (Operand.tmp 84), type := 4, pos := "law.go:75", after := #[{ on := 11, ground := Ground.data }, { on := 4, ground := Ground.chain }], guard := none }) (v := ?_) rfl (by kernel_rfl) (by kernel_rfl) (by kernel_rfl) (fun _ _ _ h => h) (Or.inl ⟨by rfl, fun w hSw => ?hy12⟩) (by assumption) ?rest12
  case hy12 =>
    (try dsimp only at hSw)
    go_simp
    (try with_reducible rfl)
  (try simp only [Act.put, List.setIfInBounds_toArray, List.set_cons_zero, List.set_cons_succ])
  refine wpAnyH_take (i := 13) (oi := { dst := some 86, op := Op.move (Operand.tmp 6), type := 3, pos := "law.go:75", after := #[{ on := 12, ground := Ground.guard }], guard := some (12, true) }) (v := ?_) rfl (by kernel_rfl) (by kernel_rfl) (by kernel_rfl) (fun _ _ _ h => h) (Or.inl ⟨by rfl, fun w hSw => ?hy13⟩) (by assumption) ?rest13
  case hy13 =>
    (try dsimp only at hSw)
    go_simp
    (try with_reducible rfl)
  (try simp only [Act.put, List.setIfInBounds_toArray, List.set_cons_zero, List.set_cons_succ])
  refine wpAnyH_take (i := 14) (oi := { dst := some 87, op := Op.binOp BinOp.neq 3 (Operand.tmp 86) (Operand.const (Value.int IntKind.i64 1)) 3, type := 4, pos := "law.go:75", after := #[{ on := 13, ground := Ground.data }, { on := 12, ground := Ground.guard }], guard := some (12, true) }) (v := ?_) rfl (by kernel_rfl) (by kernel_rfl) (by kernel_rfl) (fun _ _ _ h => h) (Or.inl ⟨by rfl, fun w hSw => ?hy14⟩) (by assumption) ?rest14
  case hy14 =>
    (try dsimp only at hSw)
    go_simp
    (try with_reducible rfl)
  (try simp only [Act.put, List.setIfInBounds_toArray, List.set_cons_zero, List.set_cons_succ])
  refine wpAnyH_take (i := 15) (oi := { dst := some 88, op := Op.move (Operand.tmp 87), type := 4, pos := "law.go:75", after := #[{ on := 14, ground := Ground.data }, { on := 12, ground := Ground.chain }, { on := 12, ground := Ground.guard }], guard := some (12, true) }) (v := ?_) rfl (by kernel_rfl) (by kernel_rfl) (by kernel_rfl) (fun _ _ _ h => h) (Or.inl ⟨by rfl, fun w hSw => ?hy15⟩) (by assumption) ?rest15
  case hy15 =>
    (try dsimp only at hSw)
    go_simp
    (try with_reducible rfl)
  (try simp only [Act.put, List.setIfInBounds_toArray, List.set_cons_zero, List.set_cons_succ])
  refine wpAnyH_take (i := 16) (oi := { dst := some 89, op := Op.move (Operand.tmp 6), type := 3, pos := "law.go:75", after := #[{ on := 15, ground := Ground.guard }], guard := some (15, true) }) (v := ?_) rfl (by kernel_rfl) (by kernel_rfl) (by kernel_rfl) (fun _ _ _ h => h) (Or.inl ⟨by rfl, fun w hSw => ?hy16⟩) (by assumption) ?rest16
  case hy16 =>
    (try dsimp only at hSw)
    go_simp
    (try with_reducible rfl)
  (try simp only [Act.put, List.setIfInBounds_toArray, List.set_cons_zero, List.set_cons_succ])
  refine wpAnyH_take (i := 17) (oi := { dst := some 90, op := Op.binOp BinOp.neq 3 (Operand.tmp 89) (Operand.const (Value.int IntKind.i64 2)) 3, type := 4, pos := "law.go:75", after := #[{ on := 16, ground := Ground.data }, { on := 15, ground := Ground.guard }], guard := some (15, true) }) (v := ?_) rfl (by kernel_rfl) (by kernel_rfl) (by kernel_rfl) (fun _ _ _ h => h) (Or.inl ⟨by rfl, fun w hSw => ?hy17⟩) (by assumption) ?rest17
  case hy17 =>
    (try dsimp only at hSw)
    go_simp
    (try with_reducible rfl)
  (try simp only [Act.put, List.setIfInBounds_toArray, List.set_cons_zero, List.set_cons_succ])
  refine wpAnyH_take (i := 18) (oi := { dst := some 91, op := Op.pick (Operand.tmp 88) (Operand.tmp 90) (Operand.const (Value.bool false)), type := 4, pos := "law.go:75", after := #[{ on := 15, ground := Ground.data }, { on := 17, ground := Ground.data }, { on := 12, ground := Ground.guard }], guard := some (12, true) }) (v := ?_) rfl (by kernel_rfl) (by kernel_rfl) (by kernel_rfl) (fun _ _ _ h => h) (Or.inl ⟨by rfl, fun w hSw => ?hy18⟩) (by assumption) ?rest18
  case hy18 =>
    (try dsimp only at hSw)
    go_simp
    (try with_reducible rfl)
  (try simp only [Act.put, List.setIfInBounds_toArray, List.set_cons_zero, List.set_cons_succ])
  refine wpAnyH_take (i := 19) (oi := { dst := some 92, op := Op.move (Operand.tmp 91), type := 4, pos := "law.go:75", after := #[{ on := 18, ground := Ground.data }, { on := 15, ground := Ground.chain }, { on := 12, ground := Ground.guard }], guard := some (12, true) }) (v := ?_) rfl (by kernel_rfl) (by kernel_rfl) (by kernel_rfl) (fun _ _ _ h => h) (Or.inl ⟨by rfl, fun w hSw => ?hy19⟩) (by assumption) ?rest19
  case hy19 =>
    (try dsimp only at hSw)
    go_simp
    (try with_reducible rfl)
  (try simp only [Act.put, List.setIfInBounds_toArray, List.set_cons_zero, List.set_cons_succ])
  refine wpAnyH_take (i := 20) (oi := { dst := some 93, op := Op.fieldAddr 24 (Operand.tmp 3) 4, type := 0, pos := "law.go:75", after := #[{ on := 19, ground := Ground.guard }], guard := some (19, false) }) (v := ?_) rfl (by kernel_rfl) (by kernel_rfl) (by kernel_rfl) (fun _ _ _ h => h) (Or.inl ⟨by rfl, fun w hSw => ?hy20⟩) (by assumption) ?rest20
  case hy20 =>
    (try dsimp only at hSw)
    go_simp
    (try with_reducible rfl)
  (try simp only [Act.put, List.setIfInBounds_toArray, List.set_cons_zero, List.set_cons_succ])
  refine wpAnyH_take (i := 21) (oi := { dst := some 94, op := Op.load 22 (Operand.tmp 93), type := 22, pos := "law.go:75", after := #[{ on := 20, ground := Ground.data }, { on := 19, ground := Ground.guard }], guard := some (19, false) }) (v := ?_) rfl (by kernel_rfl) (by kernel_rfl) (by kernel_rfl) (fun _ _ _ h => h) (Or.inl ⟨by rfl, fun w hSw => ?hy21⟩) (by assumption) ?rest21
  case hy21 =>
    (try dsimp only at hSw)
    go_simp
    (try with_reducible rfl)
  (try simp only [Act.put, List.setIfInBounds_toArray, List.set_cons_zero, List.set_cons_succ])
  refine wpAnyH_take (i := 22) (oi := { dst := some 95, op := Op.binOp BinOp.eql 22 (Operand.tmp 94) (Operand.const (Value.int IntKind.u32 0)) 22, type := 4, pos := "law.go:75", after := #[{ on := 21, ground := Ground.data }, { on := 19, ground := Ground.guard }], guard := some (19, false) }) (v := ?_) rfl (by kernel_rfl) (by kernel_rfl) (by kernel_rfl) (fun _ _ _ h => h) (Or.inl ⟨by rfl, fun w hSw => ?hy22⟩) (by assumption) ?rest22
  case hy22 =>
    (try dsimp only at hSw)
    go_simp
    (try with_reducible rfl)
  (try simp only [Act.put, List.setIfInBounds_toArray, List.set_cons_zero, List.set_cons_succ])
  refine wpAnyH_take (i := 23) (oi := { dst := some 96, op := Op.pick (Operand.tmp 92) (Operand.const (Value.bool true)) (Operand.tmp 95), type := 4, pos := "law.go:75", after := #[{ on := 19, ground := Ground.data }, { on := 22, ground := Ground.data }, { on := 12, ground := Ground.guard }], guard := some (12, true) }) (v := ?_) rfl (by kernel_rfl) (by kernel_rfl) (by kernel_rfl) (fun _ _ _ h => h) (Or.inl ⟨by rfl, fun w hSw => ?hy23⟩) (by assumption) ?rest23
  case hy23 =>
    (try dsimp only at hSw)
    go_simp
    (try with_reducible rfl)
  (try simp only [Act.put, List.setIfInBounds_toArray, List.set_cons_zero, List.set_cons_succ])
  refine wpAnyH_take (i := 24) (oi := { dst := some 97, op := Op.pick (Operand.tmp 85) (Operand.tmp 96) (Operand.const (Value.bool false)), type := 4, pos := "law.go:75", after := #[{ on := 12, ground := Ground.data }, { on := 23, ground := Ground.data }], guard := none }) (v := ?_) rfl (by kernel_rfl) (by kernel_rfl) (by kernel_rfl) (fun _ _ _ h => h) (Or.inl ⟨by rfl, fun w hSw => ?hy24⟩) (by assumption) ?rest24
  case hy24 =>
    (try dsimp only at hSw)
    go_simp
    (try with_reducible rfl)
  (try simp only [Act.put, List.setIfInBounds_toArray, List.set_cons_zero, List.set_cons_succ])
  refine wpAnyH_take (i := 25) (oi := { dst := some 98, op := Op.move (Operand.tmp 97), type := 4, pos := "law.go:75", after := #[{ on := 24, ground := Ground.data }, { on := 19, ground := Ground.chain }], guard := none }) (v := ?_) rfl (by kernel_rfl) (by kernel_rfl) (by kernel_rfl) (fun _ _ _ h => h) (Or.inl ⟨by rfl, fun w hSw => ?hy25⟩) (by assumption) ?rest25
  case hy25 =>
    (try dsimp only at hSw)
    go_simp
    (try with_reducible rfl)
  (try simp only [Act.put, List.setIfInBounds_toArray, List.set_cons_zero, List.set_cons_succ])
  refine wpAnyH_take (i := 26) (oi := { dst := some 99, op := Op.load 24 (Operand.tmp 3), type := 24, pos := "law.go:75", after := #[{ on := 25, ground := Ground.guard }], guard := some (25, true) }) (v := ?_) rfl (by kernel_rfl) (by kernel_rfl) (by kernel_rfl) (fun _ _ _ h => h) (Or.inl ⟨by rfl, fun w hSw => ?hy26⟩) (by assumption) ?rest26
  case hy26 =>
    (try dsimp only at hSw)
    go_simp
    (try with_reducible rfl)
  (try simp only [Act.put, List.setIfInBounds_toArray, List.set_cons_zero, List.set_cons_succ])
  refine wpAnyH_take (i := 28) (oi := { dst := some 101, op := Op.fieldAddr 24 (Operand.tmp 3) 1, type := 0, pos := "law.go:75", after := #[{ on := 25, ground := Ground.guard }], guard := some (25, true) }) (v := ?_) rfl (by kernel_rfl) (by kernel_rfl) (by kernel_rfl) (fun _ _ _ h => h) (Or.inl ⟨by rfl, fun w hSw => ?hy28⟩) (by assumption) ?rest28
  case hy28 =>
    (try dsimp only at hSw)
    go_simp
    (try with_reducible rfl)
  (try simp only [Act.put, List.setIfInBounds_toArray, List.set_cons_zero, List.set_cons_succ])
  refine wpAnyH_take (i := 29) (oi := { dst := some 102, op := Op.load 3 (Operand.tmp 101), type := 3, pos := "law.go:75", after := #[{ on := 28, ground := Ground.data }, { on := 25, ground := Ground.guard }], guard := some (25, true) }) (v := ?_) rfl (by kernel_rfl) (by kernel_rfl) (by kernel_rfl) (fun _ _ _ h => h) (Or.inl ⟨by rfl, fun w hSw => ?hy29⟩) (by assumption) ?rest29
  case hy29 =>
    (try dsimp only at hSw)
    go_simp
    (try with_reducible rfl)
  (try simp only [Act.put, List.setIfInBounds_toArray, List.set_cons_zero, List.set_cons_succ])
  refine wpAnyH_ready (rs := [27]) (by kernel_rfl) (by simp) ?_
  refine AllReadyH.cons (o := { dst := some 100, op := Op.call { callee := Callee.value (Operand.func 14), args := #[Operand.tmp 99], argTypes := #[24] }, type := 3, pos := "law.go:75", after := #[{ on := 26, ground := Ground.data }, { on := 25, ground := Ground.chain }, { on := 25, ground := Ground.guard }], guard := some (25, true) }) rfl (fun K hK => ?_) AllReadyH.nil
  go_simp
  (go_at_call 14; refine (cw _).mono ?_; rintro e w7 ⟨rfl, B7⟩)
  (try dsimp only)
  refine hK.out _ _ (by (try dsimp only); exact ⟨((N5.drew.kept B6).kept B7).c 0 _ rfl, ((N5.drew.kept B6).kept B7).c 1 _ rfl, ((N5.drew.kept B6).kept B7).c 2 _ rfl, ((N5.drew.kept B6).kept B7).c 3 _ rfl, ((N5.drew.kept B6).kept B7).c 4 _ rfl⟩) (fun hS => ?_)
  clear hK
  (try simp only [Act.put, List.setIfInBounds_toArray, List.set_cons_zero, List.set_cons_succ])
  refine wpAnyH_take (i := 30) (oi := { dst := some 103, op := Op.binOp BinOp.eql 3 (Operand.tmp 100) (Operand.tmp 102) 3, type := 4, pos := "law.go:75", after := #[{ on := 27, ground := Ground.data }, { on := 29, ground := Ground.data }, { on := 25, ground := Ground.guard }], guard := some (25, true) }) (v := ?_) rfl (by kernel_rfl) (by kernel_rfl) (by kernel_rfl) (fun _ _ _ h => h) (Or.inl ⟨by rfl, fun w hSw => ?hy30⟩) (by assumption) ?rest30
  case hy30 =>
    (try dsimp only at hSw)
    go_simp
    (try with_reducible rfl)
  (try simp only [Act.put, List.setIfInBounds_toArray, List.set_cons_zero, List.set_cons_succ])
  refine wpAnyH_take (i := 31) (oi := { dst := some 104, op := Op.pick (Operand.tmp 98) (Operand.tmp 103) (Operand.const (Value.bool false)), type := 4, pos := "law.go:75", after := #[{ on := 25, ground := Ground.data }, { on := 30, ground := Ground.data }], guard := none }) (v := ?_) rfl (by kernel_rfl) (by kernel_rfl) (by kernel_rfl) (fun _ _ _ h => h) (Or.inl ⟨by rfl, fun w hSw => ?hy31⟩) (by assumption) ?rest31
  case hy31 =>
    (try dsimp only at hSw)
    go_simp
    (try with_reducible rfl)
  (try simp only [Act.put, List.setIfInBounds_toArray, List.set_cons_zero, List.set_cons_succ])
  refine wpAnyH_take (i := 32) (oi := { dst := some 2, op := Op.assign (Operand.tmp 104), type := 4, pos := "law.go:75", after := #[{ on := 31, ground := Ground.data }, { on := 27, ground := Ground.chain }, { on := 0, ground := Ground.phase }, { on := 1, ground := Ground.phase }, { on := 2, ground := Ground.phase }, { on := 3, ground := Ground.phase }, { on := 4, ground := Ground.phase }, { on := 5, ground := Ground.phase }, { on := 6, ground := Ground.phase }, { on := 7, ground := Ground.phase }, { on := 8, ground := Ground.phase }, { on := 9, ground := Ground.phase }, { on := 10, ground := Ground.phase }, { on := 11, ground := Ground.phase }, { on := 12, ground := Ground.phase }, { on := 13, ground := Ground.phase }, { on := 14, ground := Ground.phase }, { on := 15, ground := Ground.phase }, { on := 16, ground := Ground.phase }, { on := 17, ground := Ground.phase }, { on := 18, ground := Ground.phase }, { on := 19, ground := Ground.phase }, { on := 20, ground := Ground.phase }, { on := 21, ground := Ground.phase }, { on := 22, ground := Ground.phase }, { on := 23, ground := Ground.phase }, { on := 24, ground := Ground.phase }, { on := 25, ground := Ground.phase }, { on := 26, ground := Ground.phase }, { on := 27, ground := Ground.phase }, { on := 28, ground := Ground.phase }, { on := 29, ground := Ground.phase }, { on := 30, ground := Ground.phase }, { on := 31, ground := Ground.phase }], guard := none }) (v := ?_) rfl (by kernel_rfl) (by kernel_rfl) (by kernel_rfl) (fun _ _ _ h => h) (Or.inl ⟨by rfl, fun w hSw => ?hy32⟩) (by assumption) ?rest32
  case hy32 =>
    (try dsimp only at hSw)
    go_simp
    (try with_reducible rfl)
  (try simp only [Act.put, List.setIfInBounds_toArray, List.set_cons_zero, List.set_cons_succ])
  refine wpAnyH_done (by kernel_rfl) ?_ _
  have hb7 := ((hb5.and (below_drew' _)).and B6).and B7
  go_wp2_with fail
  go_ret
  exact ⟨rfl, hb7⟩

set_option maxRecDepth 100000 in
set_option maxHeartbeats 8000000 in
theorem clean_0 (x : Nat) (o rd rs1 rs2 : Int) (imm : Nat) (sz : Nat) (rda : 0 ≤ rd) (rdb : rd ≤ 31) (rs1a : 0 ≤ rs1) (rs1b : rs1 ≤ 31) (rs2a : 0 ≤ rs2) (rs2b : rs2 ≤ 31) (hs : sz = 0) (w : World) (hC : Codes w)
    (c1 : ∀ w, Codes w → Calls Tryd.prog 10 #[.int .u32 x] w fun e w' => e = .returned (.tuple #[.agg #[.int .i64 o, .int .i64 rd, .int .i64 rs1, .int .i64 rs2, .int .u32 imm], .int .i64 0]) ∧ Below w.heap.size w w')
    (ck : ∀ w, Calls Tryd.prog 13 #[.agg #[.int .i64 o, .int .i64 rd, .int .i64 rs1, .int .i64 rs2, .int .u32 imm]] w fun e w' => e = .returned (.int .i64 0) ∧ Below w.heap.size w w')
    (cs : ∀ w, Calls Tryd.prog 17 #[.agg #[.int .i64 o, .int .i64 rd, .int .i64 rs1, .int .i64 rs2, .int .u32 imm]] w fun e w' => e = .returned (.int .i64 sz) ∧ Below w.heap.size w w')
    (cw : ∀ w, Calls Tryd.prog 14 #[.agg #[.int .i64 o, .int .i64 rd, .int .i64 rs1, .int .i64 rs2, .int .u32 imm]] w fun e w' => e = .returned (.int .i64 rd) ∧ Below w.heap.size w w') :
    Calls Tryd.prog 9 #[.int .u32 x] w fun e w' => e = .returned (.bool true) ∧ Below w.heap.size w w' := by
  subst hs
  go_enter Tryd.func9, Tryd.ntmps9
  go_wp2_with fail
  refine (c1 _ hC).mono ?_; rintro e w1 ⟨rfl, B1⟩
  go_upto_region 4 with (fail)
  have hb2 := B1.and (below_all (.cells #[.int .i64 o, .int .i64 rd, .int .i64 rs1, .int .i64 rs2, .int .u32 imm] 24))
  have N2 := Mine.new w1 #[.int .i64 o, .int .i64 rd, .int .i64 rs1, .int .i64 rs2, .int .u32 imm] 24
  generalize w1.alloc _ = w2 at *
  generalize w1.heap.size = b1 at *
  have c0 := N2.c 0 _ rfl
  have c1 := N2.c 1 _ rfl
  have c2 := N2.c 2 _ rfl
  have c3 := N2.c 3 _ rfl
  have c4 := N2.c 4 _ rfl
  go_wp2_with fail
  refine (ck _).mono ?_; rintro e w3 ⟨rfl, B3⟩
  have hb3 := hb2.and B3
  have N3 := N2.kept B3
  clear c0 c1 c2 c3 c4 N2 B3 hb2
  have c0 := N3.c 0 _ rfl
  have c1 := N3.c 1 _ rfl
  have c2 := N3.c 2 _ rfl
  have c3 := N3.c 3 _ rfl
  have c4 := N3.c 4 _ rfl
  go_upto_region 9 with (first | (go_at_call 16; refine (in_any _ _ (by first | assumption | decide) (by first | assumption | decide)).mono ?_; rintro e w' ⟨rfl, rfl⟩) | (go_at_call 17; refine (cs _).mono ?_; rintro e w5 ⟨rfl, B5⟩; have e0 := (N3.kept B5).c 0 _ rfl; have e1 := (N3.kept B5).c 1 _ rfl; have e2 := (N3.kept B5).c 2 _ rfl; have e3 := (N3.kept B5).c 3 _ rfl; have e4 := (N3.kept B5).c 4 _ rfl))
  have hb5 := hb3.and B5
  have N5 := N3.kept B5
  clear c0 c1 c2 c3 c4 N3 B5 hb3

  refine wp_region_held_drew (S := fun w' => w'.cell? ⟨b1, 0, none⟩ = some (.int .i64 o) ∧ w'.cell? ⟨b1, 1, none⟩ = some (.int .i64 rd) ∧ w'.cell? ⟨b1, 2, none⟩ = some (.int .i64 rs1) ∧ w'.cell? ⟨b1, 3, none⟩ = some (.int .i64 rs2) ∧ w'.cell? ⟨b1, 4, none⟩ = some (.int .u32 imm)) (by kernel_rfl) ⟨N5.drew.c 0 _ rfl, N5.drew.c 1 _ rfl, N5.drew.c 2 _ rfl, N5.drew.c 3 _ rfl, N5.drew.c 4 _ rfl⟩ (fun hS => ?_)
  refine wpAnyH_ready (rs := [0]) (by kernel_rfl) (by simp) ?_
  refine AllReadyH.cons (o := { dst := some 73, op := Op.call { callee := Callee.value (Operand.func 12), args := #[], argTypes := #[] }, type := 4, pos := "law.go:75", after := #[], guard := none }) rfl (fun K hK => ?_) AllReadyH.nil
  go_simp
  (go_at_call 12; refine (alive02 _ (hC.kept (hb5.and (below_drew' _)))).mono ?_; rintro e w6 ⟨rfl, B6⟩)
  (try dsimp only)
  refine hK.out _ _ (by (try dsimp only); exact ⟨(N5.drew.kept B6).c 0 _ rfl, (N5.drew.kept B6).c 1 _ rfl, (N5.drew.kept B6).c 2 _ rfl, (N5.drew.kept B6).c 3 _ rfl, (N5.drew.kept B6).c 4 _ rfl⟩) (fun hS => ?_)
  clear hK
  (try simp only [Act.put, List.setIfInBounds_toArray, List.set_cons_zero, List.set_cons_succ])
  refine wpAnyH_take (i := 1) (oi := { dst := some 74, op := Op.move (Operand.tmp 73), type := 4, pos := "law.go:75", after := #[{ on := 0, ground := Ground.data }, { on := 0, ground := Ground.chain }], guard := none }) (v := ?_) rfl (by kernel_rfl) (by kernel_rfl) (by kernel_rfl) (fun _ _ _ h => h) (Or.inl ⟨by rfl, fun w hSw => ?hy1⟩) (by assumption) ?rest1
  case hy1 =>
    (try dsimp only at hSw)
    go_simp
    (try with_reducible rfl)
  (try simp only [Act.put, List.setIfInBounds_toArray, List.set_cons_zero, List.set_cons_succ])
  refine wpAnyH_take (i := 2) (oi := { dst := some 75, op := Op.move (Operand.tmp 6), type := 3, pos := "law.go:75", after := #[{ on := 1, ground := Ground.guard }], guard := some (1, true) }) (v := ?_) rfl (by kernel_rfl) (by kernel_rfl) (by kernel_rfl) (fun _ _ _ h => h) (Or.inl ⟨by rfl, fun w hSw => ?hy2⟩) (by assumption) ?rest2
  case hy2 =>
    (try dsimp only at hSw)
    go_simp
    (try with_reducible rfl)
  (try simp only [Act.put, List.setIfInBounds_toArray, List.set_cons_zero, List.set_cons_succ])
  refine wpAnyH_take (i := 3) (oi := { dst := some 76, op := Op.binOp BinOp.neq 3 (Operand.tmp 75) (Operand.const (Value.int IntKind.i64 6)) 3, type := 4, pos := "law.go:75", after := #[{ on := 2, ground := Ground.data }, { on := 1, ground := Ground.guard }], guard := some (1, true) }) (v := ?_) rfl (by kernel_rfl) (by kernel_rfl) (by kernel_rfl) (fun _ _ _ h => h) (Or.inl ⟨by rfl, fun w hSw => ?hy3⟩) (by assumption) ?rest3
  case hy3 =>
    (try dsimp only at hSw)
    go_simp
    (try with_reducible rfl)
  (try simp only [Act.put, List.setIfInBounds_toArray, List.set_cons_zero, List.set_cons_succ])
  refine wpAnyH_take (i := 4) (oi := { dst := some 77, op := Op.move (Operand.tmp 76), type := 4, pos := "law.go:75", after := #[{ on := 3, ground := Ground.data }, { on := 1, ground := Ground.chain }, { on := 1, ground := Ground.guard }], guard := some (1, true) }) (v := ?_) rfl (by kernel_rfl) (by kernel_rfl) (by kernel_rfl) (fun _ _ _ h => h) (Or.inl ⟨by rfl, fun w hSw => ?hy4⟩) (by assumption) ?rest4
  case hy4 =>
    (try dsimp only at hSw)
    go_simp
    (try with_reducible rfl)
  (try simp only [Act.put, List.setIfInBounds_toArray, List.set_cons_zero, List.set_cons_succ])
  refine wpAnyH_take (i := 5) (oi := { dst := some 78, op := Op.load 24 (Operand.tmp 3), type := 24, pos := "law.go:75", after := #[{ on := 4, ground := Ground.guard }], guard := some (4, false) }) (v := undef) rfl (by kernel_rfl) (by kernel_rfl) (by kernel_rfl) (fun _ _ _ h => h) (Or.inr ⟨by rfl, rfl⟩) (by assumption) ?_
  (try simp only [Act.put, List.setIfInBounds_toArray, List.set_cons_zero, List.set_cons_succ])
  refine wpAnyH_take (i := 6) (oi := { dst := some 79, op := Op.fieldAddr 24 (Operand.tmp 3) 0, type := 0, pos := "law.go:75", after := #[{ on := 4, ground := Ground.guard }], guard := some (4, false) }) (v := undef) rfl (by kernel_rfl) (by kernel_rfl) (by kernel_rfl) (fun _ _ _ h => h) (Or.inr ⟨by rfl, rfl⟩) (by assumption) ?_
  (try simp only [Act.put, List.setIfInBounds_toArray, List.set_cons_zero, List.set_cons_succ])
  refine wpAnyH_take (i := 7) (oi := { dst := some 80, op := Op.load 3 (Operand.tmp 79), type := 3, pos := "law.go:75", after := #[{ on := 6, ground := Ground.data }, { on := 4, ground := Ground.guard }], guard := some (4, false) }) (v := undef) rfl (by kernel_rfl) (by kernel_rfl) (by kernel_rfl) (fun _ _ _ h => h) (Or.inr ⟨by rfl, rfl⟩) (by assumption) ?_
  (try simp only [Act.put, List.setIfInBounds_toArray, List.set_cons_zero, List.set_cons_succ])
  refine wpAnyH_take (i := 8) (oi := { dst := some 81, op := Op.build 24 #[(0, Operand.tmp 80)], type := 24, pos := "law.go:75", after := #[{ on := 7, ground := Ground.data }, { on := 4, ground := Ground.guard }], guard := some (4, false) }) (v := undef) rfl (by kernel_rfl) (by kernel_rfl) (by kernel_rfl) (fun _ _ _ h => h) (Or.inr ⟨by rfl, rfl⟩) (by assumption) ?_
  (try simp only [Act.put, List.setIfInBounds_toArray, List.set_cons_zero, List.set_cons_succ])
  refine wpAnyH_take (i := 9) (oi := { dst := some 82, op := Op.binOp BinOp.eql 24 (Operand.tmp 78) (Operand.tmp 81) 24, type := 4, pos := "law.go:75", after := #[{ on := 5, ground := Ground.data }, { on := 8, ground := Ground.data }, { on := 4, ground := Ground.guard }], guard := some (4, false) }) (v := undef) rfl (by kernel_rfl) (by kernel_rfl) (by kernel_rfl) (fun _ _ _ h => h) (Or.inr ⟨by rfl, rfl⟩) (by assumption) ?_
  (try simp only [Act.put, List.setIfInBounds_toArray, List.set_cons_zero, List.set_cons_succ])
  refine wpAnyH_take (i := 10) (oi := { dst := some 83, op := Op.pick (Operand.tmp 77) (Operand.const (Value.bool true)) (Operand.tmp 82), type := 4, pos := "law.go:75", after := #[{ on := 4, ground := Ground.data }, { on := 9, ground := Ground.data }, { on := 1, ground := Ground.guard }], guard := some (1, true) }) (v := ?_) rfl (by kernel_rfl) (by kernel_rfl) (by kernel_rfl) (fun _ _ _ h => h) (Or.inl ⟨by rfl, fun w hSw => ?hy10⟩) (by assumption) ?rest10
  case hy10 =>
    (try dsimp only at hSw)
    go_simp
    (try with_reducible rfl)
  (try simp only [Act.put, List.setIfInBounds_toArray, List.set_cons_zero, List.set_cons_succ])
  refine wpAnyH_take (i := 11) (oi := { dst := some 84, op := Op.pick (Operand.tmp 74) (Operand.tmp 83) (Operand.const (Value.bool false)), type := 4, pos := "law.go:75", after := #[{ on := 1, ground := Ground.data }, { on := 10, ground := Ground.data }], guard := none }) (v := ?_) rfl (by kernel_rfl) (by kernel_rfl) (by kernel_rfl) (fun _ _ _ h => h) (Or.inl ⟨by rfl, fun w hSw => ?hy11⟩) (by assumption) ?rest11
  case hy11 =>
    (try dsimp only at hSw)
    go_simp
    (try with_reducible rfl)
  (try simp only [Act.put, List.setIfInBounds_toArray, List.set_cons_zero, List.set_cons_succ])
  refine wpAnyH_take (i := 12) (oi := { dst := some 85, op := Op.move (Operand.tmp 84), type := 4, pos := "law.go:75", after := #[{ on := 11, ground := Ground.data }, { on := 4, ground := Ground.chain }], guard := none }) (v := ?_) rfl (by kernel_rfl) (by kernel_rfl) (by kernel_rfl) (fun _ _ _ h => h) (Or.inl ⟨by rfl, fun w hSw => ?hy12⟩) (by assumption) ?rest12
  case hy12 =>
    (try dsimp only at hSw)
    go_simp
    (try with_reducible rfl)
  (try simp only [Act.put, List.setIfInBounds_toArray, List.set_cons_zero, List.set_cons_succ])
  refine wpAnyH_take (i := 13) (oi := { dst := some 86, op := Op.move (Operand.tmp 6), type := 3, pos := "law.go:75", after := #[{ on := 12, ground := Ground.guard }], guard := some (12, true) }) (v := ?_) rfl (by kernel_rfl) (by kernel_rfl) (by kernel_rfl) (fun _ _ _ h => h) (Or.inl ⟨by rfl, fun w hSw => ?hy13⟩) (by assumption) ?rest13
  case hy13 =>
    (try dsimp only at hSw)
    go_simp
    (try with_reducible rfl)
  (try simp only [Act.put, List.setIfInBounds_toArray, List.set_cons_zero, List.set_cons_succ])
  refine wpAnyH_take (i := 14) (oi := { dst := some 87, op := Op.binOp BinOp.neq 3 (Operand.tmp 86) (Operand.const (Value.int IntKind.i64 1)) 3, type := 4, pos := "law.go:75", after := #[{ on := 13, ground := Ground.data }, { on := 12, ground := Ground.guard }], guard := some (12, true) }) (v := ?_) rfl (by kernel_rfl) (by kernel_rfl) (by kernel_rfl) (fun _ _ _ h => h) (Or.inl ⟨by rfl, fun w hSw => ?hy14⟩) (by assumption) ?rest14
  case hy14 =>
    (try dsimp only at hSw)
    go_simp
    (try with_reducible rfl)
  (try simp only [Act.put, List.setIfInBounds_toArray, List.set_cons_zero, List.set_cons_succ])
  refine wpAnyH_take (i := 15) (oi := { dst := some 88, op := Op.move (Operand.tmp 87), type := 4, pos := "law.go:75", after := #[{ on := 14, ground := Ground.data }, { on := 12, ground := Ground.chain }, { on := 12, ground := Ground.guard }], guard := some (12, true) }) (v := ?_) rfl (by kernel_rfl) (by kernel_rfl) (by kernel_rfl) (fun _ _ _ h => h) (Or.inl ⟨by rfl, fun w hSw => ?hy15⟩) (by assumption) ?rest15
  case hy15 =>
    (try dsimp only at hSw)
    go_simp
    (try with_reducible rfl)
  (try simp only [Act.put, List.setIfInBounds_toArray, List.set_cons_zero, List.set_cons_succ])
  refine wpAnyH_take (i := 16) (oi := { dst := some 89, op := Op.move (Operand.tmp 6), type := 3, pos := "law.go:75", after := #[{ on := 15, ground := Ground.guard }], guard := some (15, true) }) (v := ?_) rfl (by kernel_rfl) (by kernel_rfl) (by kernel_rfl) (fun _ _ _ h => h) (Or.inl ⟨by rfl, fun w hSw => ?hy16⟩) (by assumption) ?rest16
  case hy16 =>
    (try dsimp only at hSw)
    go_simp
    (try with_reducible rfl)
  (try simp only [Act.put, List.setIfInBounds_toArray, List.set_cons_zero, List.set_cons_succ])
  refine wpAnyH_take (i := 17) (oi := { dst := some 90, op := Op.binOp BinOp.neq 3 (Operand.tmp 89) (Operand.const (Value.int IntKind.i64 2)) 3, type := 4, pos := "law.go:75", after := #[{ on := 16, ground := Ground.data }, { on := 15, ground := Ground.guard }], guard := some (15, true) }) (v := ?_) rfl (by kernel_rfl) (by kernel_rfl) (by kernel_rfl) (fun _ _ _ h => h) (Or.inl ⟨by rfl, fun w hSw => ?hy17⟩) (by assumption) ?rest17
  case hy17 =>
    (try dsimp only at hSw)
    go_simp
    (try with_reducible rfl)
  (try simp only [Act.put, List.setIfInBounds_toArray, List.set_cons_zero, List.set_cons_succ])
  refine wpAnyH_take (i := 18) (oi := { dst := some 91, op := Op.pick (Operand.tmp 88) (Operand.tmp 90) (Operand.const (Value.bool false)), type := 4, pos := "law.go:75", after := #[{ on := 15, ground := Ground.data }, { on := 17, ground := Ground.data }, { on := 12, ground := Ground.guard }], guard := some (12, true) }) (v := ?_) rfl (by kernel_rfl) (by kernel_rfl) (by kernel_rfl) (fun _ _ _ h => h) (Or.inl ⟨by rfl, fun w hSw => ?hy18⟩) (by assumption) ?rest18
  case hy18 =>
    (try dsimp only at hSw)
    go_simp
    (try with_reducible rfl)
  (try simp only [Act.put, List.setIfInBounds_toArray, List.set_cons_zero, List.set_cons_succ])
  refine wpAnyH_take (i := 19) (oi := { dst := some 92, op := Op.move (Operand.tmp 91), type := 4, pos := "law.go:75", after := #[{ on := 18, ground := Ground.data }, { on := 15, ground := Ground.chain }, { on := 12, ground := Ground.guard }], guard := some (12, true) }) (v := ?_) rfl (by kernel_rfl) (by kernel_rfl) (by kernel_rfl) (fun _ _ _ h => h) (Or.inl ⟨by rfl, fun w hSw => ?hy19⟩) (by assumption) ?rest19
  case hy19 =>
    (try dsimp only at hSw)
    go_simp
    (try with_reducible rfl)
  (try simp only [Act.put, List.setIfInBounds_toArray, List.set_cons_zero, List.set_cons_succ])
  refine wpAnyH_take (i := 20) (oi := { dst := some 93, op := Op.fieldAddr 24 (Operand.tmp 3) 4, type := 0, pos := "law.go:75", after := #[{ on := 19, ground := Ground.guard }], guard := some (19, false) }) (v := undef) rfl (by kernel_rfl) (by kernel_rfl) (by kernel_rfl) (fun _ _ _ h => h) (Or.inr ⟨by rfl, rfl⟩) (by assumption) ?_
  (try simp only [Act.put, List.setIfInBounds_toArray, List.set_cons_zero, List.set_cons_succ])
  refine wpAnyH_take (i := 21) (oi := { dst := some 94, op := Op.load 22 (Operand.tmp 93), type := 22, pos := "law.go:75", after := #[{ on := 20, ground := Ground.data }, { on := 19, ground := Ground.guard }], guard := some (19, false) }) (v := undef) rfl (by kernel_rfl) (by kernel_rfl) (by kernel_rfl) (fun _ _ _ h => h) (Or.inr ⟨by rfl, rfl⟩) (by assumption) ?_
  (try simp only [Act.put, List.setIfInBounds_toArray, List.set_cons_zero, List.set_cons_succ])
  refine wpAnyH_take (i := 22) (oi := { dst := some 95, op := Op.binOp BinOp.eql 22 (Operand.tmp 94) (Operand.const (Value.int IntKind.u32 0)) 22, type := 4, pos := "law.go:75", after := #[{ on := 21, ground := Ground.data }, { on := 19, ground := Ground.guard }], guard := some (19, false) }) (v := undef) rfl (by kernel_rfl) (by kernel_rfl) (by kernel_rfl) (fun _ _ _ h => h) (Or.inr ⟨by rfl, rfl⟩) (by assumption) ?_
  (try simp only [Act.put, List.setIfInBounds_toArray, List.set_cons_zero, List.set_cons_succ])
  refine wpAnyH_take (i := 23) (oi := { dst := some 96, op := Op.pick (Operand.tmp 92) (Operand.const (Value.bool true)) (Operand.tmp 95), type := 4, pos := "law.go:75", after := #[{ on := 19, ground := Ground.data }, { on := 22, ground := Ground.data }, { on := 12, ground := Ground.guard }], guard := some (12, true) }) (v := ?_) rfl (by kernel_rfl) (by kernel_rfl) (by kernel_rfl) (fun _ _ _ h => h) (Or.inl ⟨by rfl, fun w hSw => ?hy23⟩) (by assumption) ?rest23
  case hy23 =>
    (try dsimp only at hSw)
    go_simp
    (try with_reducible rfl)
  (try simp only [Act.put, List.setIfInBounds_toArray, List.set_cons_zero, List.set_cons_succ])
  refine wpAnyH_take (i := 24) (oi := { dst := some 97, op := Op.pick (Operand.tmp 85) (Operand.tmp 96) (Operand.const (Value.bool false)), type := 4, pos := "law.go:75", after := #[{ on := 12, ground := Ground.data }, { on := 23, ground := Ground.data }], guard := none }) (v := ?_) rfl (by kernel_rfl) (by kernel_rfl) (by kernel_rfl) (fun _ _ _ h => h) (Or.inl ⟨by rfl, fun w hSw => ?hy24⟩) (by assumption) ?rest24
  case hy24 =>
    (try dsimp only at hSw)
    go_simp
    (try with_reducible rfl)
  (try simp only [Act.put, List.setIfInBounds_toArray, List.set_cons_zero, List.set_cons_succ])
  refine wpAnyH_take (i := 25) (oi := { dst := some 98, op := Op.move (Operand.tmp 97), type := 4, pos := "law.go:75", after := #[{ on := 24, ground := Ground.data }, { on := 19, ground := Ground.chain }], guard := none }) (v := ?_) rfl (by kernel_rfl) (by kernel_rfl) (by kernel_rfl) (fun _ _ _ h => h) (Or.inl ⟨by rfl, fun w hSw => ?hy25⟩) (by assumption) ?rest25
  case hy25 =>
    (try dsimp only at hSw)
    go_simp
    (try with_reducible rfl)
  (try simp only [Act.put, List.setIfInBounds_toArray, List.set_cons_zero, List.set_cons_succ])
  refine wpAnyH_take (i := 26) (oi := { dst := some 99, op := Op.load 24 (Operand.tmp 3), type := 24, pos := "law.go:75", after := #[{ on := 25, ground := Ground.guard }], guard := some (25, true) }) (v := ?_) rfl (by kernel_rfl) (by kernel_rfl) (by kernel_rfl) (fun _ _ _ h => h) (Or.inl ⟨by rfl, fun w hSw => ?hy26⟩) (by assumption) ?rest26
  case hy26 =>
    (try dsimp only at hSw)
    go_simp
    (try with_reducible rfl)
  (try simp only [Act.put, List.setIfInBounds_toArray, List.set_cons_zero, List.set_cons_succ])
  refine wpAnyH_take (i := 28) (oi := { dst := some 101, op := Op.fieldAddr 24 (Operand.tmp 3) 1, type := 0, pos := "law.go:75", after := #[{ on := 25, ground := Ground.guard }], guard := some (25, true) }) (v := ?_) rfl (by kernel_rfl) (by kernel_rfl) (by kernel_rfl) (fun _ _ _ h => h) (Or.inl ⟨by rfl, fun w hSw => ?hy28⟩) (by assumption) ?rest28
  case hy28 =>
    (try dsimp only at hSw)
    go_simp
    (try with_reducible rfl)
  (try simp only [Act.put, List.setIfInBounds_toArray, List.set_cons_zero, List.set_cons_succ])
  refine wpAnyH_take (i := 29) (oi := { dst := some 102, op := Op.load 3 (Operand.tmp 101), type := 3, pos := "law.go:75", after := #[{ on := 28, ground := Ground.data }, { on := 25, ground := Ground.guard }], guard := some (25, true) }) (v := ?_) rfl (by kernel_rfl) (by kernel_rfl) (by kernel_rfl) (fun _ _ _ h => h) (Or.inl ⟨by rfl, fun w hSw => ?hy29⟩) (by assumption) ?rest29
  case hy29 =>
    (try dsimp only at hSw)
    go_simp
    (try with_reducible rfl)
  (try simp only [Act.put, List.setIfInBounds_toArray, List.set_cons_zero, List.set_cons_succ])
  refine wpAnyH_ready (rs := [27]) (by kernel_rfl) (by simp) ?_
  refine AllReadyH.cons (o := { dst := some 100, op := Op.call { callee := Callee.value (Operand.func 14), args := #[Operand.tmp 99], argTypes := #[24] }, type := 3, pos := "law.go:75", after := #[{ on := 26, ground := Ground.data }, { on := 25, ground := Ground.chain }, { on := 25, ground := Ground.guard }], guard := some (25, true) }) rfl (fun K hK => ?_) AllReadyH.nil
  go_simp
  (go_at_call 14; refine (cw _).mono ?_; rintro e w7 ⟨rfl, B7⟩)
  (try dsimp only)
  refine hK.out _ _ (by (try dsimp only); exact ⟨((N5.drew.kept B6).kept B7).c 0 _ rfl, ((N5.drew.kept B6).kept B7).c 1 _ rfl, ((N5.drew.kept B6).kept B7).c 2 _ rfl, ((N5.drew.kept B6).kept B7).c 3 _ rfl, ((N5.drew.kept B6).kept B7).c 4 _ rfl⟩) (fun hS => ?_)
  clear hK
  (try simp only [Act.put, List.setIfInBounds_toArray, List.set_cons_zero, List.set_cons_succ])
  refine wpAnyH_take (i := 30) (oi := { dst := some 103, op := Op.binOp BinOp.eql 3 (Operand.tmp 100) (Operand.tmp 102) 3, type := 4, pos := "law.go:75", after := #[{ on := 27, ground := Ground.data }, { on := 29, ground := Ground.data }, { on := 25, ground := Ground.guard }], guard := some (25, true) }) (v := ?_) rfl (by kernel_rfl) (by kernel_rfl) (by kernel_rfl) (fun _ _ _ h => h) (Or.inl ⟨by rfl, fun w hSw => ?hy30⟩) (by assumption) ?rest30
  case hy30 =>
    (try dsimp only at hSw)
    go_simp
    (try with_reducible rfl)
  (try simp only [Act.put, List.setIfInBounds_toArray, List.set_cons_zero, List.set_cons_succ])
  refine wpAnyH_take (i := 31) (oi := { dst := some 104, op := Op.pick (Operand.tmp 98) (Operand.tmp 103) (Operand.const (Value.bool false)), type := 4, pos := "law.go:75", after := #[{ on := 25, ground := Ground.data }, { on := 30, ground := Ground.data }], guard := none }) (v := ?_) rfl (by kernel_rfl) (by kernel_rfl) (by kernel_rfl) (fun _ _ _ h => h) (Or.inl ⟨by rfl, fun w hSw => ?hy31⟩) (by assumption) ?rest31
  case hy31 =>
    (try dsimp only at hSw)
    go_simp
    (try with_reducible rfl)
  (try simp only [Act.put, List.setIfInBounds_toArray, List.set_cons_zero, List.set_cons_succ])
  refine wpAnyH_take (i := 32) (oi := { dst := some 2, op := Op.assign (Operand.tmp 104), type := 4, pos := "law.go:75", after := #[{ on := 31, ground := Ground.data }, { on := 27, ground := Ground.chain }, { on := 0, ground := Ground.phase }, { on := 1, ground := Ground.phase }, { on := 2, ground := Ground.phase }, { on := 3, ground := Ground.phase }, { on := 4, ground := Ground.phase }, { on := 5, ground := Ground.phase }, { on := 6, ground := Ground.phase }, { on := 7, ground := Ground.phase }, { on := 8, ground := Ground.phase }, { on := 9, ground := Ground.phase }, { on := 10, ground := Ground.phase }, { on := 11, ground := Ground.phase }, { on := 12, ground := Ground.phase }, { on := 13, ground := Ground.phase }, { on := 14, ground := Ground.phase }, { on := 15, ground := Ground.phase }, { on := 16, ground := Ground.phase }, { on := 17, ground := Ground.phase }, { on := 18, ground := Ground.phase }, { on := 19, ground := Ground.phase }, { on := 20, ground := Ground.phase }, { on := 21, ground := Ground.phase }, { on := 22, ground := Ground.phase }, { on := 23, ground := Ground.phase }, { on := 24, ground := Ground.phase }, { on := 25, ground := Ground.phase }, { on := 26, ground := Ground.phase }, { on := 27, ground := Ground.phase }, { on := 28, ground := Ground.phase }, { on := 29, ground := Ground.phase }, { on := 30, ground := Ground.phase }, { on := 31, ground := Ground.phase }], guard := none }) (v := ?_) rfl (by kernel_rfl) (by kernel_rfl) (by kernel_rfl) (fun _ _ _ h => h) (Or.inl ⟨by rfl, fun w hSw => ?hy32⟩) (by assumption) ?rest32
  case hy32 =>
    (try dsimp only at hSw)
    go_simp
    (try with_reducible rfl)
  (try simp only [Act.put, List.setIfInBounds_toArray, List.set_cons_zero, List.set_cons_succ])
  refine wpAnyH_done (by kernel_rfl) ?_ _
  have hb7 := ((hb5.and (below_drew' _)).and B6).and B7
  go_wp2_with fail
  go_ret
  exact ⟨rfl, hb7⟩

set_option maxRecDepth 100000 in
set_option maxHeartbeats 8000000 in
theorem clean_5 (x : Nat) (o rd rs1 rs2 : Int) (imm : Nat) (sz : Nat) (rda : 0 ≤ rd) (rdb : rd ≤ 31) (rs1a : 0 ≤ rs1) (rs1b : rs1 ≤ 31) (rs2a : 0 ≤ rs2) (rs2b : rs2 ≤ 31) (hs : sz = 0) (w : World) (hC : Codes w)
    (c1 : ∀ w, Codes w → Calls Tryd.prog 10 #[.int .u32 x] w fun e w' => e = .returned (.tuple #[.agg #[.int .i64 o, .int .i64 rd, .int .i64 rs1, .int .i64 rs2, .int .u32 imm], .int .i64 0]) ∧ Below w.heap.size w w')
    (ck : ∀ w, Calls Tryd.prog 13 #[.agg #[.int .i64 o, .int .i64 rd, .int .i64 rs1, .int .i64 rs2, .int .u32 imm]] w fun e w' => e = .returned (.int .i64 5) ∧ Below w.heap.size w w')
    (cs : ∀ w, Calls Tryd.prog 17 #[.agg #[.int .i64 o, .int .i64 rd, .int .i64 rs1, .int .i64 rs2, .int .u32 imm]] w fun e w' => e = .returned (.int .i64 sz) ∧ Below w.heap.size w w')
    (cw : ∀ w, Calls Tryd.prog 14 #[.agg #[.int .i64 o, .int .i64 rd, .int .i64 rs1, .int .i64 rs2, .int .u32 imm]] w fun e w' => e = .returned (.int .i64 rd) ∧ Below w.heap.size w w') :
    Calls Tryd.prog 9 #[.int .u32 x] w fun e w' => e = .returned (.bool true) ∧ Below w.heap.size w w' := by
  subst hs
  go_enter Tryd.func9, Tryd.ntmps9
  go_wp2_with fail
  refine (c1 _ hC).mono ?_; rintro e w1 ⟨rfl, B1⟩
  go_upto_region 4 with (fail)
  have hb2 := B1.and (below_all (.cells #[.int .i64 o, .int .i64 rd, .int .i64 rs1, .int .i64 rs2, .int .u32 imm] 24))
  have N2 := Mine.new w1 #[.int .i64 o, .int .i64 rd, .int .i64 rs1, .int .i64 rs2, .int .u32 imm] 24
  generalize w1.alloc _ = w2 at *
  generalize w1.heap.size = b1 at *
  have c0 := N2.c 0 _ rfl
  have c1 := N2.c 1 _ rfl
  have c2 := N2.c 2 _ rfl
  have c3 := N2.c 3 _ rfl
  have c4 := N2.c 4 _ rfl
  go_wp2_with fail
  refine (ck _).mono ?_; rintro e w3 ⟨rfl, B3⟩
  have hb3 := hb2.and B3
  have N3 := N2.kept B3
  clear c0 c1 c2 c3 c4 N2 B3 hb2
  have c0 := N3.c 0 _ rfl
  have c1 := N3.c 1 _ rfl
  have c2 := N3.c 2 _ rfl
  have c3 := N3.c 3 _ rfl
  have c4 := N3.c 4 _ rfl
  go_upto_region 9 with (first | (go_at_call 16; refine (in_any _ _ (by first | assumption | decide) (by first | assumption | decide)).mono ?_; rintro e w' ⟨rfl, rfl⟩) | (go_at_call 17; refine (cs _).mono ?_; rintro e w5 ⟨rfl, B5⟩; have e0 := (N3.kept B5).c 0 _ rfl; have e1 := (N3.kept B5).c 1 _ rfl; have e2 := (N3.kept B5).c 2 _ rfl; have e3 := (N3.kept B5).c 3 _ rfl; have e4 := (N3.kept B5).c 4 _ rfl))
  have hb5 := hb3.and B5
  have N5 := N3.kept B5
  clear c0 c1 c2 c3 c4 N3 B5 hb3

  refine wp_region_held_drew (S := fun w' => w'.cell? ⟨b1, 0, none⟩ = some (.int .i64 o) ∧ w'.cell? ⟨b1, 1, none⟩ = some (.int .i64 rd) ∧ w'.cell? ⟨b1, 2, none⟩ = some (.int .i64 rs1) ∧ w'.cell? ⟨b1, 3, none⟩ = some (.int .i64 rs2) ∧ w'.cell? ⟨b1, 4, none⟩ = some (.int .u32 imm)) (by kernel_rfl) ⟨N5.drew.c 0 _ rfl, N5.drew.c 1 _ rfl, N5.drew.c 2 _ rfl, N5.drew.c 3 _ rfl, N5.drew.c 4 _ rfl⟩ (fun hS => ?_)
  refine wpAnyH_ready (rs := [0]) (by kernel_rfl) (by simp) ?_
  refine AllReadyH.cons (o := { dst := some 73, op := Op.call { callee := Callee.value (Operand.func 12), args := #[], argTypes := #[] }, type := 4, pos := "law.go:75", after := #[], guard := none }) rfl (fun K hK => ?_) AllReadyH.nil
  go_simp
  (go_at_call 12; refine (alive02 _ (hC.kept (hb5.and (below_drew' _)))).mono ?_; rintro e w6 ⟨rfl, B6⟩)
  (try dsimp only)
  refine hK.out _ _ (by (try dsimp only); exact ⟨(N5.drew.kept B6).c 0 _ rfl, (N5.drew.kept B6).c 1 _ rfl, (N5.drew.kept B6).c 2 _ rfl, (N5.drew.kept B6).c 3 _ rfl, (N5.drew.kept B6).c 4 _ rfl⟩) (fun hS => ?_)
  clear hK
  (try simp only [Act.put, List.setIfInBounds_toArray, List.set_cons_zero, List.set_cons_succ])
  refine wpAnyH_take (i := 1) (oi := { dst := some 74, op := Op.move (Operand.tmp 73), type := 4, pos := "law.go:75", after := #[{ on := 0, ground := Ground.data }, { on := 0, ground := Ground.chain }], guard := none }) (v := ?_) rfl (by kernel_rfl) (by kernel_rfl) (by kernel_rfl) (fun _ _ _ h => h) (Or.inl ⟨by rfl, fun w hSw => ?hy1⟩) (by assumption) ?rest1
  case hy1 =>
    (try dsimp only at hSw)
    go_simp
    (try with_reducible rfl)
  (try simp only [Act.put, List.setIfInBounds_toArray, List.set_cons_zero, List.set_cons_succ])
  refine wpAnyH_take (i := 2) (oi := { dst := some 75, op := Op.move (Operand.tmp 6), type := 3, pos := "law.go:75", after := #[{ on := 1, ground := Ground.guard }], guard := some (1, true) }) (v := ?_) rfl (by kernel_rfl) (by kernel_rfl) (by kernel_rfl) (fun _ _ _ h => h) (Or.inl ⟨by rfl, fun w hSw => ?hy2⟩) (by assumption) ?rest2
  case hy2 =>
    (try dsimp only at hSw)
    go_simp
    (try with_reducible rfl)
  (try simp only [Act.put, List.setIfInBounds_toArray, List.set_cons_zero, List.set_cons_succ])
  refine wpAnyH_take (i := 3) (oi := { dst := some 76, op := Op.binOp BinOp.neq 3 (Operand.tmp 75) (Operand.const (Value.int IntKind.i64 6)) 3, type := 4, pos := "law.go:75", after := #[{ on := 2, ground := Ground.data }, { on := 1, ground := Ground.guard }], guard := some (1, true) }) (v := ?_) rfl (by kernel_rfl) (by kernel_rfl) (by kernel_rfl) (fun _ _ _ h => h) (Or.inl ⟨by rfl, fun w hSw => ?hy3⟩) (by assumption) ?rest3
  case hy3 =>
    (try dsimp only at hSw)
    go_simp
    (try with_reducible rfl)
  (try simp only [Act.put, List.setIfInBounds_toArray, List.set_cons_zero, List.set_cons_succ])
  refine wpAnyH_take (i := 4) (oi := { dst := some 77, op := Op.move (Operand.tmp 76), type := 4, pos := "law.go:75", after := #[{ on := 3, ground := Ground.data }, { on := 1, ground := Ground.chain }, { on := 1, ground := Ground.guard }], guard := some (1, true) }) (v := ?_) rfl (by kernel_rfl) (by kernel_rfl) (by kernel_rfl) (fun _ _ _ h => h) (Or.inl ⟨by rfl, fun w hSw => ?hy4⟩) (by assumption) ?rest4
  case hy4 =>
    (try dsimp only at hSw)
    go_simp
    (try with_reducible rfl)
  (try simp only [Act.put, List.setIfInBounds_toArray, List.set_cons_zero, List.set_cons_succ])
  refine wpAnyH_take (i := 5) (oi := { dst := some 78, op := Op.load 24 (Operand.tmp 3), type := 24, pos := "law.go:75", after := #[{ on := 4, ground := Ground.guard }], guard := some (4, false) }) (v := undef) rfl (by kernel_rfl) (by kernel_rfl) (by kernel_rfl) (fun _ _ _ h => h) (Or.inr ⟨by rfl, rfl⟩) (by assumption) ?_
  (try simp only [Act.put, List.setIfInBounds_toArray, List.set_cons_zero, List.set_cons_succ])
  refine wpAnyH_take (i := 6) (oi := { dst := some 79, op := Op.fieldAddr 24 (Operand.tmp 3) 0, type := 0, pos := "law.go:75", after := #[{ on := 4, ground := Ground.guard }], guard := some (4, false) }) (v := undef) rfl (by kernel_rfl) (by kernel_rfl) (by kernel_rfl) (fun _ _ _ h => h) (Or.inr ⟨by rfl, rfl⟩) (by assumption) ?_
  (try simp only [Act.put, List.setIfInBounds_toArray, List.set_cons_zero, List.set_cons_succ])
  refine wpAnyH_take (i := 7) (oi := { dst := some 80, op := Op.load 3 (Operand.tmp 79), type := 3, pos := "law.go:75", after := #[{ on := 6, ground := Ground.data }, { on := 4, ground := Ground.guard }], guard := some (4, false) }) (v := undef) rfl (by kernel_rfl) (by kernel_rfl) (by kernel_rfl) (fun _ _ _ h => h) (Or.inr ⟨by rfl, rfl⟩) (by assumption) ?_
  (try simp only [Act.put, List.setIfInBounds_toArray, List.set_cons_zero, List.set_cons_succ])
  refine wpAnyH_take (i := 8) (oi := { dst := some 81, op := Op.build 24 #[(0, Operand.tmp 80)], type := 24, pos := "law.go:75", after := #[{ on := 7, ground := Ground.data }, { on := 4, ground := Ground.guard }], guard := some (4, false) }) (v := undef) rfl (by kernel_rfl) (by kernel_rfl) (by kernel_rfl) (fun _ _ _ h => h) (Or.inr ⟨by rfl, rfl⟩) (by assumption) ?_
  (try simp only [Act.put, List.setIfInBounds_toArray, List.set_cons_zero, List.set_cons_succ])
  refine wpAnyH_take (i := 9) (oi := { dst := some 82, op := Op.binOp BinOp.eql 24 (Operand.tmp 78) (Operand.tmp 81) 24, type := 4, pos := "law.go:75", after := #[{ on := 5, ground := Ground.data }, { on := 8, ground := Ground.data }, { on := 4, ground := Ground.guard }], guard := some (4, false) }) (v := undef) rfl (by kernel_rfl) (by kernel_rfl) (by kernel_rfl) (fun _ _ _ h => h) (Or.inr ⟨by rfl, rfl⟩) (by assumption) ?_
  (try simp only [Act.put, List.setIfInBounds_toArray, List.set_cons_zero, List.set_cons_succ])
  refine wpAnyH_take (i := 10) (oi := { dst := some 83, op := Op.pick (Operand.tmp 77) (Operand.const (Value.bool true)) (Operand.tmp 82), type := 4, pos := "law.go:75", after := #[{ on := 4, ground := Ground.data }, { on := 9, ground := Ground.data }, { on := 1, ground := Ground.guard }], guard := some (1, true) }) (v := ?_) rfl (by kernel_rfl) (by kernel_rfl) (by kernel_rfl) (fun _ _ _ h => h) (Or.inl ⟨by rfl, fun w hSw => ?hy10⟩) (by assumption) ?rest10
  case hy10 =>
    (try dsimp only at hSw)
    go_simp
    (try with_reducible rfl)
  (try simp only [Act.put, List.setIfInBounds_toArray, List.set_cons_zero, List.set_cons_succ])
  refine wpAnyH_take (i := 11) (oi := { dst := some 84, op := Op.pick (Operand.tmp 74) (Operand.tmp 83) (Operand.const (Value.bool false)), type := 4, pos := "law.go:75", after := #[{ on := 1, ground := Ground.data }, { on := 10, ground := Ground.data }], guard := none }) (v := ?_) rfl (by kernel_rfl) (by kernel_rfl) (by kernel_rfl) (fun _ _ _ h => h) (Or.inl ⟨by rfl, fun w hSw => ?hy11⟩) (by assumption) ?rest11
  case hy11 =>
    (try dsimp only at hSw)
    go_simp
    (try with_reducible rfl)
  (try simp only [Act.put, List.setIfInBounds_toArray, List.set_cons_zero, List.set_cons_succ])
  refine wpAnyH_take (i := 12) (oi := { dst := some 85, op := Op.move (Operand.tmp 84), type := 4, pos := "law.go:75", after := #[{ on := 11, ground := Ground.data }, { on := 4, ground := Ground.chain }], guard := none }) (v := ?_) rfl (by kernel_rfl) (by kernel_rfl) (by kernel_rfl) (fun _ _ _ h => h) (Or.inl ⟨by rfl, fun w hSw => ?hy12⟩) (by assumption) ?rest12
  case hy12 =>
    (try dsimp only at hSw)
    go_simp
    (try with_reducible rfl)
  (try simp only [Act.put, List.setIfInBounds_toArray, List.set_cons_zero, List.set_cons_succ])
  refine wpAnyH_take (i := 13) (oi := { dst := some 86, op := Op.move (Operand.tmp 6), type := 3, pos := "law.go:75", after := #[{ on := 12, ground := Ground.guard }], guard := some (12, true) }) (v := ?_) rfl (by kernel_rfl) (by kernel_rfl) (by kernel_rfl) (fun _ _ _ h => h) (Or.inl ⟨by rfl, fun w hSw => ?hy13⟩) (by assumption) ?rest13
  case hy13 =>
    (try dsimp only at hSw)
    go_simp
    (try with_reducible rfl)
  (try simp only [Act.put, List.setIfInBounds_toArray, List.set_cons_zero, List.set_cons_succ])
  refine wpAnyH_take (i := 14) (oi := { dst := some 87, op := Op.binOp BinOp.neq 3 (Operand.tmp 86) (Operand.const (Value.int IntKind.i64 1)) 3, type := 4, pos := "law.go:75", after := #[{ on := 13, ground := Ground.data }, { on := 12, ground := Ground.guard }], guard := some (12, true) }) (v := ?_) rfl (by kernel_rfl) (by kernel_rfl) (by kernel_rfl) (fun _ _ _ h => h) (Or.inl ⟨by rfl, fun w hSw => ?hy14⟩) (by assumption) ?rest14
  case hy14 =>
    (try dsimp only at hSw)
    go_simp
    (try with_reducible rfl)
  (try simp only [Act.put, List.setIfInBounds_toArray, List.set_cons_zero, List.set_cons_succ])
  refine wpAnyH_take (i := 15) (oi := { dst := some 88, op := Op.move (Operand.tmp 87), type := 4, pos := "law.go:75", after := #[{ on := 14, ground := Ground.data }, { on := 12, ground := Ground.chain }, { on := 12, ground := Ground.guard }], guard := some (12, true) }) (v := ?_) rfl (by kernel_rfl) (by kernel_rfl) (by kernel_rfl) (fun _ _ _ h => h) (Or.inl ⟨by rfl, fun w hSw => ?hy15⟩) (by assumption) ?rest15
  case hy15 =>
    (try dsimp only at hSw)
    go_simp
    (try with_reducible rfl)
  (try simp only [Act.put, List.setIfInBounds_toArray, List.set_cons_zero, List.set_cons_succ])
  refine wpAnyH_take (i := 16) (oi := { dst := some 89, op := Op.move (Operand.tmp 6), type := 3, pos := "law.go:75", after := #[{ on := 15, ground := Ground.guard }], guard := some (15, true) }) (v := ?_) rfl (by kernel_rfl) (by kernel_rfl) (by kernel_rfl) (fun _ _ _ h => h) (Or.inl ⟨by rfl, fun w hSw => ?hy16⟩) (by assumption) ?rest16
  case hy16 =>
    (try dsimp only at hSw)
    go_simp
    (try with_reducible rfl)
  (try simp only [Act.put, List.setIfInBounds_toArray, List.set_cons_zero, List.set_cons_succ])
  refine wpAnyH_take (i := 17) (oi := { dst := some 90, op := Op.binOp BinOp.neq 3 (Operand.tmp 89) (Operand.const (Value.int IntKind.i64 2)) 3, type := 4, pos := "law.go:75", after := #[{ on := 16, ground := Ground.data }, { on := 15, ground := Ground.guard }], guard := some (15, true) }) (v := ?_) rfl (by kernel_rfl) (by kernel_rfl) (by kernel_rfl) (fun _ _ _ h => h) (Or.inl ⟨by rfl, fun w hSw => ?hy17⟩) (by assumption) ?rest17
  case hy17 =>
    (try dsimp only at hSw)
    go_simp
    (try with_reducible rfl)
  (try simp only [Act.put, List.setIfInBounds_toArray, List.set_cons_zero, List.set_cons_succ])
  refine wpAnyH_take (i := 18) (oi := { dst := some 91, op := Op.pick (Operand.tmp 88) (Operand.tmp 90) (Operand.const (Value.bool false)), type := 4, pos := "law.go:75", after := #[{ on := 15, ground := Ground.data }, { on := 17, ground := Ground.data }, { on := 12, ground := Ground.guard }], guard := some (12, true) }) (v := ?_) rfl (by kernel_rfl) (by kernel_rfl) (by kernel_rfl) (fun _ _ _ h => h) (Or.inl ⟨by rfl, fun w hSw => ?hy18⟩) (by assumption) ?rest18
  case hy18 =>
    (try dsimp only at hSw)
    go_simp
    (try with_reducible rfl)
  (try simp only [Act.put, List.setIfInBounds_toArray, List.set_cons_zero, List.set_cons_succ])
  refine wpAnyH_take (i := 19) (oi := { dst := some 92, op := Op.move (Operand.tmp 91), type := 4, pos := "law.go:75", after := #[{ on := 18, ground := Ground.data }, { on := 15, ground := Ground.chain }, { on := 12, ground := Ground.guard }], guard := some (12, true) }) (v := ?_) rfl (by kernel_rfl) (by kernel_rfl) (by kernel_rfl) (fun _ _ _ h => h) (Or.inl ⟨by rfl, fun w hSw => ?hy19⟩) (by assumption) ?rest19
  case hy19 =>
    (try dsimp only at hSw)
    go_simp
    (try with_reducible rfl)
  (try simp only [Act.put, List.setIfInBounds_toArray, List.set_cons_zero, List.set_cons_succ])
  refine wpAnyH_take (i := 20) (oi := { dst := some 93, op := Op.fieldAddr 24 (Operand.tmp 3) 4, type := 0, pos := "law.go:75", after := #[{ on := 19, ground := Ground.guard }], guard := some (19, false) }) (v := undef) rfl (by kernel_rfl) (by kernel_rfl) (by kernel_rfl) (fun _ _ _ h => h) (Or.inr ⟨by rfl, rfl⟩) (by assumption) ?_
  (try simp only [Act.put, List.setIfInBounds_toArray, List.set_cons_zero, List.set_cons_succ])
  refine wpAnyH_take (i := 21) (oi := { dst := some 94, op := Op.load 22 (Operand.tmp 93), type := 22, pos := "law.go:75", after := #[{ on := 20, ground := Ground.data }, { on := 19, ground := Ground.guard }], guard := some (19, false) }) (v := undef) rfl (by kernel_rfl) (by kernel_rfl) (by kernel_rfl) (fun _ _ _ h => h) (Or.inr ⟨by rfl, rfl⟩) (by assumption) ?_
  (try simp only [Act.put, List.setIfInBounds_toArray, List.set_cons_zero, List.set_cons_succ])
  refine wpAnyH_take (i := 22) (oi := { dst := some 95, op := Op.binOp BinOp.eql 22 (Operand.tmp 94) (Operand.const (Value.int IntKind.u32 0)) 22, type := 4, pos := "law.go:75", after := #[{ on := 21, ground := Ground.data }, { on := 19, ground := Ground.guard }], guard := some (19, false) }) (v := undef) rfl (by kernel_rfl) (by kernel_rfl) (by kernel_rfl) (fun _ _ _ h => h) (Or.inr ⟨by rfl, rfl⟩) (by assumption) ?_
  (try simp only [Act.put, List.setIfInBounds_toArray, List.set_cons_zero, List.set_cons_succ])
  refine wpAnyH_take (i := 23) (oi := { dst := some 96, op := Op.pick (Operand.tmp 92) (Operand.const (Value.bool true)) (Operand.tmp 95), type := 4, pos := "law.go:75", after := #[{ on := 19, ground := Ground.data }, { on := 22, ground := Ground.data }, { on := 12, ground := Ground.guard }], guard := some (12, true) }) (v := ?_) rfl (by kernel_rfl) (by kernel_rfl) (by kernel_rfl) (fun _ _ _ h => h) (Or.inl ⟨by rfl, fun w hSw => ?hy23⟩) (by assumption) ?rest23
  case hy23 =>
    (try dsimp only at hSw)
    go_simp
    (try with_reducible rfl)
  (try simp only [Act.put, List.setIfInBounds_toArray, List.set_cons_zero, List.set_cons_succ])
  refine wpAnyH_take (i := 24) (oi := { dst := some 97, op := Op.pick (Operand.tmp 85) (Operand.tmp 96) (Operand.const (Value.bool false)), type := 4, pos := "law.go:75", after := #[{ on := 12, ground := Ground.data }, { on := 23, ground := Ground.data }], guard := none }) (v := ?_) rfl (by kernel_rfl) (by kernel_rfl) (by kernel_rfl) (fun _ _ _ h => h) (Or.inl ⟨by rfl, fun w hSw => ?hy24⟩) (by assumption) ?rest24
  case hy24 =>
    (try dsimp only at hSw)
    go_simp
    (try with_reducible rfl)
  (try simp only [Act.put, List.setIfInBounds_toArray, List.set_cons_zero, List.set_cons_succ])
  refine wpAnyH_take (i := 25) (oi := { dst := some 98, op := Op.move (Operand.tmp 97), type := 4, pos := "law.go:75", after := #[{ on := 24, ground := Ground.data }, { on := 19, ground := Ground.chain }], guard := none }) (v := ?_) rfl (by kernel_rfl) (by kernel_rfl) (by kernel_rfl) (fun _ _ _ h => h) (Or.inl ⟨by rfl, fun w hSw => ?hy25⟩) (by assumption) ?rest25
  case hy25 =>
    (try dsimp only at hSw)
    go_simp
    (try with_reducible rfl)
  (try simp only [Act.put, List.setIfInBounds_toArray, List.set_cons_zero, List.set_cons_succ])
  refine wpAnyH_take (i := 26) (oi := { dst := some 99, op := Op.load 24 (Operand.tmp 3), type := 24, pos := "law.go:75", after := #[{ on := 25, ground := Ground.guard }], guard := some (25, true) }) (v := ?_) rfl (by kernel_rfl) (by kernel_rfl) (by kernel_rfl) (fun _ _ _ h => h) (Or.inl ⟨by rfl, fun w hSw => ?hy26⟩) (by assumption) ?rest26
  case hy26 =>
    (try dsimp only at hSw)
    go_simp
    (try with_reducible rfl)
  (try simp only [Act.put, List.setIfInBounds_toArray, List.set_cons_zero, List.set_cons_succ])
  refine wpAnyH_take (i := 28) (oi := { dst := some 101, op := Op.fieldAddr 24 (Operand.tmp 3) 1, type := 0, pos := "law.go:75", after := #[{ on := 25, ground := Ground.guard }], guard := some (25, true) }) (v := ?_) rfl (by kernel_rfl) (by kernel_rfl) (by kernel_rfl) (fun _ _ _ h => h) (Or.inl ⟨by rfl, fun w hSw => ?hy28⟩) (by assumption) ?rest28
  case hy28 =>
    (try dsimp only at hSw)
    go_simp
    (try with_reducible rfl)
  (try simp only [Act.put, List.setIfInBounds_toArray, List.set_cons_zero, List.set_cons_succ])
  refine wpAnyH_take (i := 29) (oi := { dst := some 102, op := Op.load 3 (Operand.tmp 101), type := 3, pos := "law.go:75", after := #[{ on := 28, ground := Ground.data }, { on := 25, ground := Ground.guard }], guard := some (25, true) }) (v := ?_) rfl (by kernel_rfl) (by kernel_rfl) (by kernel_rfl) (fun _ _ _ h => h) (Or.inl ⟨by rfl, fun w hSw => ?hy29⟩) (by assumption) ?rest29
  case hy29 =>
    (try dsimp only at hSw)
    go_simp
    (try with_reducible rfl)
  (try simp only [Act.put, List.setIfInBounds_toArray, List.set_cons_zero, List.set_cons_succ])
  refine wpAnyH_ready (rs := [27]) (by kernel_rfl) (by simp) ?_
  refine AllReadyH.cons (o := { dst := some 100, op := Op.call { callee := Callee.value (Operand.func 14), args := #[Operand.tmp 99], argTypes := #[24] }, type := 3, pos := "law.go:75", after := #[{ on := 26, ground := Ground.data }, { on := 25, ground := Ground.chain }, { on := 25, ground := Ground.guard }], guard := some (25, true) }) rfl (fun K hK => ?_) AllReadyH.nil
  go_simp
  (go_at_call 14; refine (cw _).mono ?_; rintro e w7 ⟨rfl, B7⟩)
  (try dsimp only)
  refine hK.out _ _ (by (try dsimp only); exact ⟨((N5.drew.kept B6).kept B7).c 0 _ rfl, ((N5.drew.kept B6).kept B7).c 1 _ rfl, ((N5.drew.kept B6).kept B7).c 2 _ rfl, ((N5.drew.kept B6).kept B7).c 3 _ rfl, ((N5.drew.kept B6).kept B7).c 4 _ rfl⟩) (fun hS => ?_)
  clear hK
  (try simp only [Act.put, List.setIfInBounds_toArray, List.set_cons_zero, List.set_cons_succ])
  refine wpAnyH_take (i := 30) (oi := { dst := some 103, op := Op.binOp BinOp.eql 3 (Operand.tmp 100) (Operand.tmp 102) 3, type := 4, pos := "law.go:75", after := #[{ on := 27, ground := Ground.data }, { on := 29, ground := Ground.data }, { on := 25, ground := Ground.guard }], guard := some (25, true) }) (v := ?_) rfl (by kernel_rfl) (by kernel_rfl) (by kernel_rfl) (fun _ _ _ h => h) (Or.inl ⟨by rfl, fun w hSw => ?hy30⟩) (by assumption) ?rest30
  case hy30 =>
    (try dsimp only at hSw)
    go_simp
    (try with_reducible rfl)
  (try simp only [Act.put, List.setIfInBounds_toArray, List.set_cons_zero, List.set_cons_succ])
  refine wpAnyH_take (i := 31) (oi := { dst := some 104, op := Op.pick (Operand.tmp 98) (Operand.tmp 103) (Operand.const (Value.bool false)), type := 4, pos := "law.go:75", after := #[{ on := 25, ground := Ground.data }, { on := 30, ground := Ground.data }], guard := none }) (v := ?_) rfl (by kernel_rfl) (by kernel_rfl) (by kernel_rfl) (fun _ _ _ h => h) (Or.inl ⟨by rfl, fun w hSw => ?hy31⟩) (by assumption) ?rest31
  case hy31 =>
    (try dsimp only at hSw)
    go_simp
    (try with_reducible rfl)
  (try simp only [Act.put, List.setIfInBounds_toArray, List.set_cons_zero, List.set_cons_succ])
  refine wpAnyH_take (i := 32) (oi := { dst := some 2, op := Op.assign (Operand.tmp 104), type := 4, pos := "law.go:75", after := #[{ on := 31, ground := Ground.data }, { on := 27, ground := Ground.chain }, { on := 0, ground := Ground.phase }, { on := 1, ground := Ground.phase }, { on := 2, ground := Ground.phase }, { on := 3, ground := Ground.phase }, { on := 4, ground := Ground.phase }, { on := 5, ground := Ground.phase }, { on := 6, ground := Ground.phase }, { on := 7, ground := Ground.phase }, { on := 8, ground := Ground.phase }, { on := 9, ground := Ground.phase }, { on := 10, ground := Ground.phase }, { on := 11, ground := Ground.phase }, { on := 12, ground := Ground.phase }, { on := 13, ground := Ground.phase }, { on := 14, ground := Ground.phase }, { on := 15, ground := Ground.phase }, { on := 16, ground := Ground.phase }, { on := 17, ground := Ground.phase }, { on := 18, ground := Ground.phase }, { on := 19, ground := Ground.phase }, { on := 20, ground := Ground.phase }, { on := 21, ground := Ground.phase }, { on := 22, ground := Ground.phase }, { on := 23, ground := Ground.phase }, { on := 24, ground := Ground.phase }, { on := 25, ground := Ground.phase }, { on := 26, ground := Ground.phase }, { on := 27, ground := Ground.phase }, { on := 28, ground := Ground.phase }, { on := 29, ground := Ground.phase }, { on := 30, ground := Ground.phase }, { on := 31, ground := Ground.phase }], guard := none }) (v := ?_) rfl (by kernel_rfl) (by kernel_rfl) (by kernel_rfl) (fun _ _ _ h => h) (Or.inl ⟨by rfl, fun w hSw => ?hy32⟩) (by assumption) ?rest32
  case hy32 =>
    (try dsimp only at hSw)
    go_simp
    (try with_reducible rfl)
  (try simp only [Act.put, List.setIfInBounds_toArray, List.set_cons_zero, List.set_cons_succ])
  refine wpAnyH_done (by kernel_rfl) ?_ _
  have hb7 := ((hb5.and (below_drew' _)).and B6).and B7
  go_wp2_with fail
  go_ret
  exact ⟨rfl, hb7⟩

theorem clean_walk (x : Nat) (w : World) (hC : Codes w) (hx : x < 4294967296) : Calls Tryd.prog 9 #[.int .u32 x] w fun e w' => e = .returned (.bool true) ∧ Below w.heap.size w w' := by
  by_cases hk : opOf x = 0
  · exact clean_no x w hC hx hk
  obtain ⟨h1, h2, -⟩ := opOf_mtch x hk
  have c1 := fun w hC => decode_ok x w hC hx hk
  have hd : decN x = readN (opOf x) x := by unfold decN; rw [if_neg hk]
  rw [hd] at c1
  generalize opOf x = k at *
  have ck := fun (rd rs1 rs2 : Int) (imm : Nat) (w : World) => kind_any k rd rs1 rs2 imm w
  have cs := fun (rd rs1 rs2 : Int) (imm : Nat) (w : World) => size_any k rd rs1 rs2 imm w
  have cw := fun (rd rs1 rs2 : Int) (imm : Nat) (w : World) => writes_any k rd rs1 rs2 imm w
  obtain ⟨a1, b1⟩ := reg_bound (hasRd (formOf k)) x 7
  obtain ⟨a2, b2⟩ := reg_bound (hasRs1 (formOf k)) x 15
  obtain ⟨a3, b3⟩ := reg_bound (hasRs2 (formOf k)) x 20
  have hwr : (if hasRd (formOf k) = true then (if hasRd (formOf k) = true then ((field x 7 5 : Nat) : Int) else 0) else 0) = (if hasRd (formOf k) = true then ((field x 7 5 : Nat) : Int) else 0) := by
    split <;> rfl
  have hc := clean_tab k (by omega) h1
  rcases hc with ⟨q1, q2, q3⟩ | ⟨q1, q2, q3⟩ | ⟨q1, q2, q3⟩ | ⟨q1, q2, q3⟩ | ⟨q1, q2, q3⟩ | ⟨q1, q2⟩ | ⟨q1, q2⟩
  · simp only [readN, q1, q3] at c1 ck cs cw a1 b1 a2 b2 a3 b3 hwr
    exact clean_3 x k _ _ _ _ a1 b1 a2 b2 q2 w hC c1 (ck _ _ _ _) (cs _ _ _ _) (cw _ _ _ _)
  · simp only [readN, q1, q3] at c1 ck cs cw a1 b1 a2 b2 a3 b3 hwr
    exact clean_4 x k _ _ _ _ a2 b2 a3 b3 q2 w hC c1 (ck _ _ _ _) (cs _ _ _ _) (cw _ _ _ _)
  · simp only [readN, q1, q3] at c1 ck cs cw a1 b1 a2 b2 a3 b3 hwr
    exact clean_6 x k _ q2 w hC c1 (ck _ _ _ _) (cs _ _ _ _) (cw _ _ _ _)
  · simp only [readN, q1, q3] at c1 ck cs cw a1 b1 a2 b2 a3 b3 hwr
    exact clean_1 x k _ _ _ _ a1 b1 a2 b2 a3 b3 q2 w hC c1 (ck _ _ _ _) (cs _ _ _ _) (cw _ _ _ _)
  · simp only [readN, q1, q3] at c1 ck cs cw a1 b1 a2 b2 a3 b3 hwr
    exact clean_2 x k _ _ _ _ a1 b1 a2 b2 a3 b3 q2 w hC c1 (ck _ _ _ _) (cs _ _ _ _) (cw _ _ _ _)
  · simp only [q1] at ck
    have cw' := cw (if hasRd (formOf k) = true then ((field x 7 5 : Nat) : Int) else 0)
    rw [hwr] at cw'
    exact clean_0 x k _ _ _ _ _ a1 b1 a2 b2 a3 b3 q2 w hC c1 (ck _ _ _ _) (cs _ _ _ _) (cw' _ _ _)
  · simp only [q1] at ck
    have cw' := cw (if hasRd (formOf k) = true then ((field x 7 5 : Nat) : Int) else 0)
    rw [hwr] at cw'
    exact clean_5 x k _ _ _ _ _ a1 b1 a2 b2 a3 b3 q2 w hC c1 (ck _ _ _ _) (cs _ _ _ _) (cw' _ _ _)
end Go.Proofs.YtaimbclbpoelgaaDoor
