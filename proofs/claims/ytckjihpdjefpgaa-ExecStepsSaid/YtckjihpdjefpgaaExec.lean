
/- The contracts of exec.Start and exec.Go: what starting and going on make of an entry. -/
import Derived.Test.YtckjihpdjefpgaaVal2
import Derived.Deep.MidRow
import Derived.Deep.CutBlock
namespace Go.Proofs.Ytckjihpdjefpgaa
open Go.RowKit

structure En where
  no : Int
  pc : Nat
  op : Int
  rd : Int
  rs1 : Int
  rs2 : Int
  imm : Nat
  guess : Int
  is : Int
  left : Int
  value : Int
  next : Int
  addr : Int
  halt : Int
  took : Int
  known : Bool
  filled : Bool
def En.cells (e : En) : List Value := [.int .i64 e.no, .int .u32 e.pc, .int .i64 e.op, .int .i64 e.rd, .int .i64 e.rs1, .int .i64 e.rs2, .int .u32 e.imm, .int .u32 e.guess, .int .i64 e.is, .int .i64 e.left, .int .u32 e.value, .int .u32 e.next, .int .u32 e.addr, .int .i64 e.halt, .int .i64 e.took, .bool e.known, .bool e.filled]
def zeroEn : List Value := [.int .i64 0, .int .u32 0, .int .i64 0, .int .i64 0, .int .i64 0, .int .i64 0, .int .u32 0, .int .u32 0, .int .i64 0, .int .i64 0, .int .u32 0, .int .u32 0, .int .u32 0, .int .i64 0, .int .i64 0, .bool false, .bool false]
def wrP (op rd : Int) : Int := if hasRd (formOf op) then rd else 0
theorem writes_to (op rd rs1 rs2 : Int) (imm : Nat) (w : World) : Calls Try.prog 28 #[.agg #[.int .i64 op, .int .i64 rd, .int .i64 rs1, .int .i64 rs2, .int .u32 imm]] w fun e w' => e = .returned (.int .i64 (wrP op rd)) ∧ Below w.heap.size w w' := writes_any op rd rs1 rs2 imm w

/-- A call of a function that boxes its entry and makes its result: the two blocks. -/
structure EnSt (w wx : World) (e : En) : Prop where
  m : Mine wx w.heap.size e.cells
  z : Mine wx (w.heap.size + 1) zeroEn
  b : Below w.heap.size w wx
theorem EnSt.start (w : World) (e : En) : EnSt w ((w.alloc (.cells e.cells.toArray 26)).alloc (.cells zeroEn.toArray 26)) e := by
  refine ⟨(Mine.new w e.cells.toArray _).alloc _, ?_, (below_all _).and (below_all _)⟩
  have := Mine.new (w.alloc (.cells e.cells.toArray 26)) zeroEn.toArray 26
  rw [World.size_alloc] at this
  exact this
theorem EnSt.kept {w wx wy : World} {e : En} (h : EnSt w wx e) (B : Below wx.heap.size wx wy) : EnSt w wy e := ⟨h.m.kept B, h.z.kept B, h.b.and B⟩
theorem EnSt.set {w wx : World} {e e' : En} (h : EnSt w wx e) (j : Nat) (v : Value) (hj : j < 17) (he : e.cells.set j v = e'.cells) : EnSt w (wx.setCell ⟨w.heap.size, j, none⟩ v) e' :=
  ⟨he ▸ h.m.set j v hj, h.z.set_other v (by omega), below_set h.b (Nat.le_refl _)⟩

def startB (e : En) (a b : Nat) : En := { e with is := 1, value := if wrP e.op e.rd = 0 then 0 else (valP e.op e.imm e.pc a b : Nat), next := ((e.pc : Int) + 4) % 4294967296, left := 1 }
def startK (e : En) (a b : Nat) : En :=
  if kindOf e.op = 1 then { startB e a b with left := 3 }
  else if kindOf e.op = 2 then { startB e a b with took := (tookP e.op a b : Nat), left := (tookP e.op a b : Nat) }
  else if kindOf e.op = 5 then (if nextP e.op e.imm e.pc a b % 4 = 0 then { startB e a b with next := (nextP e.op e.imm e.pc a b : Nat) } else { startB e a b with halt := 3, value := 0 })
  else startB e a b
def startP (e : En) (a b : Nat) : En := if e.is ≠ 0 ∨ kindOf e.op = 3 ∨ kindOf e.op = 4 then e else startK e a b

theorem En.range {w : World} {b : Nat} {cs : List Value} (h : Mine w b cs) : w.rangeAt b 0 cs := fun j v hv => by rw [Nat.zero_add]; exact h.c j v hv
theorem En.there {w : World} {b : Nat} {cs : List Value} (h : Mine w b cs) {n : Nat} (hn : n = cs.length) : w.there b 0 n := fun j hj => by
  subst hn
  rw [Nat.zero_add]
  refine ⟨?_, h.g j⟩
  rw [h.c j _ (List.getElem?_eq_getElem hj)]
  rfl
theorem en_one (e : En) : e.cells.toArray.all (·.oneCell') = true := all_oneCell_toArray (fun v hv => by
  simp only [En.cells, List.mem_cons, List.not_mem_nil, or_false] at hv
  rcases hv with h | h | h | h | h | h | h | h | h | h | h | h | h | h | h | h | h <;> (subst h; rfl))
theorem setCells_below {B : Nat} {a : World} (b : Nat) : ∀ (vs : List Value) (o : Nat) (w : World), Below B a w → B ≤ b → Below B a (w.setCells b o vs)
  | [], _, _, h, _ => h
  | v :: vs, o, w, h, hb => setCells_below b vs (o + 1) (w.setCell ⟨b, o, none⟩ v) (below_set h hb) hb
theorem kind_seven (op : Int) : kindOf op = 0 ∨ kindOf op = 1 ∨ kindOf op = 2 ∨ kindOf op = 3 ∨ kindOf op = 4 ∨ kindOf op = 5 ∨ kindOf op = 6 := by
  unfold kindOf
  repeat' (split <;> try omega)

set_option maxRecDepth 100000 in
set_option maxHeartbeats 16000000 in
theorem start_early (e0 : En) (a b : Nat) (w : World) (q0 : (e0.is != 0) = true ∨ ((e0.is != 0) = false ∧ kindOf e0.op = 3) ∨ ((e0.is != 0) = false ∧ kindOf e0.op = 4)) :
    Calls Try.prog 9 #[.agg #[.int .i64 e0.no, .int .u32 e0.pc, .int .i64 e0.op, .int .i64 e0.rd, .int .i64 e0.rs1, .int .i64 e0.rs2, .int .u32 e0.imm, .int .u32 e0.guess, .int .i64 e0.is, .int .i64 e0.left, .int .u32 e0.value, .int .u32 e0.next, .int .u32 e0.addr, .int .i64 e0.halt, .int .i64 e0.took, .bool e0.known, .bool e0.filled], .int .u32 a, .int .u32 b] w fun e w' => e = .returned (.agg #[.int .i64 e0.no, .int .u32 e0.pc, .int .i64 e0.op, .int .i64 e0.rd, .int .i64 e0.rs1, .int .i64 e0.rs2, .int .u32 e0.imm, .int .u32 e0.guess, .int .i64 e0.is, .int .i64 e0.left, .int .u32 e0.value, .int .u32 e0.next, .int .u32 e0.addr, .int .i64 e0.halt, .int .i64 e0.took, .bool e0.known, .bool e0.filled]) ∧ Below w.heap.size w w' := by
  have ck := fun w => kind_any e0.op e0.rd e0.rs1 e0.rs2 e0.imm w
  obtain ⟨k, hk⟩ : ∃ k, k = kindOf e0.op := ⟨_, rfl⟩
  rw [← hk] at ck q0
  clear hk
  rcases q0 with q0 | ⟨q0, rfl⟩ | ⟨q0, rfl⟩
  all_goals
    go_enter Try.func9, Try.ntmps9
    go_wp2_with fail
    have S0 := EnSt.start w e0
    refine (ck _).mono ?_; rintro e w1 ⟨rfl, b1⟩
    have S1 := S0.kept b1
    have c8 : w1.cell? ⟨w.heap.size, 8, none⟩ = some (.int .i64 e0.is) := S1.m.c 8 _ rfl
    go_upto_region 3 with (fail)
    refine wp_region_lit ?_
    refine wpList_load_mid rfl 26 (.tmp 3) rfl w.heap.size 0 rfl (En.cells e0) _ (En.range S1.m) Try.underlying26 rfl (by kernel_rfl) ?_
    refine wpList_store_mid rfl 26 (.tmp 6) (.tmp 24) rfl (w.heap.size + 1) 0 (En.cells e0).toArray rfl rfl (En.there S1.z rfl) (by kernel_rfl) (en_one _) ?_
    have hL := run_loadVar_mid (P := Try.prog) (w1.setCells (w.heap.size + 1) 0 (En.cells e0)) (w.heap.size + 1) 0 26 (En.cells e0) _ (World.rangeAt_setCells_same w1 (w.heap.size + 1) 0 (En.cells e0) (En.there S1.z rfl)) Try.underlying26 rfl (by kernel_rfl)
    have hbz := setCells_below (w.heap.size + 1) (En.cells e0) 0 w1 S1.b (Nat.le_succ _)
    clear S0 S1 b1 c8
    simp only [Act.put, List.setIfInBounds_toArray, List.set_cons_zero, List.set_cons_succ]
    go_wp2_with fail
    refine bodyPost_ret (v := .agg (En.cells e0).toArray) (by simp [results, Try.results9, asAddr, hL]; done) rfl ?_
    exact ⟨rfl, hbz⟩

set_option maxRecDepth 100000 in
set_option maxHeartbeats 16000000 in
theorem start_late (e0 : En) (a b : Nat) (w : World) (hi : e0.imm < 4294967296) (hp : e0.pc < 4294967296) (ha : a < 4294967296) (hb : b < 4294967296) (q0 : (e0.is != 0) = false) (q3 : kindOf e0.op ≠ 3) (q4 : kindOf e0.op ≠ 4) (r : En) (hr : r = startK e0 a b) :
    Calls Try.prog 9 #[.agg #[.int .i64 e0.no, .int .u32 e0.pc, .int .i64 e0.op, .int .i64 e0.rd, .int .i64 e0.rs1, .int .i64 e0.rs2, .int .u32 e0.imm, .int .u32 e0.guess, .int .i64 e0.is, .int .i64 e0.left, .int .u32 e0.value, .int .u32 e0.next, .int .u32 e0.addr, .int .i64 e0.halt, .int .i64 e0.took, .bool e0.known, .bool e0.filled], .int .u32 a, .int .u32 b] w fun e w' => e = .returned (.agg #[.int .i64 r.no, .int .u32 r.pc, .int .i64 r.op, .int .i64 r.rd, .int .i64 r.rs1, .int .i64 r.rs2, .int .u32 r.imm, .int .u32 r.guess, .int .i64 r.is, .int .i64 r.left, .int .u32 r.value, .int .u32 r.next, .int .u32 r.addr, .int .i64 r.halt, .int .i64 r.took, .bool r.known, .bool r.filled]) ∧ Below w.heap.size w w' := by
  have ck := fun w => kind_any e0.op e0.rd e0.rs1 e0.rs2 e0.imm w
  have hwr := fun w => writes_to e0.op e0.rd e0.rs1 e0.rs2 e0.imm w
  have hval := fun w => value_any e0.op e0.rd e0.rs1 e0.rs2 e0.imm e0.pc a b w hi hp ha hb
  have htook := fun w => took_any e0.op a b w ha hb
  have htar := fun w => target_any e0.op e0.rd e0.rs1 e0.rs2 e0.imm e0.pc a b w hi hp ha hb
  have hk7 := kind_seven e0.op
  obtain ⟨v1, hv1⟩ : ∃ v1 : Int, v1 = (if wrP e0.op e0.rd = 0 then (0 : Int) else ((valP e0.op e0.imm e0.pc a b : Nat) : Int)) := ⟨_, rfl⟩
  have hB : startB e0 a b = { e0 with is := 1, value := v1, next := ((e0.pc : Int) + 4) % 4294967296, left := 1 } := by rw [hv1]; rfl
  have hK : r = if kindOf e0.op = 1 then { startB e0 a b with left := 3 } else if kindOf e0.op = 2 then { startB e0 a b with took := (tookP e0.op a b : Nat), left := (tookP e0.op a b : Nat) }
      else if kindOf e0.op = 5 then (if nextP e0.op e0.imm e0.pc a b % 4 = 0 then { startB e0 a b with next := (nextP e0.op e0.imm e0.pc a b : Nat) } else { startB e0 a b with halt := 3, value := 0 }) else startB e0 a b := hr
  rw [hB] at hK
  clear hr hB
  generalize kindOf e0.op = k at *
  generalize wrP e0.op e0.rd = wr at *
  generalize valP e0.op e0.imm e0.pc a b = v at *
  generalize tookP e0.op a b = t at *
  generalize nextP e0.op e0.imm e0.pc a b = n at *
  have HV := Lib.hid hv1
  have HK := Lib.hid hK
  have HK7 := Lib.hid hk7
  clear hv1 hK hk7
  have m3 : ((k : Int) == 3) = false := by simp; omega
  have m4 : ((k : Int) == 4) = false := by simp; omega
  have HQ := Lib.hid (show k ≠ 3 ∧ k ≠ 4 from ⟨q3, q4⟩)
  clear q3 q4
  go_enter Try.func9, Try.ntmps9
  go_wp2_with fail
  have S0 := EnSt.start w e0
  refine (ck _).mono ?_; rintro e w1 ⟨rfl, b1⟩
  have S1 := S0.kept b1
  clear S0 b1 ck
  have c8 : w1.cell? ⟨w.heap.size, 8, none⟩ = some (.int .i64 e0.is) := S1.m.c 8 _ rfl
  have g8 := S1.m.g 8
  go_upto_region 5 with (fail)
  have S2 := S1.set (e' := { e0 with is := 1 }) 8 (.int .i64 1) (by omega) rfl
  clear S1 c8 g8
  generalize w1.setCell _ _ = w2 at *
  have c10 : w2.cell? ⟨w.heap.size, 10, none⟩ = some (.int .u32 e0.value) := S2.m.c 10 _ rfl
  have g10 := S2.m.g 10
  go_upto_region 6 with (fail)
  have S3 := S2.set (e' := { e0 with is := 1, value := 0 }) 10 (.int .u32 0) (by omega) rfl
  clear S2 c10 g10
  generalize w2.setCell _ _ = w3 at *
  have c2 : w3.cell? ⟨w.heap.size, 2, none⟩ = some (.int .i64 e0.op) := S3.m.c 2 _ rfl
  have c3 : w3.cell? ⟨w.heap.size, 3, none⟩ = some (.int .i64 e0.rd) := S3.m.c 3 _ rfl
  have c4 : w3.cell? ⟨w.heap.size, 4, none⟩ = some (.int .i64 e0.rs1) := S3.m.c 4 _ rfl
  have c5 : w3.cell? ⟨w.heap.size, 5, none⟩ = some (.int .i64 e0.rs2) := S3.m.c 5 _ rfl
  have c6 : w3.cell? ⟨w.heap.size, 6, none⟩ = some (.int .u32 e0.imm) := S3.m.c 6 _ rfl
  go_wp2_with fail
  refine (hwr _).mono ?_; rintro e w4 ⟨rfl, b4⟩
  have S4 := S3.kept b4
  clear S3 b4 c2 c3 c4 c5 c6 hwr
  go_upto_if 30 with (fail)
  go_cut [7] (fun t7 wx => t7 = .int .i64 k ∧ EnSt w wx { e0 with is := 1, value := v1 })
  case first =>
    by_cases hw0 : wr = 0
    · have he : Hid (v1 = 0) := by show _ = _; rw [HV.out, if_pos hw0]
      go_wp2_with fail
      go_meet
      case rel => exact ⟨rfl, by rw [he.out]; exact S4⟩
    · have he : Hid (v1 = (v : Int)) := by show _ = _; rw [HV.out, if_neg hw0]
      have c1 : w4.cell? ⟨w.heap.size, 1, none⟩ = some (.int .u32 e0.pc) := S4.m.c 1 _ rfl
      have c2 : w4.cell? ⟨w.heap.size, 2, none⟩ = some (.int .i64 e0.op) := S4.m.c 2 _ rfl
      have c3 : w4.cell? ⟨w.heap.size, 3, none⟩ = some (.int .i64 e0.rd) := S4.m.c 3 _ rfl
      have c4 : w4.cell? ⟨w.heap.size, 4, none⟩ = some (.int .i64 e0.rs1) := S4.m.c 4 _ rfl
      have c5 : w4.cell? ⟨w.heap.size, 5, none⟩ = some (.int .i64 e0.rs2) := S4.m.c 5 _ rfl
      have c6 : w4.cell? ⟨w.heap.size, 6, none⟩ = some (.int .u32 e0.imm) := S4.m.c 6 _ rfl
      go_wp2_with (go_at_call 29; refine (hval _).mono ?_; rintro e w5 ⟨rfl, b5⟩; have c10 : w5.cell? ⟨w.heap.size, 10, none⟩ = some (.int .u32 0) := (S4.kept b5).m.c 10 _ rfl; have g10 := (S4.kept b5).m.g 10)
      go_meet
      case rel => exact ⟨rfl, by rw [he.out]; exact (S4.kept b5).set (e' := { e0 with is := 1, value := (v : Int) }) 10 (.int .u32 v) (by omega) rfl⟩
  case rest =>
  obtain ⟨rfl, S5⟩ := hcut
  clear hval S4
  have c1 : wc.cell? ⟨w.heap.size, 1, none⟩ = some (.int .u32 e0.pc) := S5.m.c 1 _ rfl
  have c11 : wc.cell? ⟨w.heap.size, 11, none⟩ = some (.int .u32 e0.next) := S5.m.c 11 _ rfl
  have g11 := S5.m.g 11
  go_upto_region 9 with (fail)
  have S6 := S5.set (e' := { e0 with is := 1, value := v1, next := ((e0.pc : Int) + 4) % 4294967296 }) 11 (.int .u32 (((e0.pc : Int) + 4) % 4294967296)) (by omega) rfl
  clear S5 c1 c11 g11
  generalize wc.setCell _ _ = w6 at *
  have c9 : w6.cell? ⟨w.heap.size, 9, none⟩ = some (.int .i64 e0.left) := S6.m.c 9 _ rfl
  have g9 := S6.m.g 9
  go_upto_region 10 with (fail)
  have S7 := S6.set (e' := { e0 with is := 1, value := v1, next := ((e0.pc : Int) + 4) % 4294967296, left := 1 }) 9 (.int .i64 1) (by omega) rfl
  clear S6 c9 g9
  generalize w6.setCell _ _ = w7 at *
  go_upto_block 0 with (fail)
  go_cut [7] (fun t7 wx => t7 = .int .i64 k ∧ EnSt w wx r)
  case first =>
    have hkc : k = 1 ∨ k = 2 ∨ k = 5 ∨ k = 0 ∨ k = 6 := by
      have h1 := HK7.out
      have h2 := HQ.out
      omega
    rcases hkc with rfl | rfl | rfl | hk06
    · have he : Hid (r = { e0 with is := 1, value := v1, next := ((e0.pc : Int) + 4) % 4294967296, left := 3 }) := by show _ = _; rw [HK.out, if_pos rfl]
      have c9 : w7.cell? ⟨w.heap.size, 9, none⟩ = some (.int .i64 1) := S7.m.c 9 _ rfl
      have g9 := S7.m.g 9
      go_wp2_with fail
      go_meet
      case rel => exact ⟨rfl, by rw [he.out]; exact S7.set 9 (.int .i64 3) (by omega) rfl⟩
    · have he : Hid (r = { e0 with is := 1, value := v1, next := ((e0.pc : Int) + 4) % 4294967296, left := (t : Int), took := (t : Int) }) := by show _ = _; rw [HK.out, if_neg (by decide), if_pos rfl]
      have c2 : w7.cell? ⟨w.heap.size, 2, none⟩ = some (.int .i64 e0.op) := S7.m.c 2 _ rfl
      have c14 : w7.cell? ⟨w.heap.size, 14, none⟩ = some (.int .i64 e0.took) := S7.m.c 14 _ rfl
      have g14 := S7.m.g 14
      go_upto_region 15 with (go_at_call 30; refine (htook _).mono ?_; rintro e w' ⟨rfl, rfl⟩)
      have S8 := S7.set (e' := { e0 with is := 1, value := v1, next := ((e0.pc : Int) + 4) % 4294967296, left := 1, took := (t : Int) }) 14 (.int .i64 t) (by omega) rfl
      clear S7 c2 c14 g14
      generalize w7.setCell _ _ = w8 at *
      have c14 : w8.cell? ⟨w.heap.size, 14, none⟩ = some (.int .i64 t) := S8.m.c 14 _ rfl
      have c9 : w8.cell? ⟨w.heap.size, 9, none⟩ = some (.int .i64 1) := S8.m.c 9 _ rfl
      have g9 := S8.m.g 9
      go_wp2_with fail
      go_meet
      case rel => exact ⟨rfl, by rw [he.out]; exact S8.set 9 (.int .i64 t) (by omega) rfl⟩
    · have he : Hid (r = if n % 4 = 0 then { e0 with is := 1, value := v1, next := (n : Int), left := 1 } else { e0 with is := 1, value := 0, next := ((e0.pc : Int) + 4) % 4294967296, left := 1, halt := 3 }) := by show _ = _; rw [HK.out, if_neg (by decide), if_neg (by decide), if_pos rfl]
      have c1 : w7.cell? ⟨w.heap.size, 1, none⟩ = some (.int .u32 e0.pc) := S7.m.c 1 _ rfl
      have c2 : w7.cell? ⟨w.heap.size, 2, none⟩ = some (.int .i64 e0.op) := S7.m.c 2 _ rfl
      have c3 : w7.cell? ⟨w.heap.size, 3, none⟩ = some (.int .i64 e0.rd) := S7.m.c 3 _ rfl
      have c4 : w7.cell? ⟨w.heap.size, 4, none⟩ = some (.int .i64 e0.rs1) := S7.m.c 4 _ rfl
      have c5 : w7.cell? ⟨w.heap.size, 5, none⟩ = some (.int .i64 e0.rs2) := S7.m.c 5 _ rfl
      have c6 : w7.cell? ⟨w.heap.size, 6, none⟩ = some (.int .u32 e0.imm) := S7.m.c 6 _ rfl
      go_wp2_with fail
      refine (htar _).mono ?_; rintro e w8 ⟨rfl, b8⟩
      have S8 := S7.kept b8
      clear S7 b8 c1 c2 c3 c4 c5 c6
      by_cases hn : n % 4 = 0
      · have hd : decide (n % 4 = 0) = true := by simpa using hn
        rw [if_pos hn] at he
        have he2 := Lib.hid he.out
        rw [hd]
        clear hd hn he
        have c11 : w8.cell? ⟨w.heap.size, 11, none⟩ = some (.int .u32 (((e0.pc : Int) + 4) % 4294967296)) := S8.m.c 11 _ rfl
        have g11 := S8.m.g 11
        go_wp2_with fail
        go_meet
        case rel => exact ⟨rfl, by rw [he2.out]; exact S8.set 11 (.int .u32 n) (by omega) rfl⟩
      · have hd : decide (n % 4 = 0) = false := by simpa using hn
        rw [if_neg hn] at he
        have he2 := Lib.hid he.out
        rw [hd]
        clear hd hn he
        have c13 : w8.cell? ⟨w.heap.size, 13, none⟩ = some (.int .i64 e0.halt) := S8.m.c 13 _ rfl
        have g13 := S8.m.g 13
        go_upto_region 21 with (fail)
        have S9 := S8.set (e' := { e0 with is := 1, value := v1, next := ((e0.pc : Int) + 4) % 4294967296, left := 1, halt := 3 }) 13 (.int .i64 3) (by omega) rfl
        clear S8 c13 g13
        generalize w8.setCell _ _ = w9 at *
        have c10 : w9.cell? ⟨w.heap.size, 10, none⟩ = some (.int .u32 v1) := S9.m.c 10 _ rfl
        have g10 := S9.m.g 10
        go_wp2_with fail
        go_meet
        case rel => exact ⟨rfl, by rw [he2.out]; exact S9.set 10 (.int .u32 0) (by omega) rfl⟩
    · have he : Hid (r = { e0 with is := 1, value := v1, next := ((e0.pc : Int) + 4) % 4294967296, left := 1 }) := by show _ = _; rw [HK.out, if_neg (by omega), if_neg (by omega), if_neg (by omega)]
      rcases hk06 with rfl | rfl
      all_goals
        go_wp2_with fail
        go_meet
        case rel => exact ⟨rfl, by rw [he.out]; exact S7⟩
  case rest =>
  obtain ⟨-, S9⟩ := hcut
  clear S7
  go_upto_region 22 with (fail)
  refine wp_region_lit ?_
  refine wpList_load_mid rfl 26 (.tmp 3) rfl w.heap.size 0 rfl (En.cells r) _ (En.range S9.m) Try.underlying26 rfl (by kernel_rfl) ?_
  refine wpList_store_mid rfl 26 (.tmp 6) (.tmp 77) rfl (w.heap.size + 1) 0 (En.cells r).toArray rfl rfl (En.there S9.z rfl) (by kernel_rfl) (en_one _) ?_
  have hL := run_loadVar_mid (P := Try.prog) (wc.setCells (w.heap.size + 1) 0 (En.cells r)) (w.heap.size + 1) 0 26 (En.cells r) _ (World.rangeAt_setCells_same wc (w.heap.size + 1) 0 (En.cells r) (En.there S9.z rfl)) Try.underlying26 rfl (by kernel_rfl)
  have hbz := setCells_below (w.heap.size + 1) (En.cells r) 0 wc S9.b (Nat.le_succ _)
  clear S9
  simp only [Act.put, List.setIfInBounds_toArray, List.set_cons_zero, List.set_cons_succ]
  go_wp2_with fail
  refine bodyPost_ret (v := .agg (En.cells r).toArray) (by simp [results, Try.results9, asAddr, hL]; done) rfl ?_
  exact ⟨rfl, hbz⟩

theorem start_any (e0 : En) (a b : Nat) (w : World) (hi : e0.imm < 4294967296) (hp : e0.pc < 4294967296) (ha : a < 4294967296) (hb : b < 4294967296) :
    Calls Try.prog 9 #[.agg #[.int .i64 e0.no, .int .u32 e0.pc, .int .i64 e0.op, .int .i64 e0.rd, .int .i64 e0.rs1, .int .i64 e0.rs2, .int .u32 e0.imm, .int .u32 e0.guess, .int .i64 e0.is, .int .i64 e0.left, .int .u32 e0.value, .int .u32 e0.next, .int .u32 e0.addr, .int .i64 e0.halt, .int .i64 e0.took, .bool e0.known, .bool e0.filled], .int .u32 a, .int .u32 b] w fun e w' => e = .returned (.agg #[.int .i64 (startP e0 a b).no, .int .u32 (startP e0 a b).pc, .int .i64 (startP e0 a b).op, .int .i64 (startP e0 a b).rd, .int .i64 (startP e0 a b).rs1, .int .i64 (startP e0 a b).rs2, .int .u32 (startP e0 a b).imm, .int .u32 (startP e0 a b).guess, .int .i64 (startP e0 a b).is, .int .i64 (startP e0 a b).left, .int .u32 (startP e0 a b).value, .int .u32 (startP e0 a b).next, .int .u32 (startP e0 a b).addr, .int .i64 (startP e0 a b).halt, .int .i64 (startP e0 a b).took, .bool (startP e0 a b).known, .bool (startP e0 a b).filled]) ∧ Below w.heap.size w w' := by
  by_cases h : e0.is ≠ 0 ∨ kindOf e0.op = 3 ∨ kindOf e0.op = 4
  · have hv : startP e0 a b = e0 := by unfold startP; rw [if_pos h]
    rw [hv]
    refine start_early e0 a b w ?_
    by_cases h0 : e0.is = 0
    · rcases h with h | h | h
      · exact absurd h0 h
      · exact .inr (.inl ⟨by simpa using h0, h⟩)
      · exact .inr (.inr ⟨by simpa using h0, h⟩)
    · exact .inl (by simpa using h0)
  · have hv : startP e0 a b = startK e0 a b := by unfold startP; rw [if_neg h]
    rw [hv]
    refine start_late e0 a b w hi hp ha hb ?_ (fun q => h (.inr (.inl q))) (fun q => h (.inr (.inr q))) _ rfl
    have h0 : e0.is = 0 := Classical.byContradiction fun q => h (.inl q)
    simpa using h0

def goP (e : En) : En :=
  if e.is ≠ 1 then e else if wrap64 (e.left - 1) ≤ 0 then { e with left := 0, is := 3, known := if kindOf e.op = 5 ∧ e.halt = 0 then true else e.known } else { e with left := wrap64 (e.left - 1) }

set_option maxRecDepth 100000 in
set_option maxHeartbeats 16000000 in
theorem go_early (e0 : En) (w : World) (q0 : (e0.is != 1) = true) : Calls Try.prog 11 #[.agg #[.int .i64 e0.no, .int .u32 e0.pc, .int .i64 e0.op, .int .i64 e0.rd, .int .i64 e0.rs1, .int .i64 e0.rs2, .int .u32 e0.imm, .int .u32 e0.guess, .int .i64 e0.is, .int .i64 e0.left, .int .u32 e0.value, .int .u32 e0.next, .int .u32 e0.addr, .int .i64 e0.halt, .int .i64 e0.took, .bool e0.known, .bool e0.filled]] w fun e w' => e = .returned (.agg #[.int .i64 e0.no, .int .u32 e0.pc, .int .i64 e0.op, .int .i64 e0.rd, .int .i64 e0.rs1, .int .i64 e0.rs2, .int .u32 e0.imm, .int .u32 e0.guess, .int .i64 e0.is, .int .i64 e0.left, .int .u32 e0.value, .int .u32 e0.next, .int .u32 e0.addr, .int .i64 e0.halt, .int .i64 e0.took, .bool e0.known, .bool e0.filled]) ∧ Below w.heap.size w w' := by
  have S1 := EnSt.start w e0
  generalize hw1 : (w.alloc (.cells e0.cells.toArray 26)).alloc (.cells zeroEn.toArray 26) = w1 at S1
  have HW := Lib.hid hw1
  have c8 : w1.cell? ⟨w.heap.size, 8, none⟩ = some (.int .i64 e0.is) := S1.m.c 8 _ rfl
  clear hw1
  go_enter Try.func11, Try.ntmps11
  go_upto_region 1 with (fail)
  have hw2 : (w.alloc (.cells #[.int .i64 e0.no, .int .u32 e0.pc, .int .i64 e0.op, .int .i64 e0.rd, .int .i64 e0.rs1, .int .i64 e0.rs2, .int .u32 e0.imm, .int .u32 e0.guess, .int .i64 e0.is, .int .i64 e0.left, .int .u32 e0.value, .int .u32 e0.next, .int .u32 e0.addr, .int .i64 e0.halt, .int .i64 e0.took, .bool e0.known, .bool e0.filled] 26)).alloc (.cells #[.int .i64 0, .int .u32 0, .int .i64 0, .int .i64 0, .int .i64 0, .int .i64 0, .int .u32 0, .int .u32 0, .int .i64 0, .int .i64 0, .int .u32 0, .int .u32 0, .int .u32 0, .int .i64 0, .int .i64 0, .bool false, .bool false] 26) = w1 := HW.out
  rw [hw2]
  clear hw2 HW
  go_upto_region 2 with (fail)
  refine wp_region_lit ?_
  refine wpList_load_mid rfl 26 (.tmp 1) rfl w.heap.size 0 rfl (En.cells e0) _ (En.range S1.m) Try.underlying26 rfl (by kernel_rfl) ?_
  refine wpList_store_mid rfl 26 (.tmp 2) (.tmp 6) rfl (w.heap.size + 1) 0 (En.cells e0).toArray rfl rfl (En.there S1.z rfl) (by kernel_rfl) (en_one _) ?_
  have hL := run_loadVar_mid (P := Try.prog) (w1.setCells (w.heap.size + 1) 0 (En.cells e0)) (w.heap.size + 1) 0 26 (En.cells e0) _ (World.rangeAt_setCells_same w1 (w.heap.size + 1) 0 (En.cells e0) (En.there S1.z rfl)) Try.underlying26 rfl (by kernel_rfl)
  have hbz := setCells_below (w.heap.size + 1) (En.cells e0) 0 w1 S1.b (Nat.le_succ _)
  clear S1 c8
  simp only [Act.put, List.setIfInBounds_toArray, List.set_cons_zero, List.set_cons_succ]
  go_wp2_with fail
  refine bodyPost_ret (v := .agg (En.cells e0).toArray) (by simp [results, Try.results11, asAddr, hL]; done) rfl ?_
  exact ⟨rfl, hbz⟩

set_option maxRecDepth 100000 in
set_option maxHeartbeats 16000000 in
theorem go_late (e0 : En) (w : World) (q0 : (e0.is != 1) = false) (l : Int) (hl : wrap64 (e0.left - 1) = l) (r : En) (hr : r = if l ≤ 0 then { e0 with left := 0, is := 3, known := if kindOf e0.op = 5 ∧ e0.halt = 0 then true else e0.known } else { e0 with left := l }) :
    Calls Try.prog 11 #[.agg #[.int .i64 e0.no, .int .u32 e0.pc, .int .i64 e0.op, .int .i64 e0.rd, .int .i64 e0.rs1, .int .i64 e0.rs2, .int .u32 e0.imm, .int .u32 e0.guess, .int .i64 e0.is, .int .i64 e0.left, .int .u32 e0.value, .int .u32 e0.next, .int .u32 e0.addr, .int .i64 e0.halt, .int .i64 e0.took, .bool e0.known, .bool e0.filled]] w fun e w' => e = .returned (.agg #[.int .i64 r.no, .int .u32 r.pc, .int .i64 r.op, .int .i64 r.rd, .int .i64 r.rs1, .int .i64 r.rs2, .int .u32 r.imm, .int .u32 r.guess, .int .i64 r.is, .int .i64 r.left, .int .u32 r.value, .int .u32 r.next, .int .u32 r.addr, .int .i64 r.halt, .int .i64 r.took, .bool r.known, .bool r.filled]) ∧ Below w.heap.size w w' := by
  have ck := fun w => kind_any e0.op e0.rd e0.rs1 e0.rs2 e0.imm w
  generalize kindOf e0.op = k at *
  have HR := Lib.hid hr
  clear hr
  have S1 := EnSt.start w e0
  generalize hw1 : (w.alloc (.cells e0.cells.toArray 26)).alloc (.cells zeroEn.toArray 26) = w1 at S1
  have HW := Lib.hid hw1
  have c8 : w1.cell? ⟨w.heap.size, 8, none⟩ = some (.int .i64 e0.is) := S1.m.c 8 _ rfl
  have c9 : w1.cell? ⟨w.heap.size, 9, none⟩ = some (.int .i64 e0.left) := S1.m.c 9 _ rfl
  have g9 := S1.m.g 9
  clear hw1
  go_enter Try.func11, Try.ntmps11
  go_upto_region 1 with (fail)
  have hw2 : (w.alloc (.cells #[.int .i64 e0.no, .int .u32 e0.pc, .int .i64 e0.op, .int .i64 e0.rd, .int .i64 e0.rs1, .int .i64 e0.rs2, .int .u32 e0.imm, .int .u32 e0.guess, .int .i64 e0.is, .int .i64 e0.left, .int .u32 e0.value, .int .u32 e0.next, .int .u32 e0.addr, .int .i64 e0.halt, .int .i64 e0.took, .bool e0.known, .bool e0.filled] 26)).alloc (.cells #[.int .i64 0, .int .u32 0, .int .i64 0, .int .i64 0, .int .i64 0, .int .i64 0, .int .u32 0, .int .u32 0, .int .i64 0, .int .i64 0, .int .u32 0, .int .u32 0, .int .u32 0, .int .i64 0, .int .i64 0, .bool false, .bool false] 26) = w1 := HW.out
  rw [hw2]
  clear hw2 HW
  go_upto_region 4 with (fail)
  have S2 := S1.set (e' := { e0 with left := l }) 9 (.int .i64 l) (by omega) rfl
  clear S1 c8 c9 g9
  generalize w1.setCell _ _ = w2 at *
  have c9 : w2.cell? ⟨w.heap.size, 9, none⟩ = some (.int .i64 l) := S2.m.c 9 _ rfl
  have g9 := S2.m.g 9
  go_upto_if 13 with (fail)
  go_cut [1] (fun t1 wx => t1 = .pointer (some ⟨w.heap.size, 0, none⟩) ∧ EnSt w wx r)
  case first =>
    by_cases hl0 : l ≤ 0
    · have he : Hid (r = { e0 with left := 0, is := 3, known := if k = 5 ∧ e0.halt = 0 then true else e0.known }) := by show _ = _; rw [HR.out, if_pos hl0]
      go_upto_region 6 with (fail)
      have S3 := S2.set (e' := { e0 with left := 0 }) 9 (.int .i64 0) (by omega) rfl
      clear S2 c9 g9
      generalize w2.setCell _ _ = w3 at *
      have c8 : w3.cell? ⟨w.heap.size, 8, none⟩ = some (.int .i64 e0.is) := S3.m.c 8 _ rfl
      have g8 := S3.m.g 8
      go_upto_region 7 with (fail)
      have S4 := S3.set (e' := { e0 with left := 0, is := 3 }) 8 (.int .i64 3) (by omega) rfl
      clear S3 c8 g8
      generalize w3.setCell _ _ = w4 at *
      have c2 : w4.cell? ⟨w.heap.size, 2, none⟩ = some (.int .i64 e0.op) := S4.m.c 2 _ rfl
      have c3 : w4.cell? ⟨w.heap.size, 3, none⟩ = some (.int .i64 e0.rd) := S4.m.c 3 _ rfl
      have c4 : w4.cell? ⟨w.heap.size, 4, none⟩ = some (.int .i64 e0.rs1) := S4.m.c 4 _ rfl
      have c5 : w4.cell? ⟨w.heap.size, 5, none⟩ = some (.int .i64 e0.rs2) := S4.m.c 5 _ rfl
      have c6 : w4.cell? ⟨w.heap.size, 6, none⟩ = some (.int .u32 e0.imm) := S4.m.c 6 _ rfl
      go_wp2_with fail
      refine (ck _).mono ?_; rintro e w5 ⟨rfl, b5⟩
      have S5 := S4.kept b5
      clear S4 b5 c2 c3 c4 c5 c6
      have c13 : w5.cell? ⟨w.heap.size, 13, none⟩ = some (.int .i64 e0.halt) := S5.m.c 13 _ rfl
      have c15 : w5.cell? ⟨w.heap.size, 15, none⟩ = some (.bool e0.known) := S5.m.c 15 _ rfl
      have g15 := S5.m.g 15
      by_cases hk5 : k = 5
      · by_cases hh : e0.halt = 0
        · have he2 : Hid (r = { e0 with left := 0, is := 3, known := true }) := by show _ = _; rw [he.out, if_pos ⟨hk5, hh⟩]
          have hh2 : (e0.halt == 0) = true := by simpa using hh
          clear hh he
          subst hk5
          go_wp2_with fail
          go_meet
          case rel => exact ⟨rfl, by rw [he2.out]; exact S5.set 15 (.bool true) (by omega) rfl⟩
        · have he2 : Hid (r = { e0 with left := 0, is := 3, known := e0.known }) := by show _ = _; rw [he.out, if_neg (fun q => hh q.2)]
          have hh2 : (e0.halt == 0) = false := by simpa using hh
          clear hh he
          subst hk5
          go_wp2_with fail
          go_meet
          case rel => exact ⟨rfl, by rw [he2.out]; exact S5⟩
      · have he2 : Hid (r = { e0 with left := 0, is := 3, known := e0.known }) := by show _ = _; rw [he.out, if_neg (fun q => hk5 q.1)]
        have hk2 : ((k : Int) == 5) = false := by simp; omega
        clear hk5 he
        go_wp2_with fail
        go_meet
        case rel => exact ⟨rfl, by rw [he2.out]; exact S5⟩
    · have he : Hid (r = { e0 with left := l }) := by show _ = _; rw [HR.out, if_neg hl0]
      go_wp2_with fail
      go_meet
      case rel => exact ⟨rfl, by rw [he.out]; exact S2⟩
  case rest =>
  obtain ⟨rfl, S9⟩ := hcut
  clear S2 c9 g9
  go_upto_region 9 with (fail)
  refine wp_region_lit ?_
  refine wpList_load_mid rfl 26 (.tmp 1) rfl w.heap.size 0 rfl (En.cells r) _ (En.range S9.m) Try.underlying26 rfl (by kernel_rfl) ?_
  refine wpList_store_mid rfl 26 (.tmp 2) (.tmp 26) rfl (w.heap.size + 1) 0 (En.cells r).toArray rfl rfl (En.there S9.z rfl) (by kernel_rfl) (en_one _) ?_
  have hL := run_loadVar_mid (P := Try.prog) (wc.setCells (w.heap.size + 1) 0 (En.cells r)) (w.heap.size + 1) 0 26 (En.cells r) _ (World.rangeAt_setCells_same wc (w.heap.size + 1) 0 (En.cells r) (En.there S9.z rfl)) Try.underlying26 rfl (by kernel_rfl)
  have hbz := setCells_below (w.heap.size + 1) (En.cells r) 0 wc S9.b (Nat.le_succ _)
  clear S9
  simp only [Act.put, List.setIfInBounds_toArray, List.set_cons_zero, List.set_cons_succ]
  go_wp2_with fail
  refine bodyPost_ret (v := .agg (En.cells r).toArray) (by simp [results, Try.results11, asAddr, hL]; done) rfl ?_
  exact ⟨rfl, hbz⟩

theorem go_any (e0 : En) (w : World) : Calls Try.prog 11 #[.agg #[.int .i64 e0.no, .int .u32 e0.pc, .int .i64 e0.op, .int .i64 e0.rd, .int .i64 e0.rs1, .int .i64 e0.rs2, .int .u32 e0.imm, .int .u32 e0.guess, .int .i64 e0.is, .int .i64 e0.left, .int .u32 e0.value, .int .u32 e0.next, .int .u32 e0.addr, .int .i64 e0.halt, .int .i64 e0.took, .bool e0.known, .bool e0.filled]] w fun e w' => e = .returned (.agg #[.int .i64 (goP e0).no, .int .u32 (goP e0).pc, .int .i64 (goP e0).op, .int .i64 (goP e0).rd, .int .i64 (goP e0).rs1, .int .i64 (goP e0).rs2, .int .u32 (goP e0).imm, .int .u32 (goP e0).guess, .int .i64 (goP e0).is, .int .i64 (goP e0).left, .int .u32 (goP e0).value, .int .u32 (goP e0).next, .int .u32 (goP e0).addr, .int .i64 (goP e0).halt, .int .i64 (goP e0).took, .bool (goP e0).known, .bool (goP e0).filled]) ∧ Below w.heap.size w w' := by
  by_cases h : e0.is = 1
  · have hv : goP e0 = if wrap64 (e0.left - 1) ≤ 0 then { e0 with left := 0, is := 3, known := if kindOf e0.op = 5 ∧ e0.halt = 0 then true else e0.known } else { e0 with left := wrap64 (e0.left - 1) } := by unfold goP; rw [if_neg (fun q => q h)]
    exact go_late e0 w (by simpa using h) _ rfl _ hv
  · have hv : goP e0 = e0 := by unfold goP; rw [if_pos h]
    rw [hv]
    exact go_early e0 w (by simpa using h)
end Go.Proofs.Ytckjihpdjefpgaa
