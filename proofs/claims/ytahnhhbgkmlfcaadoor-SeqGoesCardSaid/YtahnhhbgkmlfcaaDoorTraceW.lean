/- Package trace: walks on the second machine; the law TraceRuns. -/
import Derived.Test.YtahnhhbgkmlfcaaDoorLaw06S
namespace Go.Proofs.YtahnhhbgkmlfcaaDoor
open Go.RowKit

structure Ev where
  pc : Nat
  addr : Nat
  size : Int
  took : Int
  loaded : Nat
  halt : Int
abbrev evL (e : Ev) : List AV := [.v (.int .u32 (e.pc : Int)), .v (.int .u32 (e.addr : Int)), .v (.int .i64 e.size), .v (.int .i64 e.took), .v (.int .u32 (e.loaded : Int)), .v (.int .i64 e.halt)]
/-- What a contract tells of a step. -/
def evP (ld : Bool) (x : Sp) : Ev := ⟨x.pc, x.addr, x.size, x.took, if ld = true ∧ 0 < x.size ∧ x.store = false then x.value else 0, x.halt⟩
def evEq (a b : Ev) : Bool := ((a.pc : Int) == b.pc) && (((a.addr : Int) == b.addr) && ((a.size == b.size) && ((a.took == b.took) && (((a.loaded : Int) == b.loaded) && ((a.halt == b.halt) && true)))))
theorem evEq_iff (a b : Ev) : evEq a b = true ↔ a = b := by
  obtain ⟨a1, a2, a3, a4, a5, a6⟩ := a
  obtain ⟨b1, b2, b3, b4, b5, b6⟩ := b
  simp [evEq]
  omega
/-- How many they have in common, from the first one on. -/
def sameP : List Ev → List Ev → Nat
  | a :: l, b :: m => if evEq a b = true then sameP l m + 1 else 0
  | _, _ => 0
theorem sameP_refl : ∀ l, sameP l l = l.length
  | [] => rfl
  | a :: l => by simp only [sameP, (evEq_iff a a).2 rfl, if_true, sameP_refl l, List.length_cons]
theorem sameP_pre : ∀ l m, sameP l (l ++ m) = l.length
  | [], m => by cases m <;> rfl
  | a :: l, m => by simp only [List.cons_append, sameP, (evEq_iff a a).2 rfl, if_true, sameP_pre l m, List.length_cons]
theorem sameP_le : ∀ l m, sameP l m ≤ l.length ∧ sameP l m ≤ m.length
  | [], m => by simp [sameP]
  | a :: l, [] => by simp [sameP]
  | a :: l, b :: m => by
    have := sameP_le l m
    simp only [sameP]
    split <;> simp <;> omega
/-- How far they agree: as long as each place agrees. -/
theorem sameP_drop : ∀ (k : Nat) (l m : List Ev), k < l.length → k < m.length → sameP (l.drop k) (m.drop k) = if evEq (l.getD k ⟨0, 0, 0, 0, 0, 0⟩) (m.getD k ⟨0, 0, 0, 0, 0, 0⟩) = true then sameP (l.drop (k + 1)) (m.drop (k + 1)) + 1 else 0
  | 0, a :: l, b :: m, _, _ => rfl
  | k + 1, a :: l, b :: m, h1, h2 => by simpa using sameP_drop k l m (by simpa using h1) (by simpa using h2)
  | k, [], m, h1, _ => by simp at h1
  | k, _ :: _, [], _, h2 => by simp at h2
abbrev rowE (e : Ev) : List AV := evL e
abbrev ev0 : Ev := ⟨0, 0, 0, 0, 0, 0⟩

theorem ev_yes {ld : Bool} {x : Sp} (h : cond2 (cond2 ld (decide (x.size > 0)) false) (!x.store) false = true) : evL ⟨x.pc, x.addr, x.size, x.took, x.value, x.halt⟩ = evL (evP ld x) := by
  have : ld = true ∧ 0 < x.size ∧ x.store = false := by
    cases ld <;> cases hs : x.store <;> by_cases hz : 0 < x.size <;> simp [cond2, hs, hz] at h ⊢
  unfold evP
  rw [if_pos this]
theorem ev_no {ld : Bool} {x : Sp} (h : cond2 (cond2 ld (decide (x.size > 0)) false) (!x.store) false = false) : evL ⟨x.pc, x.addr, x.size, x.took, 0, x.halt⟩ = evL (evP ld x) := by
  have : ¬ (ld = true ∧ 0 < x.size ∧ x.store = false) := by
    rintro ⟨rfl, h2, h3⟩
    simp [cond2, h2, h3] at h
  unfold evP
  rw [if_neg this]
theorem take_ev (l : List Sp) (ld : Bool) (k : Nat) (hk : k ≤ l.length) : List.take k (List.drop 0 ((l.take k).map fun x => evL (evP ld x))) = (l.take k).map fun x => evL (evP ld x) := by
  rw [List.drop_zero, List.take_of_length_le (by simp; omega)]
theorem take_more {α : Type} (l : List α) (k : Nat) (x : α) (hx : l[k]? = some x) : l.take (k + 1) = l.take k ++ [x] := by rw [List.take_add_one, hx]; rfl
theorem ev_step (l : List Sp) (ld : Bool) (k : Nat) (x : Sp) (hx : l[k]? = some x) (r : List AV) (hr : r = evL (evP ld x)) : ((l.take k).map fun x => evL (evP ld x)) ++ [r] = (l.take (k + 1)).map fun x => evL (evP ld x) := by
  rw [take_more l k x hx, List.map_append, hr]; rfl

set_option maxRecDepth 100000 in
set_option maxHeartbeats 4000000 in
theorem dOf (l : List Sp) (clip ld : Bool) (hl : l.length ≤ 100000) : DCall C0 19 [.sl 9 (l.map spL) clip, .v (.bool ld)] (.sl 6 (l.map fun x => evL (evP ld x)) false) := by
  refine DCall.intro c0Ok Tryd.func19 rfl rfl (by kernel_rfl) rfl ?_
  refine cSeq ?_
  refine cReg rfl ?_
  refine rOk (d := 4) (x := .sl 0 ([]) true) rfl rfl rfl ?_
  refine rEnd (n' := 1) rfl ?_
  refine cSeq ?_
  refine cReg rfl ?_
  refine rOk (d := 9) (x := .sl 9 (l.map spL) clip) rfl rfl rfl ?_
  refine rOk (d := 10) (x := .v (.int .i64 ((l.length : Nat) : Int))) rfl rfl (congrArg (fun n : Nat => Res.ok (.v (.int .i64 (n : Int)))) (List.length_map ..)) ?_
  refine rFx (d := 11) (x := .osl 3 0 0 false) (h' := upd _ 3 (some (.arr (List.replicate 0 (evL ev0)) 6))) rfl rfl (rfl) (⟨Int.le_refl _, Int.natCast_nonneg _, by show (l.length : Int) ≤ 1000000; omega⟩) ?_
  refine rOk (d := 5) (x := .osl 3 0 0 false) rfl rfl rfl ?_
  refine rEnd (n' := 5) rfl ?_
  refine cSeq ?_
  refine cSeq ?_
  refine cReg rfl ?_
  refine rOk (d := 12) (x := .sl 9 (l.map spL) clip) rfl rfl rfl ?_
  refine rOk (d := 13) (x := .v (.int .i64 ((l.length : Nat) : Int))) rfl rfl (congrArg (fun n : Nat => Res.ok (.v (.int .i64 (n : Int)))) (List.length_map ..)) ?_
  refine rOk (d := 14) (x := .v (.int .i64 0)) rfl rfl rfl ?_
  refine rEnd (n' := 8) rfl ?_
  refine cBlock ?_
  refine cLoop (κ := Nat) (fun k => ⟨slotsF [(1, .v (.bool ld)), (5, .osl 3 0 k false), (12, .sl 9 (l.map spL) clip), (13, .v (.int .i64 ((l.length : Nat) : Int))), (14, .v (.int .i64 (k : Int)))], heapF [(3, .arr ((l.take k).map fun x => evL (evP ld x)) 6)], 8⟩) (fun k => k ≤ l.length) (fun k => l.length - k) 0 (fun s => s) (Weak.of_lists (fun s => s) ⟨⟨rfl, rfl⟩, ⟨rfl, rfl⟩, ⟨rfl, rfl⟩, ⟨rfl, rfl⟩, ⟨rfl, rfl⟩, trivial⟩ ⟨⟨rfl, rfl, rfl⟩, trivial⟩ rfl) (Nat.zero_le _) ?_
  intro k hk
  refine cSeq ?_
  refine cReg rfl ?_
  refine rOk (d := 15) (x := .v (.bool (decide (k < l.length)))) rfl rfl (okB (ltN _ _)) ?_
  refine rEnd (n' := 9) rfl ?_
  refine cSeq ?_
  refine cCond (v := decide (k < l.length)) rfl (fun h1 => ?_) (fun h1 => ?_)
  · skip
    refine cSkip ?_
    refine cSeq ?_
    refine cBlock ?_
    refine cSeq ?_
    refine cReg rfl ?_
    obtain ⟨x, hx⟩ : ∃ x, l[k]? = some x := ⟨_, List.getElem?_eq_getElem (by have := of_decide_eq_true h1; omega)⟩
    refine rIdx (spL x) (d := 16) (x := .dp 9 0 (spL x)) rfl rfl rfl (⟨Int.natCast_nonneg _, by rw [Int.toNat_natCast, List.getElem?_map]; exact congrArg (Option.map spL) hx⟩) rfl ?_
    refine rOk (d := 17) (x := .agg (spL x)) rfl rfl rfl ?_
    refine rFx (d := 7) (x := .ptr 11 0) (h' := upd _ 11 (some (.box [.v (.int .u32 0), .v (.int .u32 0), .v (.int .i64 0), .v (.int .u32 0), .v (.int .u32 0), .v (.int .i64 0), .v (.bool false), .v (.int .i64 0), .v (.int .i64 0)]))) rfl rfl (rfl) (trivial) ?_
    refine rFx0 (h' := upd _ 11 (some (.box [.v (.int .u32 ((x.pc : Nat) : Int)), .v (.int .u32 ((x.next : Nat) : Int)), .v (.int .i64 x.rd), .v (.int .u32 ((x.value : Nat) : Int)), .v (.int .u32 ((x.addr : Nat) : Int)), .v (.int .i64 x.size), .v (.bool x.store), .v (.int .i64 x.halt), .v (.int .i64 x.took)]))) rfl rfl (rfl) (trivial) ?_
    refine rEnd (n' := 13) rfl ?_
    refine cSeq ?_
    refine cReg rfl ?_
    refine rOk (d := 18) (x := .ptr 11 0) rfl rfl rfl ?_
    refine rOk (d := 19) (x := .v (.int .u32 ((x.pc : Nat) : Int))) rfl rfl rfl ?_
    refine rOk (d := 20) (x := .ptr 11 4) rfl rfl rfl ?_
    refine rOk (d := 21) (x := .v (.int .u32 ((x.addr : Nat) : Int))) rfl rfl rfl ?_
    refine rOk (d := 22) (x := .ptr 11 5) rfl rfl rfl ?_
    refine rOk (d := 23) (x := .v (.int .i64 x.size)) rfl rfl rfl ?_
    refine rOk (d := 24) (x := .ptr 11 8) rfl rfl rfl ?_
    refine rOk (d := 25) (x := .v (.int .i64 x.took)) rfl rfl rfl ?_
    refine rOk (d := 26) (x := .ptr 11 7) rfl rfl rfl ?_
    refine rOk (d := 27) (x := .v (.int .i64 x.halt)) rfl rfl rfl ?_
    refine rOk (d := 28) (x := .agg [.v (.int .u32 ((x.pc : Nat) : Int)), .v (.int .u32 ((x.addr : Nat) : Int)), .v (.int .i64 x.size), .v (.int .i64 x.took), .v (.int .u32 0), .v (.int .i64 x.halt)]) rfl rfl rfl ?_
    refine rFx (d := 8) (x := .ptr 24 0) (h' := upd _ 24 (some (.box [.v (.int .u32 0), .v (.int .u32 0), .v (.int .i64 0), .v (.int .i64 0), .v (.int .u32 0), .v (.int .i64 0)]))) rfl rfl (rfl) (trivial) ?_
    refine rFx0 (h' := upd _ 24 (some (.box [.v (.int .u32 ((x.pc : Nat) : Int)), .v (.int .u32 ((x.addr : Nat) : Int)), .v (.int .i64 x.size), .v (.int .i64 x.took), .v (.int .u32 0), .v (.int .i64 x.halt)]))) rfl rfl (rfl) (trivial) ?_
    refine rEnd (n' := 26) rfl ?_
    refine cSeq ?_
    refine cSeq ?_
    refine cReg rfl ?_
    refine rOk (d := 29) (x := .v (.bool ld)) rfl rfl rfl ?_
    refine rOk (d := 30) (x := .v (.bool ld)) rfl rfl rfl ?_
    refine gOk (d := 31) (x := .ptr 11 5) (g := ld) rfl rfl rfl rfl rfl rfl ?_
    refine gOkS (d := 32) (x := .v (.int .i64 x.size)) (g := ld) rfl rfl rfl rfl (fun h => h) rfl rfl ?_
    refine gOkS (d := 33) (x := .v (.bool (decide (x.size > 0)))) (g := ld) rfl rfl rfl rfl (fun h => h) rfl rfl ?_
    refine rNeed (d := 34) (x := .v (.bool (cond2 ld (decide (x.size > 0)) false))) rfl rfl rfl (fun h => h) ?_
    refine rOk (d := 35) (x := .v (.bool (cond2 ld (decide (x.size > 0)) false))) rfl rfl rfl ?_
    refine gOk (d := 36) (x := .ptr 11 6) (g := cond2 ld (decide (x.size > 0)) false) rfl rfl rfl rfl rfl rfl ?_
    refine gOkS (d := 37) (x := .v (.bool x.store)) (g := cond2 ld (decide (x.size > 0)) false) rfl rfl rfl rfl (fun h => h) rfl rfl ?_
    refine gOkS (d := 38) (x := .v (.bool (!x.store))) (g := cond2 ld (decide (x.size > 0)) false) rfl rfl rfl rfl (fun h => h) rfl rfl ?_
    refine rNeed (d := 39) (x := .v (.bool (cond2 (cond2 ld (decide (x.size > 0)) false) (!x.store) false))) rfl rfl rfl (fun h => h) ?_
    refine rEnd (n' := 37) rfl ?_
    refine cCond (v := cond2 (cond2 ld (decide (x.size > 0)) false) (!x.store) false) rfl (fun h2 => ?_) (fun h2 => ?_)
    · skip
      refine cReg rfl ?_
      refine rOk (d := 40) (x := .ptr 11 3) rfl rfl rfl ?_
      refine rOk (d := 41) (x := .v (.int .u32 ((x.value : Nat) : Int))) rfl rfl rfl ?_
      refine rOk (d := 42) (x := .ptr 24 4) rfl rfl rfl ?_
      refine rFx0 (h' := upd _ 24 (some (.box [.v (.int .u32 ((x.pc : Nat) : Int)), .v (.int .u32 ((x.addr : Nat) : Int)), .v (.int .i64 x.size), .v (.int .i64 x.took), .v (.int .u32 ((x.value : Nat) : Int)), .v (.int .i64 x.halt)]))) rfl rfl (rfl) (trivial) ?_
      refine rEnd (n' := 41) rfl ?_
      refine cReg rfl ?_
      refine rOk (d := 43) (x := .osl 3 0 k false) rfl rfl rfl ?_
      refine rOk (d := 44) (x := .agg [.v (.int .u32 ((x.pc : Nat) : Int)), .v (.int .u32 ((x.addr : Nat) : Int)), .v (.int .i64 x.size), .v (.int .i64 x.took), .v (.int .u32 ((x.value : Nat) : Int)), .v (.int .i64 x.halt)]) rfl rfl rfl ?_
      refine rOk (d := 45) (x := .sl 6 ([[.v (.int .u32 ((x.pc : Nat) : Int)), .v (.int .u32 ((x.addr : Nat) : Int)), .v (.int .i64 x.size), .v (.int .i64 x.took), .v (.int .u32 ((x.value : Nat) : Int)), .v (.int .i64 x.halt)]]) true) rfl rfl rfl ?_
      refine rFx (d := 46) (x := .osl 44 0 ((List.take k (List.drop 0 ((l.take k).map fun x => evL (evP ld x)))).length + ([[.v (.int .u32 ((x.pc : Nat) : Int)), .v (.int .u32 ((x.addr : Nat) : Int)), .v (.int .i64 x.size), .v (.int .i64 x.took), .v (.int .u32 ((x.value : Nat) : Int)), .v (.int .i64 x.halt)]] : List (List AV)).length) false) (h' := upd (upd _ 3 none) 44 (some (.arr ((List.take k (List.drop 0 ((l.take k).map fun x => evL (evP ld x)))) ++ [[.v (.int .u32 ((x.pc : Nat) : Int)), .v (.int .u32 ((x.addr : Nat) : Int)), .v (.int .i64 x.size), .v (.int .i64 x.took), .v (.int .u32 ((x.value : Nat) : Int)), .v (.int .i64 x.halt)]]) 6))) rfl rfl (rfl) (⟨by have e := take_ev l ld k (by omega); show List.length (List.take k (List.drop 0 ((l.take k).map fun x => evL (evP ld x)))) + 1 ≤ 1000000; rw [e]; simp; omega, by show 0 + k = List.length ((l.take k).map fun x => evL (evP ld x)); simp; omega, trivial⟩) ?_
      refine rOk (d := 5) (x := .osl 44 0 ((List.take k (List.drop 0 ((l.take k).map fun x => evL (evP ld x)))).length + ([[.v (.int .u32 ((x.pc : Nat) : Int)), .v (.int .u32 ((x.addr : Nat) : Int)), .v (.int .i64 x.size), .v (.int .i64 x.took), .v (.int .u32 ((x.value : Nat) : Int)), .v (.int .i64 x.halt)]] : List (List AV)).length) false) rfl rfl rfl ?_
      refine rEnd (n' := 46) rfl ?_
      refine cReg rfl ?_
      refine rOk (d := 47) (x := .v (.int .i64 (IntKind.wrap .i64 ((k : Int) + 1)))) rfl rfl rfl ?_
      refine rOk (d := 14) (x := .v (.int .i64 (IntKind.wrap .i64 ((k : Int) + 1)))) rfl rfl rfl ?_
      refine rEnd (n' := 48) rfl ?_
      refine ⟨k + 1, fun s => match s with | 3 => 44 | s => s, Weak.of_lists (fun s => match s with | 3 => 44 | s => s) ⟨⟨rfl, rfl⟩, ⟨by show AV.osl 44 0 ((List.take k (List.drop 0 ((l.take k).map fun x => evL (evP ld x)))).length + 1) false = .osl 44 0 (k + 1) false; rw [take_ev l ld k (by have := of_decide_eq_true h1; omega)]; simp; have := of_decide_eq_true h1; omega, rfl⟩, ⟨rfl, rfl⟩, ⟨rfl, rfl⟩, ⟨slot_inc k (by have := of_decide_eq_true h1; omega), rfl⟩, trivial⟩ ⟨⟨rfl, by show some (Blk.arr (List.take k (List.drop 0 ((l.take k).map fun x => evL (evP ld x))) ++ [[.v (.int .u32 ((x.pc : Nat) : Int)), .v (.int .u32 ((x.addr : Nat) : Int)), .v (.int .i64 x.size), .v (.int .i64 x.took), .v (.int .u32 ((x.value : Nat) : Int)), .v (.int .i64 x.halt)]]) 6) = some (Blk.arr ((l.take (k + 1)).map fun x => evL (evP ld x)) 6); rw [take_ev l ld k (by have := of_decide_eq_true h1; omega)]; exact congrArg (fun r => some (Blk.arr r 6)) (ev_step l ld k x hx _ (ev_yes h2)), rfl⟩, trivial⟩ rfl, by have := of_decide_eq_true h1; omega, by have := of_decide_eq_true h1; show l.length - (k + 1) < l.length - k; omega⟩
    · skip
      refine cSkip ?_
      refine cReg rfl ?_
      refine rOk (d := 43) (x := .osl 3 0 k false) rfl rfl rfl ?_
      refine rOk (d := 44) (x := .agg [.v (.int .u32 ((x.pc : Nat) : Int)), .v (.int .u32 ((x.addr : Nat) : Int)), .v (.int .i64 x.size), .v (.int .i64 x.took), .v (.int .u32 0), .v (.int .i64 x.halt)]) rfl rfl rfl ?_
      refine rOk (d := 45) (x := .sl 6 ([[.v (.int .u32 ((x.pc : Nat) : Int)), .v (.int .u32 ((x.addr : Nat) : Int)), .v (.int .i64 x.size), .v (.int .i64 x.took), .v (.int .u32 0), .v (.int .i64 x.halt)]]) true) rfl rfl rfl ?_
      refine rFx (d := 46) (x := .osl 40 0 ((List.take k (List.drop 0 ((l.take k).map fun x => evL (evP ld x)))).length + ([[.v (.int .u32 ((x.pc : Nat) : Int)), .v (.int .u32 ((x.addr : Nat) : Int)), .v (.int .i64 x.size), .v (.int .i64 x.took), .v (.int .u32 0), .v (.int .i64 x.halt)]] : List (List AV)).length) false) (h' := upd (upd _ 3 none) 40 (some (.arr ((List.take k (List.drop 0 ((l.take k).map fun x => evL (evP ld x)))) ++ [[.v (.int .u32 ((x.pc : Nat) : Int)), .v (.int .u32 ((x.addr : Nat) : Int)), .v (.int .i64 x.size), .v (.int .i64 x.took), .v (.int .u32 0), .v (.int .i64 x.halt)]]) 6))) rfl rfl (rfl) (⟨by have e := take_ev l ld k (by omega); show List.length (List.take k (List.drop 0 ((l.take k).map fun x => evL (evP ld x)))) + 1 ≤ 1000000; rw [e]; simp; omega, by show 0 + k = List.length ((l.take k).map fun x => evL (evP ld x)); simp; omega, trivial⟩) ?_
      refine rOk (d := 5) (x := .osl 40 0 ((List.take k (List.drop 0 ((l.take k).map fun x => evL (evP ld x)))).length + ([[.v (.int .u32 ((x.pc : Nat) : Int)), .v (.int .u32 ((x.addr : Nat) : Int)), .v (.int .i64 x.size), .v (.int .i64 x.took), .v (.int .u32 0), .v (.int .i64 x.halt)]] : List (List AV)).length) false) rfl rfl rfl ?_
      refine rEnd (n' := 42) rfl ?_
      refine cReg rfl ?_
      refine rOk (d := 47) (x := .v (.int .i64 (IntKind.wrap .i64 ((k : Int) + 1)))) rfl rfl rfl ?_
      refine rOk (d := 14) (x := .v (.int .i64 (IntKind.wrap .i64 ((k : Int) + 1)))) rfl rfl rfl ?_
      refine rEnd (n' := 44) rfl ?_
      refine ⟨k + 1, fun s => match s with | 3 => 40 | s => s, Weak.of_lists (fun s => match s with | 3 => 40 | s => s) ⟨⟨rfl, rfl⟩, ⟨by show AV.osl 40 0 ((List.take k (List.drop 0 ((l.take k).map fun x => evL (evP ld x)))).length + 1) false = .osl 40 0 (k + 1) false; rw [take_ev l ld k (by have := of_decide_eq_true h1; omega)]; simp; have := of_decide_eq_true h1; omega, rfl⟩, ⟨rfl, rfl⟩, ⟨rfl, rfl⟩, ⟨slot_inc k (by have := of_decide_eq_true h1; omega), rfl⟩, trivial⟩ ⟨⟨rfl, by show some (Blk.arr (List.take k (List.drop 0 ((l.take k).map fun x => evL (evP ld x))) ++ [[.v (.int .u32 ((x.pc : Nat) : Int)), .v (.int .u32 ((x.addr : Nat) : Int)), .v (.int .i64 x.size), .v (.int .i64 x.took), .v (.int .u32 0), .v (.int .i64 x.halt)]]) 6) = some (Blk.arr ((l.take (k + 1)).map fun x => evL (evP ld x)) 6); rw [take_ev l ld k (by have := of_decide_eq_true h1; omega)]; exact congrArg (fun r => some (Blk.arr r 6)) (ev_step l ld k x hx _ (ev_no h2)), rfl⟩, trivial⟩ rfl, by have := of_decide_eq_true h1; omega, by have := of_decide_eq_true h1; show l.length - (k + 1) < l.length - k; omega⟩
  · skip
    refine cExit ?_
    refine cSeq ?_
    refine cReg rfl ?_
    refine rOk (d := 48) (x := .osl 3 0 k false) rfl rfl rfl ?_
    refine rOk (d := 4) (x := .osl 3 0 k false) rfl rfl rfl ?_
    refine rEnd (n' := 11) rfl ?_
    refine cRet ?_
    have hke : k = l.length := by have := of_decide_eq_false h1; omega
    exact finTA rfl (by show 0 + k ≤ List.length ((l.take k).map fun x => evL (evP ld x)); simp; omega) rfl (by show AV.sl 6 (List.take k (List.drop 0 ((l.take k).map fun x => evL (evP ld x)))) false = _; rw [take_ev l ld k hk, hke, List.take_length])
theorem cond2_and {a b : Bool} (h : cond2 a b false = true) : a = true ∧ b = true := by cases a <;> cases b <;> simp [cond2] at h ⊢
theorem cond2_or {a b : Bool} (h : cond2 a true b = false) : a = false ∧ b = false := by cases a <;> cases b <;> simp [cond2] at h ⊢
theorem getD_at {α : Type} (l : List α) (d : α) (k : Nat) (h : k < l.length) : l[k]? = some (l.getD k d) := by rw [List.getD_eq_getElem?_getD, List.getElem?_eq_getElem h]; rfl
theorem ev_at (l : List Ev) (k : Nat) (h : k < l.length) : (l.map evL)[((k : Nat) : Int).toNat]? = some (evL (l.getD k ev0)) := by
  rw [Int.toNat_natCast, List.getElem?_map, getD_at l ev0 k h]; rfl
theorem sameP_stop {a b : List Ev} {k : Nat} (h : ¬ (k < a.length ∧ k < b.length ∧ evEq (a.getD k ev0) (b.getD k ev0) = true)) : sameP (a.drop k) (b.drop k) = 0 := by
  by_cases h1 : k < a.length
  · by_cases h2 : k < b.length
    · rw [sameP_drop k a b h1 h2, if_neg fun h3 => h ⟨h1, h2, h3⟩]
    · rw [show b.drop k = [] from List.drop_eq_nil_of_le (by omega)]
      cases a.drop k <;> rfl
  · rw [show a.drop k = [] from List.drop_eq_nil_of_le (by omega)]
    cases b.drop k <;> rfl
theorem sameP_next {a b : List Ev} {k : Nat} (h1 : k < a.length) (h2 : k < b.length) (h3 : evEq (a.getD k ev0) (b.getD k ev0) = true) (h : sameP a b = k + sameP (a.drop k) (b.drop k)) : sameP a b = (k + 1) + sameP (a.drop (k + 1)) (b.drop (k + 1)) := by
  rw [h, sameP_drop k a b h1 h2, if_pos h3]; omega
set_option maxRecDepth 100000 in
set_option maxHeartbeats 4000000 in
theorem dSame (a b : List Ev) (c1 c2 : Bool) (ha : a.length ≤ 1000000) : DCall C0 18 [.sl 6 (a.map evL) c1, .sl 6 (b.map evL) c2] (.v (.int .i64 ((sameP a b : Nat) : Int))) := by
  refine DCall.intro c0Ok Tryd.func18 rfl rfl (by kernel_rfl) rfl ?_
  refine cSeq ?_
  refine cReg rfl ?_
  refine rOk (d := 4) (x := .v (.int .i64 0)) rfl rfl rfl ?_
  refine rEnd (n' := 1) rfl ?_
  refine cSeq ?_
  refine cReg rfl ?_
  refine rOk (d := 5) (x := .v (.int .i64 0)) rfl rfl rfl ?_
  refine rEnd (n' := 2) rfl ?_
  refine cSeq ?_
  refine cBlock ?_
  refine cLoop (κ := Nat) (fun k => ⟨slotsF [(0, .sl 6 (a.map evL) c1), (1, .sl 6 (b.map evL) c2), (5, .v (.int .i64 (k : Int)))], heapF [], 2⟩) (fun k => k ≤ a.length ∧ k ≤ b.length ∧ sameP a b = k + sameP (a.drop k) (b.drop k)) (fun k => a.length - k) 0 (fun s => s) (Weak.of_lists (fun s => s) ⟨⟨rfl, rfl⟩, ⟨rfl, rfl⟩, ⟨rfl, rfl⟩, trivial⟩ trivial rfl) (⟨Nat.zero_le _, Nat.zero_le _, by simp⟩) ?_
  intro k hk
  refine cSeq ?_
  refine cSeq ?_
  refine cReg rfl ?_
  refine rOk (d := 6) (x := .v (.int .i64 (k : Int))) rfl rfl rfl ?_
  refine rOk (d := 7) (x := .sl 6 (a.map evL) c1) rfl rfl rfl ?_
  refine rOk (d := 8) (x := .v (.int .i64 ((a.length : Nat) : Int))) rfl rfl (congrArg (fun n : Nat => Res.ok (.v (.int .i64 (n : Int)))) (List.length_map ..)) ?_
  refine rOk (d := 9) (x := .v (.bool (decide ((k : Int) < ((a.length : Nat) : Int))))) rfl rfl rfl ?_
  refine rOk (d := 10) (x := .v (.bool (decide ((k : Int) < ((a.length : Nat) : Int))))) rfl rfl rfl ?_
  refine gOk (d := 11) (x := .v (.int .i64 (k : Int))) (g := decide ((k : Int) < ((a.length : Nat) : Int))) rfl rfl rfl rfl rfl rfl ?_
  refine gOk (d := 12) (x := .sl 6 (b.map evL) c2) (g := decide ((k : Int) < ((a.length : Nat) : Int))) rfl rfl rfl rfl rfl rfl ?_
  refine gOkS (d := 13) (x := .v (.int .i64 ((b.length : Nat) : Int))) (g := decide ((k : Int) < ((a.length : Nat) : Int))) rfl rfl rfl rfl (fun h => h) rfl (congrArg (fun n : Nat => Res.ok (.v (.int .i64 (n : Int)))) (List.length_map ..)) ?_
  refine gOkS (d := 14) (x := .v (.bool (decide ((k : Int) < ((b.length : Nat) : Int))))) (g := decide ((k : Int) < ((a.length : Nat) : Int))) rfl rfl rfl rfl (fun h => by simp_all) rfl rfl ?_
  refine rNeed (d := 15) (x := .v (.bool (cond2 (decide ((k : Int) < ((a.length : Nat) : Int))) (decide ((k : Int) < ((b.length : Nat) : Int))) false))) rfl rfl rfl (fun h => h) ?_
  refine rOk (d := 16) (x := .v (.bool (cond2 (decide ((k : Int) < ((a.length : Nat) : Int))) (decide ((k : Int) < ((b.length : Nat) : Int))) false))) rfl rfl rfl ?_
  refine gOk (d := 17) (x := .sl 6 (a.map evL) c1) (g := cond2 (decide ((k : Int) < ((a.length : Nat) : Int))) (decide ((k : Int) < ((b.length : Nat) : Int))) false) rfl rfl rfl rfl rfl rfl ?_
  refine gOk (d := 18) (x := .v (.int .i64 (k : Int))) (g := cond2 (decide ((k : Int) < ((a.length : Nat) : Int))) (decide ((k : Int) < ((b.length : Nat) : Int))) false) rfl rfl rfl rfl rfl rfl ?_
  refine gIdxS (evL (a.getD k ev0)) (d := 19) (x := .dp 6 0 (evL (a.getD k ev0))) (g := cond2 (decide ((k : Int) < ((a.length : Nat) : Int))) (decide ((k : Int) < ((b.length : Nat) : Int))) false) rfl rfl rfl rfl (fun h => by simp_all) rfl rfl (fun hg => ⟨Int.natCast_nonneg _, ev_at a k (Int.ofNat_lt.1 (of_decide_eq_true (cond2_and hg).1))⟩) rfl ?_
  refine gOkS (d := 20) (x := .agg (evL (a.getD k ev0))) (g := cond2 (decide ((k : Int) < ((a.length : Nat) : Int))) (decide ((k : Int) < ((b.length : Nat) : Int))) false) rfl rfl rfl rfl (fun h => h) rfl rfl ?_
  refine gOk (d := 21) (x := .sl 6 (b.map evL) c2) (g := cond2 (decide ((k : Int) < ((a.length : Nat) : Int))) (decide ((k : Int) < ((b.length : Nat) : Int))) false) rfl rfl rfl rfl rfl rfl ?_
  refine gOk (d := 22) (x := .v (.int .i64 (k : Int))) (g := cond2 (decide ((k : Int) < ((a.length : Nat) : Int))) (decide ((k : Int) < ((b.length : Nat) : Int))) false) rfl rfl rfl rfl rfl rfl ?_
  refine gIdxS (evL (b.getD k ev0)) (d := 23) (x := .dp 6 0 (evL (b.getD k ev0))) (g := cond2 (decide ((k : Int) < ((a.length : Nat) : Int))) (decide ((k : Int) < ((b.length : Nat) : Int))) false) rfl rfl rfl rfl (fun h => by simp_all) rfl rfl (fun hg => ⟨Int.natCast_nonneg _, ev_at b k (Int.ofNat_lt.1 (of_decide_eq_true (cond2_and hg).2))⟩) rfl ?_
  refine gOkS (d := 24) (x := .agg (evL (b.getD k ev0))) (g := cond2 (decide ((k : Int) < ((a.length : Nat) : Int))) (decide ((k : Int) < ((b.length : Nat) : Int))) false) rfl rfl rfl rfl (fun h => h) rfl rfl ?_
  refine gOkS (d := 25) (x := .v (.bool (evEq (a.getD k ev0) (b.getD k ev0)))) (g := cond2 (decide ((k : Int) < ((a.length : Nat) : Int))) (decide ((k : Int) < ((b.length : Nat) : Int))) false) rfl rfl rfl rfl (fun h => by simp_all) rfl rfl ?_
  refine rNeed (d := 26) (x := .v (.bool (cond2 (cond2 (decide ((k : Int) < ((a.length : Nat) : Int))) (decide ((k : Int) < ((b.length : Nat) : Int))) false) (evEq (a.getD k ev0) (b.getD k ev0)) false))) rfl rfl rfl (fun h => h) ?_
  refine rEnd (n' := 23) rfl ?_
  refine cCond (v := cond2 (cond2 (decide ((k : Int) < ((a.length : Nat) : Int))) (decide ((k : Int) < ((b.length : Nat) : Int))) false) (evEq (a.getD k ev0) (b.getD k ev0)) false) rfl (fun h1 => ?_) (fun h1 => ?_)
  · skip
    refine cSkip ?_
    refine cBlock ?_
    refine cReg rfl ?_
    refine rOk (d := 27) (x := .v (.int .i64 (k : Int))) rfl rfl rfl ?_
    refine rOk (d := 28) (x := .v (.int .i64 (IntKind.wrap .i64 ((k : Int) + 1)))) rfl rfl rfl ?_
    refine rOk (d := 5) (x := .v (.int .i64 (IntKind.wrap .i64 ((k : Int) + 1)))) rfl rfl rfl ?_
    refine rEnd (n' := 26) rfl ?_
    refine ⟨k + 1, fun s => s, Weak.of_lists (fun s => s) ⟨⟨rfl, rfl⟩, ⟨rfl, rfl⟩, ⟨slot_inc k (by have q := cond2_and (cond2_and h1).1; have q1 := Int.ofNat_lt.1 (of_decide_eq_true q.1); omega), rfl⟩, trivial⟩ trivial rfl, have q := cond2_and (cond2_and h1).1; have q1 := Int.ofNat_lt.1 (of_decide_eq_true q.1); have q2 := Int.ofNat_lt.1 (of_decide_eq_true q.2); ⟨q1, q2, sameP_next q1 q2 (cond2_and h1).2 hk.2.2⟩, by have q := cond2_and (cond2_and h1).1; have q1 := Int.ofNat_lt.1 (of_decide_eq_true q.1); show a.length - (k + 1) < a.length - k; omega⟩
  · skip
    refine cExit ?_
    refine cSeq ?_
    refine cReg rfl ?_
    refine rOk (d := 29) (x := .v (.int .i64 (k : Int))) rfl rfl rfl ?_
    refine rOk (d := 4) (x := .v (.int .i64 (k : Int))) rfl rfl rfl ?_
    refine rEnd (n' := 25) rfl ?_
    refine cRet ?_
    exact finTA rfl trivial rfl (congrArg (fun n : Nat => AV.v (.int .i64 (n : Int))) (by rw [hk.2.2, sameP_stop (fun h => by have e1 := h.1; have e2 := h.2.1; have e3 := h.2.2; rw [e3] at h1; simp [cond2, e1, e2] at h1)]; rfl))
set_option maxRecDepth 100000 in
set_option maxHeartbeats 4000000 in
theorem dRSame (a b : List Ev) (c1 c2 : Bool) (ha : a.length ≤ 1000000) : DCall C0 33 [.sl 6 (a.map evL) c1, .sl 6 (b.map evL) c2] (.v (.int .i64 ((sameP a b : Nat) : Int))) := by
  refine DCall.intro c0Ok Tryd.func33 rfl rfl (by kernel_rfl) rfl ?_
  refine cSeq ?_
  refine cReg rfl ?_
  refine rOk (d := 4) (x := .v (.int .i64 0)) rfl rfl rfl ?_
  refine rEnd (n' := 1) rfl ?_
  refine cSeq ?_
  refine cSeq ?_
  refine cReg rfl ?_
  refine rOk (d := 6) (x := .sl 6 (a.map evL) c1) rfl rfl rfl ?_
  refine rOk (d := 7) (x := .v (.int .i64 ((a.length : Nat) : Int))) rfl rfl (congrArg (fun n : Nat => Res.ok (.v (.int .i64 (n : Int)))) (List.length_map ..)) ?_
  refine rOk (d := 8) (x := .v (.int .i64 0)) rfl rfl rfl ?_
  refine rEnd (n' := 4) rfl ?_
  refine cBlock ?_
  refine cLoop (κ := Nat) (fun k => ⟨slotsF [(0, .sl 6 (a.map evL) c1), (1, .sl 6 (b.map evL) c2), (7, .v (.int .i64 ((a.length : Nat) : Int))), (8, .v (.int .i64 (k : Int)))], heapF [], 4⟩) (fun k => k ≤ a.length ∧ k ≤ b.length ∧ sameP a b = k + sameP (a.drop k) (b.drop k)) (fun k => a.length - k) 0 (fun s => s) (Weak.of_lists (fun s => s) ⟨⟨rfl, rfl⟩, ⟨rfl, rfl⟩, ⟨rfl, rfl⟩, ⟨rfl, rfl⟩, trivial⟩ trivial rfl) (⟨Nat.zero_le _, Nat.zero_le _, by simp⟩) ?_
  intro k hk
  refine cSeq ?_
  refine cReg rfl ?_
  refine rOk (d := 9) (x := .v (.bool (decide ((k : Int) < ((a.length : Nat) : Int))))) rfl rfl rfl ?_
  refine rEnd (n' := 5) rfl ?_
  refine cSeq ?_
  refine cCond (v := decide ((k : Int) < ((a.length : Nat) : Int))) rfl (fun h1 => ?_) (fun h1 => ?_)
  · skip
    refine cSkip ?_
    refine cSeq ?_
    refine cBlock ?_
    refine cSeq ?_
    refine cReg rfl ?_
    refine rOk (d := 10) (x := .v (.int .i64 (k : Int))) rfl rfl rfl ?_
    refine rOk (d := 5) (x := .v (.int .i64 (k : Int))) rfl rfl rfl ?_
    refine rEnd (n' := 7) rfl ?_
    refine cSeq ?_
    refine cReg rfl ?_
    refine rOk (d := 11) (x := .v (.int .i64 (k : Int))) rfl rfl rfl ?_
    refine rOk (d := 12) (x := .sl 6 (b.map evL) c2) rfl rfl rfl ?_
    refine rOk (d := 13) (x := .v (.int .i64 ((b.length : Nat) : Int))) rfl rfl (congrArg (fun n : Nat => Res.ok (.v (.int .i64 (n : Int)))) (List.length_map ..)) ?_
    refine rOk (d := 14) (x := .v (.bool (decide ((k : Int) ≥ ((b.length : Nat) : Int))))) rfl rfl rfl ?_
    refine rOk (d := 15) (x := .v (.bool (decide ((k : Int) ≥ ((b.length : Nat) : Int))))) rfl rfl rfl ?_
    refine gOk (d := 16) (x := .sl 6 (a.map evL) c1) (g := !(decide ((k : Int) ≥ ((b.length : Nat) : Int)))) rfl rfl rfl rfl rfl rfl ?_
    refine gOk (d := 17) (x := .v (.int .i64 (k : Int))) (g := !(decide ((k : Int) ≥ ((b.length : Nat) : Int)))) rfl rfl rfl rfl rfl rfl ?_
    refine gIdxS (evL (a.getD k ev0)) (d := 18) (x := .dp 6 0 (evL (a.getD k ev0))) (g := !(decide ((k : Int) ≥ ((b.length : Nat) : Int)))) rfl rfl rfl rfl (fun h => by simp_all) rfl rfl (fun hg => ⟨Int.natCast_nonneg _, ev_at a k (Int.ofNat_lt.1 (of_decide_eq_true h1))⟩) rfl ?_
    refine gOkS (d := 19) (x := .agg (evL (a.getD k ev0))) (g := !(decide ((k : Int) ≥ ((b.length : Nat) : Int)))) rfl rfl rfl rfl (fun h => h) rfl rfl ?_
    refine gOk (d := 20) (x := .sl 6 (b.map evL) c2) (g := !(decide ((k : Int) ≥ ((b.length : Nat) : Int)))) rfl rfl rfl rfl rfl rfl ?_
    refine gOk (d := 21) (x := .v (.int .i64 (k : Int))) (g := !(decide ((k : Int) ≥ ((b.length : Nat) : Int)))) rfl rfl rfl rfl rfl rfl ?_
    refine gIdxS (evL (b.getD k ev0)) (d := 22) (x := .dp 6 0 (evL (b.getD k ev0))) (g := !(decide ((k : Int) ≥ ((b.length : Nat) : Int)))) rfl rfl rfl rfl (fun h => by simp_all) rfl rfl (fun hg => ⟨Int.natCast_nonneg _, ev_at b k (by have q : decide (((k : Nat) : Int) ≥ ((b.length : Nat) : Int)) = false := (by simpa using hg); have := of_decide_eq_false q; omega)⟩) rfl ?_
    refine gOkS (d := 23) (x := .agg (evL (b.getD k ev0))) (g := !(decide ((k : Int) ≥ ((b.length : Nat) : Int)))) rfl rfl rfl rfl (fun h => h) rfl rfl ?_
    refine gOkS (d := 24) (x := .v (.bool (!evEq (a.getD k ev0) (b.getD k ev0)))) (g := !(decide ((k : Int) ≥ ((b.length : Nat) : Int)))) rfl rfl rfl rfl (fun h => by simp_all) rfl rfl ?_
    refine rNeed (d := 25) (x := .v (.bool (cond2 (decide ((k : Int) ≥ ((b.length : Nat) : Int))) true (!evEq (a.getD k ev0) (b.getD k ev0))))) rfl rfl rfl (by simp) ?_
    refine rEnd (n' := 22) rfl ?_
    refine cCond (v := cond2 (decide ((k : Int) ≥ ((b.length : Nat) : Int))) true (!evEq (a.getD k ev0) (b.getD k ev0))) rfl (fun h2 => ?_) (fun h2 => ?_)
    · skip
      refine cSeq ?_
      refine cReg rfl ?_
      refine rOk (d := 26) (x := .v (.int .i64 (k : Int))) rfl rfl rfl ?_
      refine rOk (d := 4) (x := .v (.int .i64 (k : Int))) rfl rfl rfl ?_
      refine rEnd (n' := 24) rfl ?_
      refine cRet ?_
      exact finTA rfl trivial rfl (congrArg (fun n : Nat => AV.v (.int .i64 (n : Int))) (by rw [hk.2.2, sameP_stop (fun h => by have e1 : decide (((k : Nat) : Int) ≥ ((b.length : Nat) : Int)) = false := decide_eq_false (by have := h.2.1; omega); rw [e1, h.2.2] at h2; exact absurd h2 (by decide))]; rfl))
    · skip
      refine cSkip ?_
      refine cReg rfl ?_
      refine rOk (d := 27) (x := .v (.int .i64 (IntKind.wrap .i64 ((k : Int) + 1)))) rfl rfl rfl ?_
      refine rOk (d := 8) (x := .v (.int .i64 (IntKind.wrap .i64 ((k : Int) + 1)))) rfl rfl rfl ?_
      refine rEnd (n' := 24) rfl ?_
      refine ⟨k + 1, fun s => s, Weak.of_lists (fun s => s) ⟨⟨rfl, rfl⟩, ⟨rfl, rfl⟩, ⟨rfl, rfl⟩, ⟨slot_inc k (by have q1 := Int.ofNat_lt.1 (of_decide_eq_true h1); omega), rfl⟩, trivial⟩ trivial rfl, have q := cond2_or h2; have q1 := Int.ofNat_lt.1 (of_decide_eq_true h1); have q2 : k < b.length := (by have := of_decide_eq_false q.1; omega); ⟨q1, q2, sameP_next q1 q2 (by simpa using q.2) hk.2.2⟩, by have q := cond2_or h2; have q1 := Int.ofNat_lt.1 (of_decide_eq_true h1); have q2 : k < b.length := (by have := of_decide_eq_false q.1; omega); show a.length - (k + 1) < a.length - k; omega⟩
  · skip
    refine cExit ?_
    refine cSeq ?_
    refine cReg rfl ?_
    refine rOk (d := 28) (x := .sl 6 (a.map evL) c1) rfl rfl rfl ?_
    refine rOk (d := 29) (x := .v (.int .i64 ((a.length : Nat) : Int))) rfl rfl (congrArg (fun n : Nat => Res.ok (.v (.int .i64 (n : Int)))) (List.length_map ..)) ?_
    refine rOk (d := 4) (x := .v (.int .i64 ((a.length : Nat) : Int))) rfl rfl rfl ?_
    refine rEnd (n' := 8) rfl ?_
    refine cRet ?_
    have hke : k = a.length := by have := of_decide_eq_false h1; have := hk.1; omega
    exact finTA rfl trivial rfl (congrArg (fun n : Nat => AV.v (.int .i64 (n : Int))) (by rw [hk.2.2, hke, List.drop_of_length_le (Nat.le_refl _)]; cases (b.drop a.length) <;> rfl))
def likeP (a b : List Ev) : Bool := cond2 (a.length == b.length) (sameP a b == a.length) false
theorem likeP_refl (a : List Ev) : likeP a a = true := by simp [likeP, sameP_refl, cond2]
set_option maxRecDepth 100000 in
set_option maxHeartbeats 4000000 in
theorem dLike7 (a b : List Ev) (c1 c2 : Bool) (ha : a.length ≤ 1000000) : DCall C0 21 [.sl 6 (a.map evL) c1, .sl 6 (b.map evL) c2] (.v (.bool (likeP a b))) := by
  refine DCall.intro c0Ok Tryd.func21 rfl rfl (by kernel_rfl) rfl ?_
  refine cSeq ?_
  refine cReg rfl ?_
  refine rOk (d := 4) (x := .v (.bool false)) rfl rfl rfl ?_
  refine rEnd (n' := 1) rfl ?_
  refine cSeq ?_
  refine cReg rfl ?_
  refine rOk (d := 5) (x := .sl 6 (a.map evL) c1) rfl rfl rfl ?_
  refine rOk (d := 6) (x := .v (.int .i64 ((a.length : Nat) : Int))) rfl rfl (congrArg (fun n : Nat => Res.ok (.v (.int .i64 (n : Int)))) (List.length_map ..)) ?_
  refine rOk (d := 7) (x := .sl 6 (b.map evL) c2) rfl rfl rfl ?_
  refine rOk (d := 8) (x := .v (.int .i64 ((b.length : Nat) : Int))) rfl rfl (congrArg (fun n : Nat => Res.ok (.v (.int .i64 (n : Int)))) (List.length_map ..)) ?_
  refine rOk (d := 9) (x := .v (.bool (a.length == b.length))) rfl rfl (okB (eqN _ _)) ?_
  refine rOk (d := 10) (x := .v (.bool (a.length == b.length))) rfl rfl rfl ?_
  refine gOk (d := 11) (x := .sl 6 (a.map evL) c1) (g := a.length == b.length) rfl rfl rfl rfl rfl rfl ?_
  refine gOk (d := 12) (x := .sl 6 (b.map evL) c2) (g := a.length == b.length) rfl rfl rfl rfl rfl rfl ?_
  refine gCallS (d := 13) (x := .v (.int .i64 ((sameP a b : Nat) : Int))) (g := a.length == b.length) rfl rfl rfl rfl (fun h => by simp_all) rfl rfl rfl (.inl rfl) rfl (fun hg => dRSame a b c1 c2 ha) ?_
  refine gOk (d := 14) (x := .sl 6 (a.map evL) c1) (g := a.length == b.length) rfl rfl rfl rfl rfl rfl ?_
  refine gOkS (d := 15) (x := .v (.int .i64 ((a.length : Nat) : Int))) (g := a.length == b.length) rfl rfl rfl rfl (fun h => h) rfl (congrArg (fun n : Nat => Res.ok (.v (.int .i64 (n : Int)))) (List.length_map ..)) ?_
  refine gOkS (d := 16) (x := .v (.bool ((sameP a b) == a.length))) (g := a.length == b.length) rfl rfl rfl rfl (fun h => by simp_all) rfl (okB (eqN _ _)) ?_
  refine rNeed (d := 17) (x := .v (.bool (cond2 (a.length == b.length) ((sameP a b) == a.length) false))) rfl rfl rfl (fun h => h) ?_
  refine rOk (d := 4) (x := .v (.bool (cond2 (a.length == b.length) ((sameP a b) == a.length) false))) rfl rfl rfl ?_
  refine rEnd (n' := 15) rfl ?_
  refine cRet ?_
  exact retA_eq rfl trivial rfl rfl
theorem dOfL (L : List (St × Sp)) (clip ld : Bool) (hl : L.length ≤ 100000) : DCall C0 19 [.sl 9 (L.map rowS) clip, .v (.bool ld)] (.sl 6 ((L.map fun y : St × Sp => evP ld y.2).map evL) false) := by
  have h := dOf (L.map (·.2)) clip ld (by simpa using hl)
  rw [List.map_map, List.map_map] at h
  rw [List.map_map]
  exact h
def x0 : Sp := ⟨4, 0, 0, 0, 0, 0, false, 0, 0⟩
set_option maxRecDepth 100000 in
set_option maxHeartbeats 4000000 in
theorem dAlive7  : DCall C0 17 [] (.v (.bool true)) := by
  refine DCall.intro c0Ok Tryd.func17 rfl rfl (by kernel_rfl) rfl ?_
  refine cSeq ?_
  refine cReg rfl ?_
  refine rOk (d := 0) (x := .v (.bool false)) rfl rfl rfl ?_
  refine rEnd (n' := 1) rfl ?_
  refine cSeq ?_
  refine cReg rfl ?_
  refine rOk (d := 2) (x := .agg [.v (.int .u32 4), .v (.int .u32 0), .v (.int .i64 0), .v (.int .u32 0), .v (.int .u32 0), .v (.int .i64 0), .v (.bool false), .v (.int .i64 0), .v (.int .i64 0)]) rfl rfl rfl ?_
  refine rOk (d := 3) (x := .sl 9 ([[.v (.int .u32 4), .v (.int .u32 0), .v (.int .i64 0), .v (.int .u32 0), .v (.int .u32 0), .v (.int .i64 0), .v (.bool false), .v (.int .i64 0), .v (.int .i64 0)]]) true) rfl rfl rfl ?_
  refine rCall (args := [.sl 9 ([[.v (.int .u32 4), .v (.int .u32 0), .v (.int .i64 0), .v (.int .u32 0), .v (.int .u32 0), .v (.int .i64 0), .v (.bool false), .v (.int .i64 0), .v (.int .i64 0)]]) true, .v (.bool true)]) (d := 4) (x := .sl 6 ([x0].map fun x => evL (evP true x)) false) rfl rfl rfl rfl (.inl rfl) rfl (dOf [x0] true true (by decide)) ?_
  refine rOk (d := 1) (x := .sl 6 ([x0].map fun x => evL (evP true x)) false) rfl rfl rfl ?_
  refine rEnd (n' := 5) rfl ?_
  refine cSeq ?_
  refine cReg rfl ?_
  refine rOk (d := 5) (x := .sl 6 ([x0].map fun x => evL (evP true x)) false) rfl rfl rfl ?_
  refine rOk (d := 6) (x := .v (.int .i64 1)) rfl rfl rfl ?_
  refine rOk (d := 7) (x := .v (.bool (1 == 1))) rfl rfl rfl ?_
  refine rOk (d := 8) (x := .v (.bool (1 == 1))) rfl rfl rfl ?_
  refine gOk (d := 9) (x := .sl 6 ([x0].map fun x => evL (evP true x)) false) (g := 1 == 1) rfl rfl rfl rfl rfl rfl ?_
  refine gIdxS (evL (evP true x0)) (d := 10) (x := .dp 6 0 (evL (evP true x0))) (g := 1 == 1) rfl rfl rfl rfl (fun h => h) rfl rfl (fun hg => ⟨Int.le_refl _, rfl⟩) rfl ?_
  refine gOkS (d := 11) (x := .dp 6 0 (evL (evP true x0))) (g := 1 == 1) rfl rfl rfl rfl (fun h => h) rfl rfl ?_
  refine gOkS (d := 12) (x := .v (.int .u32 (((evP true x0).pc : Nat) : Int))) (g := 1 == 1) rfl rfl rfl rfl (fun h => h) rfl rfl ?_
  refine gOkS (d := 13) (x := .v (.bool (((evP true x0).pc) == 4))) (g := 1 == 1) rfl rfl rfl rfl (fun h => h) rfl (okB (eqN _ _)) ?_
  refine rNeed (d := 14) (x := .v (.bool (cond2 (1 == 1) (((evP true x0).pc) == 4) false))) rfl rfl rfl (fun h => h) ?_
  refine rOk (d := 0) (x := .v (.bool (cond2 (1 == 1) (((evP true x0).pc) == 4) false))) rfl rfl rfl ?_
  refine rEnd (n' := 16) rfl ?_
  refine cRet ?_
  exact retA_eq rfl trivial rfl rfl
set_option maxRecDepth 100000 in
set_option maxHeartbeats 4000000 in
theorem dTRun (prog : List Nat) (m : ByteArray) (n : Int) (clip ld : Bool) (hp : ∀ x ∈ prog, x ≤ 4294967295) (hl : prog.length ≤ 1000000) : DCall C0 20 [.sl 1 (prog.map rowU) clip, .v (.string m), .v (.int .i64 n), .v (.bool ld)] (.sl 6 (((runL prog m n).map fun y : St × Sp => evP ld y.2).map evL) false) := by
  refine DCall.intro c0Ok Tryd.func20 rfl rfl (by kernel_rfl) rfl ?_
  refine cSeq ?_
  refine cReg rfl ?_
  refine rOk (d := 8) (x := .sl 0 ([]) true) rfl rfl rfl ?_
  refine rEnd (n' := 1) rfl ?_
  refine cSeq ?_
  refine cReg rfl ?_
  refine rOk (d := 12) (x := .sl 1 (prog.map rowU) clip) rfl rfl rfl ?_
  refine rOk (d := 13) (x := .v (.string m)) rfl rfl rfl ?_
  refine rOk (d := 14) (x := .v (.int .i64 n)) rfl rfl rfl ?_
  refine rCall (args := [.sl 1 (prog.map rowU) clip, .v (.string m), .v (.int .i64 n)]) (d := 15) (x := .tup [.agg (stL (lastOf (newS m) (runL prog m n)).pc (lastOf (newS m) (runL prog m n)).r (lastOf (newS m) (runL prog m n)).mem (lastOf (newS m) (runL prog m n)).halt), .sl 9 ((runL prog m n).map rowS) false]) rfl rfl rfl rfl (.inl rfl) rfl (dRun prog m n clip hp hl) ?_
  refine rOk (d := 11) (x := .tup [.agg (stL (lastOf (newS m) (runL prog m n)).pc (lastOf (newS m) (runL prog m n)).r (lastOf (newS m) (runL prog m n)).mem (lastOf (newS m) (runL prog m n)).halt), .sl 9 ((runL prog m n).map rowS) false]) rfl rfl rfl ?_
  refine rOk (d := 16) (x := .agg (stL (lastOf (newS m) (runL prog m n)).pc (lastOf (newS m) (runL prog m n)).r (lastOf (newS m) (runL prog m n)).mem (lastOf (newS m) (runL prog m n)).halt)) rfl rfl rfl ?_
  refine rOk (d := 17) (x := .sl 9 ((runL prog m n).map rowS) false) rfl rfl rfl ?_
  refine rFx (d := 9) (x := .ptr 8 0) (h' := upd _ 8 (some (.box (stL 0 (fun _ => 0) (⟨#[]⟩) 0)))) rfl rfl (rfl) (trivial) ?_
  refine rFx0 (h' := upd _ 8 (some (.box (stL ((lastOf (newS m) (runL prog m n)).pc) ((lastOf (newS m) (runL prog m n)).r) ((lastOf (newS m) (runL prog m n)).mem) ((lastOf (newS m) (runL prog m n)).halt))))) rfl rfl (rfl) (trivial) ?_
  refine rOk (d := 10) (x := .sl 9 ((runL prog m n).map rowS) false) rfl rfl rfl ?_
  refine rEnd (n' := 11) rfl ?_
  refine cSeq ?_
  refine cReg rfl ?_
  refine rOk (d := 18) (x := .sl 9 ((runL prog m n).map rowS) false) rfl rfl rfl ?_
  refine rOk (d := 19) (x := .v (.bool ld)) rfl rfl rfl ?_
  refine rCall (args := [.sl 9 ((runL prog m n).map rowS) false, .v (.bool ld)]) (d := 20) (x := .sl 6 (((runL prog m n).map fun y : St × Sp => evP ld y.2).map evL) false) rfl rfl rfl rfl (.inl rfl) rfl (dOfL (runL prog m n) false ld (by have := runL_len prog m n; omega)) ?_
  refine rOk (d := 8) (x := .sl 6 (((runL prog m n).map fun y : St × Sp => evP ld y.2).map evL) false) rfl rfl rfl ?_
  refine rEnd (n' := 15) rfl ?_
  refine cRet ?_
  exact retA_eq rfl trivial rfl rfl
theorem stepsL_pre (prog : List Nat) : ∀ (n k : Nat) (s : St), ∃ t, stepsL prog (n + k) s = stepsL prog n s ++ t
  | 0, k, s => ⟨stepsL prog (0 + k) s, rfl⟩
  | n + 1, k, s => by
    by_cases h : s.halt = 0
    · obtain ⟨t, ht⟩ := stepsL_pre prog n k (stepP prog s).1
      exact ⟨t, by rw [show n + 1 + k = (n + k) + 1 by omega, stepsL_more h, stepsL_more h, ht]; rfl⟩
    · exact ⟨[], by rw [stepsL_done (.inr h), stepsL_done (.inr h)]; rfl⟩
set_option maxRecDepth 100000 in
set_option maxHeartbeats 4000000 in
theorem dTraceRuns (prog : List Nat) (m : ByteArray) (n more : Int) (ld : Bool) (hp : ∀ x ∈ prog, x ≤ 4294967295) (hl : prog.length ≤ maxLen) (hm : m.size < 9223372036854775808) : DCall C0 9 [.sl 1 (prog.map rowU) false, .v (.string m), .v (.int .i64 n), .v (.int .i64 more), .v (.bool ld)] (.v (.bool true)) := by
  refine DCall.intro c0Ok Tryd.func9 rfl rfl (by kernel_rfl) rfl ?_
  have hc1 := capK_le n 100 (by decide)
  have hc2 := capK_le more 100 (by decide)
  have hP : ∀ x ∈ (prog.take 64), x ≤ 4294967295 := fun x h => hp x (List.mem_of_mem_take h)
  have hPl : (prog.take 64).length ≤ 1000000 := by rw [List.length_take]; omega
  have hAr := dTRun (prog.take 64) (m.extract 0 (min m.size 300)) (capK n 100) false ld hP hPl
  have hBr := dTRun (prog.take 64) (m.extract 0 (min m.size 300)) (capK n 100 + capK more 100) false ld hP hPl
  have hOr := dOfL (runL (prog.take 64) (m.extract 0 (min m.size 300)) (capK n 100)) false ld (by have := runL_len (prog.take 64) (m.extract 0 (min m.size 300)) (capK n 100); omega)
  obtain ⟨A, hA⟩ : ∃ A, (runL (prog.take 64) (m.extract 0 (min m.size 300)) (capK n 100)).map (fun y : St × Sp => evP ld y.2) = A := ⟨_, rfl⟩
  obtain ⟨B, hB⟩ : ∃ B, (runL (prog.take 64) (m.extract 0 (min m.size 300)) (capK n 100 + capK more 100)).map (fun y : St × Sp => evP ld y.2) = B := ⟨_, rfl⟩
  rw [hA] at hAr hOr
  rw [hB] at hBr
  have hAl : A.length ≤ 1000000 := by rw [← hA, List.length_map]; have := runL_len (prog.take 64) (m.extract 0 (min m.size 300)) (capK n 100); omega
  have hAB : ∃ t, B = A ++ t := by
    obtain ⟨t, ht⟩ := stepsL_pre (prog.take 64) (capK n 100).toNat (capK more 100).toNat (newS (m.extract 0 (min m.size 300)))
    refine ⟨t.map fun y : St × Sp => evP ld y.2, ?_⟩
    rw [← hA, ← hB, ← List.map_append]
    unfold runL
    rw [capN_id (by omega), capN_id (by omega), ← ht, show (capK n 100 + capK more 100).toNat = (capK n 100).toNat + (capK more 100).toNat by omega]
  refine cSeq ?_
  refine cReg rfl ?_
  refine rOk (d := 10) (x := .v (.bool false)) rfl rfl rfl ?_
  refine rEnd (n' := 1) rfl ?_
  refine cSeq ?_
  refine cReg rfl ?_
  refine rOk (d := 15) (x := .sl 1 (prog.map rowU) false) rfl rfl rfl ?_
  refine rOk (d := 16) (x := .sl 1 (prog.map rowU) false) rfl rfl rfl ?_
  refine rOk (d := 17) (x := .v (.int .i64 ((prog.length : Nat) : Int))) rfl rfl (congrArg (fun n : Nat => Res.ok (.v (.int .i64 (n : Int)))) (List.length_map ..)) ?_
  refine rOk (d := 18) (x := .v (.int .i64 ((min prog.length 64 : Nat) : Int))) rfl rfl (by show Res.ok (.v (.int .i64 (if (64 : Int) < (prog.length : Int) then 64 else (prog.length : Int)))) = _; congr 3; split <;> omega) ?_
  refine rNeed (d := 19) (x := .sl 1 ((prog.take 64).map rowU) false) rfl rfl (by show Res.need _ (.sl 1 (List.drop 0 (List.take (min prog.length 64) (prog.map rowU))) (false && false)) = _; rw [take_rows]; rfl) ((show (0 : Int) ≤ 0 ∧ (0 : Int) ≤ ((min prog.length 64 : Nat) : Int) ∧ ((min prog.length 64 : Nat) : Int) ≤ (((prog.map rowU).length : Nat) : Int) from ⟨Int.le_refl _, Int.natCast_nonneg _, by rw [List.length_map]; omega⟩)) ?_
  refine rOk (d := 20) (x := .v (.string m)) rfl rfl rfl ?_
  refine rOk (d := 21) (x := .v (.string m)) rfl rfl rfl ?_
  refine rOk (d := 22) (x := .v (.int .i64 (m.size : Int))) rfl rfl rfl ?_
  refine rOk (d := 23) (x := .v (.int .i64 ((min m.size 300 : Nat) : Int))) rfl rfl (by show Res.ok (.v (.int .i64 (if (300 : Int) < (m.size : Int) then 300 else (m.size : Int)))) = _; congr 3; split <;> omega) ?_
  refine rNeed (d := 24) (x := .v (.string (m.extract 0 (min m.size 300)))) rfl rfl rfl (⟨Int.le_refl _, Int.natCast_nonneg _, by show ((min m.size 300 : Nat) : Int) ≤ ((m.size : Nat) : Int); omega⟩) ?_
  refine rOk (d := 0) (x := .sl 1 ((prog.take 64).map rowU) false) rfl rfl rfl ?_
  refine rOk (d := 1) (x := .v (.string (m.extract 0 (min m.size 300)))) rfl rfl rfl ?_
  refine rEnd (n' := 13) rfl ?_
  refine cSeq ?_
  refine cReg rfl ?_
  refine rOk (d := 25) (x := .v (.int .i64 n)) rfl rfl rfl ?_
  refine rOk (d := 26) (x := .v (.int .i64 (if (0 : Int) > n then 0 else n))) rfl rfl rfl ?_
  refine rOk (d := 27) (x := .v (.int .i64 (capK n 100))) rfl rfl rfl ?_
  refine rOk (d := 28) (x := .v (.int .i64 more)) rfl rfl rfl ?_
  refine rOk (d := 29) (x := .v (.int .i64 (if (0 : Int) > more then 0 else more))) rfl rfl rfl ?_
  refine rOk (d := 30) (x := .v (.int .i64 (capK more 100))) rfl rfl rfl ?_
  refine rOk (d := 2) (x := .v (.int .i64 (capK n 100))) rfl rfl rfl ?_
  refine rOk (d := 3) (x := .v (.int .i64 (capK more 100))) rfl rfl rfl ?_
  refine rEnd (n' := 21) rfl ?_
  refine cSeq ?_
  refine cReg rfl ?_
  refine rOk (d := 32) (x := .sl 1 ((prog.take 64).map rowU) false) rfl rfl rfl ?_
  refine rOk (d := 33) (x := .v (.string (m.extract 0 (min m.size 300)))) rfl rfl rfl ?_
  refine rOk (d := 34) (x := .v (.int .i64 (capK n 100))) rfl rfl rfl ?_
  refine rCall (args := [.sl 1 ((prog.take 64).map rowU) false, .v (.string (m.extract 0 (min m.size 300))), .v (.int .i64 (capK n 100))]) (d := 35) (x := .tup [.agg (stL (lastOf (newS (m.extract 0 (min m.size 300))) (runL (prog.take 64) (m.extract 0 (min m.size 300)) (capK n 100))).pc (lastOf (newS (m.extract 0 (min m.size 300))) (runL (prog.take 64) (m.extract 0 (min m.size 300)) (capK n 100))).r (lastOf (newS (m.extract 0 (min m.size 300))) (runL (prog.take 64) (m.extract 0 (min m.size 300)) (capK n 100))).mem (lastOf (newS (m.extract 0 (min m.size 300))) (runL (prog.take 64) (m.extract 0 (min m.size 300)) (capK n 100))).halt), .sl 9 ((runL (prog.take 64) (m.extract 0 (min m.size 300)) (capK n 100)).map rowS) false]) rfl rfl rfl rfl (.inl rfl) rfl (dRun (prog.take 64) (m.extract 0 (min m.size 300)) (capK n 100) false hP hPl) ?_
  refine rOk (d := 31) (x := .tup [.agg (stL (lastOf (newS (m.extract 0 (min m.size 300))) (runL (prog.take 64) (m.extract 0 (min m.size 300)) (capK n 100))).pc (lastOf (newS (m.extract 0 (min m.size 300))) (runL (prog.take 64) (m.extract 0 (min m.size 300)) (capK n 100))).r (lastOf (newS (m.extract 0 (min m.size 300))) (runL (prog.take 64) (m.extract 0 (min m.size 300)) (capK n 100))).mem (lastOf (newS (m.extract 0 (min m.size 300))) (runL (prog.take 64) (m.extract 0 (min m.size 300)) (capK n 100))).halt), .sl 9 ((runL (prog.take 64) (m.extract 0 (min m.size 300)) (capK n 100)).map rowS) false]) rfl rfl rfl ?_
  refine rOk (d := 36) (x := .agg (stL (lastOf (newS (m.extract 0 (min m.size 300))) (runL (prog.take 64) (m.extract 0 (min m.size 300)) (capK n 100))).pc (lastOf (newS (m.extract 0 (min m.size 300))) (runL (prog.take 64) (m.extract 0 (min m.size 300)) (capK n 100))).r (lastOf (newS (m.extract 0 (min m.size 300))) (runL (prog.take 64) (m.extract 0 (min m.size 300)) (capK n 100))).mem (lastOf (newS (m.extract 0 (min m.size 300))) (runL (prog.take 64) (m.extract 0 (min m.size 300)) (capK n 100))).halt)) rfl rfl rfl ?_
  refine rOk (d := 37) (x := .sl 9 ((runL (prog.take 64) (m.extract 0 (min m.size 300)) (capK n 100)).map rowS) false) rfl rfl rfl ?_
  refine rFx (d := 11) (x := .ptr 28 0) (h' := upd _ 28 (some (.box (stL 0 (fun _ => 0) (⟨#[]⟩) 0)))) rfl rfl (rfl) (trivial) ?_
  refine rFx0 (h' := upd _ 28 (some (.box (stL ((lastOf (newS (m.extract 0 (min m.size 300))) (runL (prog.take 64) (m.extract 0 (min m.size 300)) (capK n 100))).pc) ((lastOf (newS (m.extract 0 (min m.size 300))) (runL (prog.take 64) (m.extract 0 (min m.size 300)) (capK n 100))).r) ((lastOf (newS (m.extract 0 (min m.size 300))) (runL (prog.take 64) (m.extract 0 (min m.size 300)) (capK n 100))).mem) ((lastOf (newS (m.extract 0 (min m.size 300))) (runL (prog.take 64) (m.extract 0 (min m.size 300)) (capK n 100))).halt))))) rfl rfl (rfl) (trivial) ?_
  refine rOk (d := 12) (x := .sl 9 ((runL (prog.take 64) (m.extract 0 (min m.size 300)) (capK n 100)).map rowS) false) rfl rfl rfl ?_
  refine rEnd (n' := 31) rfl ?_
  refine cSeq ?_
  refine cReg rfl ?_
  refine rOk (d := 38) (x := .sl 1 ((prog.take 64).map rowU) false) rfl rfl rfl ?_
  refine rOk (d := 39) (x := .v (.string (m.extract 0 (min m.size 300)))) rfl rfl rfl ?_
  refine rOk (d := 40) (x := .v (.int .i64 (capK n 100))) rfl rfl rfl ?_
  refine rOk (d := 41) (x := .v (.bool ld)) rfl rfl rfl ?_
  refine rCall (args := [.sl 1 ((prog.take 64).map rowU) false, .v (.string (m.extract 0 (min m.size 300))), .v (.int .i64 (capK n 100)), .v (.bool ld)]) (d := 42) (x := .sl 6 (A.map evL) false) rfl rfl rfl rfl (.inl rfl) rfl (hAr) ?_
  refine rOk (d := 43) (x := .sl 1 ((prog.take 64).map rowU) false) rfl rfl rfl ?_
  refine rOk (d := 44) (x := .v (.string (m.extract 0 (min m.size 300)))) rfl rfl rfl ?_
  refine rOk (d := 45) (x := .v (.int .i64 (capK n 100))) rfl rfl rfl ?_
  refine rOk (d := 46) (x := .v (.int .i64 (capK more 100))) rfl rfl rfl ?_
  refine rOk (d := 47) (x := .v (.int .i64 (capK n 100 + capK more 100))) rfl rfl (okI (wrap_i64 (by omega) (by omega))) ?_
  refine rOk (d := 48) (x := .v (.bool ld)) rfl rfl rfl ?_
  refine rCall (args := [.sl 1 ((prog.take 64).map rowU) false, .v (.string (m.extract 0 (min m.size 300))), .v (.int .i64 (capK n 100 + capK more 100)), .v (.bool ld)]) (d := 49) (x := .sl 6 (B.map evL) false) rfl rfl rfl rfl (.inl rfl) rfl (hBr) ?_
  refine rOk (d := 13) (x := .sl 6 (A.map evL) false) rfl rfl rfl ?_
  refine rOk (d := 14) (x := .sl 6 (B.map evL) false) rfl rfl rfl ?_
  refine rEnd (n' := 45) rfl ?_
  refine cSeq ?_
  refine cReg rfl ?_
  refine rCall (args := []) (d := 50) (x := .v (.bool true)) rfl rfl rfl rfl (.inl rfl) rfl (dAlive7) ?_
  refine rOk (d := 51) (x := .v (.bool true)) rfl rfl rfl ?_
  refine gOk (d := 52) (x := .sl 6 (A.map evL) false) (g := true) rfl rfl rfl rfl rfl rfl ?_
  refine gOk (d := 53) (x := .sl 9 ((runL (prog.take 64) (m.extract 0 (min m.size 300)) (capK n 100)).map rowS) false) (g := true) rfl rfl rfl rfl rfl rfl ?_
  refine gOk (d := 54) (x := .v (.bool ld)) (g := true) rfl rfl rfl rfl rfl rfl ?_
  refine gCallS (d := 55) (x := .sl 6 (A.map evL) false) (g := true) rfl rfl rfl rfl (fun h => by simp_all) rfl rfl rfl (.inl rfl) rfl (fun hg => hOr) ?_
  refine gCallS (d := 56) (x := .v (.bool (likeP A A))) (g := true) rfl rfl rfl rfl (fun h => by simp_all) rfl rfl rfl (.inl rfl) rfl (fun hg => dLike7 A A false false hAl) ?_
  refine rNeed (d := 57) (x := .v (.bool (cond2 true (likeP A A) false))) rfl rfl rfl (fun h => h) ?_
  refine rOk (d := 58) (x := .v (.bool (cond2 true (likeP A A) false))) rfl rfl rfl ?_
  refine gOk (d := 59) (x := .sl 6 (A.map evL) false) (g := cond2 true (likeP A A) false) rfl rfl rfl rfl rfl rfl ?_
  refine gOkS (d := 60) (x := .v (.int .i64 ((A.length : Nat) : Int))) (g := cond2 true (likeP A A) false) rfl rfl rfl rfl (fun h => h) rfl (congrArg (fun n : Nat => Res.ok (.v (.int .i64 (n : Int)))) (List.length_map ..)) ?_
  refine gOk (d := 61) (x := .sl 6 (B.map evL) false) (g := cond2 true (likeP A A) false) rfl rfl rfl rfl rfl rfl ?_
  refine gOkS (d := 62) (x := .v (.int .i64 ((B.length : Nat) : Int))) (g := cond2 true (likeP A A) false) rfl rfl rfl rfl (fun h => h) rfl (congrArg (fun n : Nat => Res.ok (.v (.int .i64 (n : Int)))) (List.length_map ..)) ?_
  refine gOkS (d := 63) (x := .v (.bool (decide (A.length ≤ B.length)))) (g := cond2 true (likeP A A) false) rfl rfl rfl rfl (fun h => by simp_all) rfl (okB (leN _ _)) ?_
  refine rNeed (d := 64) (x := .v (.bool (cond2 (cond2 true (likeP A A) false) (decide (A.length ≤ B.length)) false))) rfl rfl rfl (fun h => h) ?_
  refine rOk (d := 65) (x := .v (.bool (cond2 (cond2 true (likeP A A) false) (decide (A.length ≤ B.length)) false))) rfl rfl rfl ?_
  refine gOk (d := 66) (x := .sl 6 (A.map evL) false) (g := cond2 (cond2 true (likeP A A) false) (decide (A.length ≤ B.length)) false) rfl rfl rfl rfl rfl rfl ?_
  refine gOk (d := 67) (x := .sl 6 (B.map evL) false) (g := cond2 (cond2 true (likeP A A) false) (decide (A.length ≤ B.length)) false) rfl rfl rfl rfl rfl rfl ?_
  refine gCallS (d := 68) (x := .v (.int .i64 ((sameP A B : Nat) : Int))) (g := cond2 (cond2 true (likeP A A) false) (decide (A.length ≤ B.length)) false) rfl rfl rfl rfl (fun h => by simp_all) rfl rfl rfl (.inl rfl) rfl (fun hg => dSame A B false false hAl) ?_
  refine gOk (d := 69) (x := .sl 6 (A.map evL) false) (g := cond2 (cond2 true (likeP A A) false) (decide (A.length ≤ B.length)) false) rfl rfl rfl rfl rfl rfl ?_
  refine gOkS (d := 70) (x := .v (.int .i64 ((A.length : Nat) : Int))) (g := cond2 (cond2 true (likeP A A) false) (decide (A.length ≤ B.length)) false) rfl rfl rfl rfl (fun h => h) rfl (congrArg (fun n : Nat => Res.ok (.v (.int .i64 (n : Int)))) (List.length_map ..)) ?_
  refine gOkS (d := 71) (x := .v (.bool ((sameP A B) == A.length))) (g := cond2 (cond2 true (likeP A A) false) (decide (A.length ≤ B.length)) false) rfl rfl rfl rfl (fun h => by simp_all) rfl (okB (eqN _ _)) ?_
  refine rNeed (d := 72) (x := .v (.bool (cond2 (cond2 (cond2 true (likeP A A) false) (decide (A.length ≤ B.length)) false) ((sameP A B) == A.length) false))) rfl rfl rfl (fun h => h) ?_
  refine rOk (d := 10) (x := .v (.bool (cond2 (cond2 (cond2 true (likeP A A) false) (decide (A.length ≤ B.length)) false) ((sameP A B) == A.length) false))) rfl rfl rfl ?_
  refine rEnd (n' := 69) rfl ?_
  refine cRet ?_
  obtain ⟨t, ht⟩ := hAB
  exact finTA rfl trivial rfl (congrArg (fun b => AV.v (.bool b)) (by rw [likeP_refl, ht, sameP_pre]; simp [cond2]))
end Go.Proofs.YtahnhhbgkmlfcaaDoor
