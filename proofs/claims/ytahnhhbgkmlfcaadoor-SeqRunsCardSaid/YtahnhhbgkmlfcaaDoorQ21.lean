/- SeqRuns: what a run of so many instructions does is what the document says: the same state behind it and the same steps, for every program, memory and number; no conditions. -/
import Derived.Test.YtahnhhbgkmlfcaaDoorQ20
import Derived.Test.YtahnhhbgkmlfcaaDoorCodes
namespace Go.Proofs.YtahnhhbgkmlfcaaDoor
open Go.RowKit

theorem stepsL_add (prog : List Nat) : ∀ (n k : Nat) (s : St), stepsL prog (n + k) s = stepsL prog n s ++ stepsL prog k (lastOf s (stepsL prog n s))
  | 0, k, s => by rw [Nat.zero_add]; rfl
  | n + 1, k, s => by
    by_cases h : s.halt = 0
    · rw [show n + 1 + k = (n + k) + 1 by omega, stepsL_more h, stepsL_more h, stepsL_add prog n k, lastOf_cons]; rfl
    · rw [stepsL_done (.inr h), stepsL_done (.inr h)]
      show [] = [] ++ stepsL prog k s
      rw [stepsL_done (.inr h)]; rfl
theorem lastOf_app (s : St) : ∀ (a b : List (St × Sp)), lastOf s (a ++ b) = lastOf (lastOf s a) b
  | [], b => rfl
  | x :: a, b => by rw [List.cons_append, lastOf_cons, lastOf_cons, lastOf_app]
theorem stepsL_succ {prog : List Nat} {k : Nat} {s : St} (h : (lastOf s (stepsL prog k s)).halt = 0) : stepsL prog (k + 1) s = stepsL prog k s ++ [stepP prog (lastOf s (stepsL prog k s))] := by
  rw [stepsL_add, stepsL_more h, stepsL_done (.inl rfl)]
theorem stepsL_stop {prog : List Nat} {k n : Nat} {s : St} (h : (lastOf s (stepsL prog k s)).halt ≠ 0) (hk : k ≤ n) : stepsL prog n s = stepsL prog k s := by
  obtain ⟨d, rfl⟩ := Nat.exists_eq_add_of_le hk
  rw [stepsL_add, stepsL_done (.inr h), List.append_nil]
set_option maxRecDepth 100000 in
set_option maxHeartbeats 4000000 in
theorem dLike6 (l : List Sp) (c1 c2 : Bool) (hl : l.length ≤ 1000000) : DCall C0 14 [.sl 9 (l.map spL) c1, .sl 9 (l.map spL) c2] (.v (.bool true)) := by
  refine DCall.intro c0Ok Tryd.func14 rfl rfl (by kernel_rfl) rfl ?_
  refine cSeq ?_
  refine cR ?_
  refine rO 4 (.v (.bool false)) ?_
  refine rE 1 ?_
  refine cSeq ?_
  refine cSeq ?_
  refine cR ?_
  refine rO 6 (.sl 9 (l.map spL) c1) ?_
  refine rOk (d := 7) (x := vN l.length) rfl rfl (congrArg (fun n : Nat => Res.ok (vI (n : Int))) (List.length_map ..)) ?_
  refine rO 8 (.sl 9 (l.map spL) c2) ?_
  refine rOk (d := 9) (x := vN l.length) rfl rfl (congrArg (fun n : Nat => Res.ok (vI (n : Int))) (List.length_map ..)) ?_
  refine rOk (d := 10) (x := .v (.bool (l.length != l.length))) rfl rfl (okB (neN _ _)) ?_
  refine rE 6 ?_
  refine cCond (v := l.length != l.length) rfl (fun h1 => by simp at h1) (fun _ => ?_)
  refine cSkip ?_
  refine cSeq ?_
  refine cSeq ?_
  refine cR ?_
  refine rO 11 (.sl 9 (l.map spL) c1) ?_
  refine rOk (d := 12) (x := vN l.length) rfl rfl (congrArg (fun n : Nat => Res.ok (vI (n : Int))) (List.length_map ..)) ?_
  refine rO 13 (vI 0) ?_
  refine rE 9 ?_
  refine cBlock ?_
  refine cLoop (κ := Nat) (fun k => ⟨slotsF [(0, .sl 9 (l.map spL) c1), (1, .sl 9 (l.map spL) c2), (12, vN l.length), (13, vI (k : Int))], heapF [], 9⟩) (fun k => k ≤ l.length) (fun k => l.length - k) 0 (fun s => s) (Weak.of_lists (fun s => s) ⟨⟨rfl, rfl⟩, ⟨rfl, rfl⟩, ⟨rfl, rfl⟩, ⟨rfl, rfl⟩, trivial⟩ trivial rfl) (Nat.zero_le _) ?_
  intro k hk
  refine cSeq ?_
  refine cR ?_
  refine rO 14 (.v (.bool (decide ((k : Int) < ((l.length : Nat) : Int))))) ?_
  refine rE 10 ?_
  refine cSeq ?_
  refine cCond (v := decide ((k : Int) < ((l.length : Nat) : Int))) rfl (fun h2 => ?_) (fun h2 => ?_)
  · skip
    refine cSkip ?_
    refine cSeq ?_
    refine cBlock ?_
    refine cSeq ?_
    refine cR ?_
    refine rO 15 (vI (k : Int)) ?_
    refine rO 5 (vI (k : Int)) ?_
    refine rE 12 ?_
    refine cSeq ?_
    refine cR ?_
    obtain ⟨x, hx⟩ : ∃ x, l[k]? = some x := ⟨_, List.getElem?_eq_getElem (Int.ofNat_lt.1 (of_decide_eq_true h2))⟩
    refine rO 16 (.sl 9 (l.map spL) c1) ?_
    refine rO 17 (vI (k : Int)) ?_
    refine rIdx (spL x) (d := 18) (x := .dp 9 0 (spL x)) rfl rfl rfl (⟨Int.natCast_nonneg _, by rw [Int.toNat_natCast, List.getElem?_map, hx]; rfl⟩) rfl ?_
    refine rO 19 (.agg (spL x)) ?_
    refine rO 20 (.sl 9 (l.map spL) c2) ?_
    refine rO 21 (vI (k : Int)) ?_
    refine rIdx (spL x) (d := 22) (x := .dp 9 0 (spL x)) rfl rfl rfl (⟨Int.natCast_nonneg _, by rw [Int.toNat_natCast, List.getElem?_map, hx]; rfl⟩) rfl ?_
    refine rO 23 (.agg (spL x)) ?_
    refine rO 24 (.v (.bool (!((((x.pc : Nat) : Int) == ((x.pc : Nat) : Int)) && ((((x.next : Nat) : Int) == ((x.next : Nat) : Int)) && ((x.rd == x.rd) && ((((x.value : Nat) : Int) == ((x.value : Nat) : Int)) && ((((x.addr : Nat) : Int) == ((x.addr : Nat) : Int)) && ((x.size == x.size) && ((x.store == x.store) && ((x.halt == x.halt) && ((x.took == x.took) && true)))))))))))) ?_
    refine rE 21 ?_
    refine cCond (v := !((((x.pc : Nat) : Int) == ((x.pc : Nat) : Int)) && ((((x.next : Nat) : Int) == ((x.next : Nat) : Int)) && ((x.rd == x.rd) && ((((x.value : Nat) : Int) == ((x.value : Nat) : Int)) && ((((x.addr : Nat) : Int) == ((x.addr : Nat) : Int)) && ((x.size == x.size) && ((x.store == x.store) && ((x.halt == x.halt) && ((x.took == x.took) && true)))))))))) rfl (fun h3 => by simp at h3) (fun _ => ?_)
    refine cSkip ?_
    refine cR ?_
    refine rO 25 (vI (IntKind.wrap .i64 ((k : Int) + 1))) ?_
    refine rO 13 (vI (IntKind.wrap .i64 ((k : Int) + 1))) ?_
    refine rE 23 ?_
    refine ⟨k + 1, fun s => s, Weak.of_lists (fun s => s) ⟨⟨rfl, rfl⟩, ⟨rfl, rfl⟩, ⟨rfl, rfl⟩, ⟨slot_inc k (by have := Int.ofNat_lt.1 (of_decide_eq_true h2); omega), rfl⟩, trivial⟩ trivial rfl, Int.ofNat_lt.1 (of_decide_eq_true h2), by have := Int.ofNat_lt.1 (of_decide_eq_true h2); show l.length - (k + 1) < l.length - k; omega⟩
  · skip
    refine cExit ?_
    refine cSeq ?_
    refine cR ?_
    refine rO 4 (.v (.bool true)) ?_
    refine rE 11 ?_
    refine cRet ?_
    exact retA_eq rfl trivial rfl rfl
set_option maxRecDepth 100000 in
theorem stEq (s : St) : binA C0 .eql 28 (stA s) (stA s) = .ok (.v (.bool true)) := by
  have e : ∀ z : Int, (z == z) = true := fun z => beq_self_eq_true z
  show Res.ok (AV.v (.bool ((((s.pc : Int) == (s.pc : Int)) && (((s.r 0 : Int) == (s.r 0 : Int)) && (((s.r 1 : Int) == (s.r 1 : Int)) && (((s.r 2 : Int) == (s.r 2 : Int)) && (((s.r 3 : Int) == (s.r 3 : Int)) && (((s.r 4 : Int) == (s.r 4 : Int)) && (((s.r 5 : Int) == (s.r 5 : Int)) && (((s.r 6 : Int) == (s.r 6 : Int)) && (((s.r 7 : Int) == (s.r 7 : Int)) && (((s.r 8 : Int) == (s.r 8 : Int)) && (((s.r 9 : Int) == (s.r 9 : Int)) && (((s.r 10 : Int) == (s.r 10 : Int)) && (((s.r 11 : Int) == (s.r 11 : Int)) && (((s.r 12 : Int) == (s.r 12 : Int)) && (((s.r 13 : Int) == (s.r 13 : Int)) && (((s.r 14 : Int) == (s.r 14 : Int)) && (((s.r 15 : Int) == (s.r 15 : Int)) && (((s.r 16 : Int) == (s.r 16 : Int)) && (((s.r 17 : Int) == (s.r 17 : Int)) && (((s.r 18 : Int) == (s.r 18 : Int)) && (((s.r 19 : Int) == (s.r 19 : Int)) && (((s.r 20 : Int) == (s.r 20 : Int)) && (((s.r 21 : Int) == (s.r 21 : Int)) && (((s.r 22 : Int) == (s.r 22 : Int)) && (((s.r 23 : Int) == (s.r 23 : Int)) && (((s.r 24 : Int) == (s.r 24 : Int)) && (((s.r 25 : Int) == (s.r 25 : Int)) && (((s.r 26 : Int) == (s.r 26 : Int)) && (((s.r 27 : Int) == (s.r 27 : Int)) && (((s.r 28 : Int) == (s.r 28 : Int)) && (((s.r 29 : Int) == (s.r 29 : Int)) && (((s.r 30 : Int) == (s.r 30 : Int)) && (((s.r 31 : Int) == (s.r 31 : Int)) && ((s.mem == s.mem) && ((s.halt == s.halt) && true)))))))))))))))))))))))))))))))))))))) = _
  simp only [e, ba_refl, Bool.and_true, Bool.and_self]


def qL (prog : List Nat) (s : St) (k : Nat) : List (List AV) := (stepsL prog k s).map rowS
def qS (prog : List Nat) (s : St) (k : Nat) : St := lastOf s (stepsL prog k s)
theorem qL_succ {prog : List Nat} {s : St} {k : Nat} (h : (qS prog s k).halt = 0) : qL prog s (k + 1) = qL prog s k ++ [rowS (stepP prog (qS prog s k))] := by
  unfold qL; rw [stepsL_succ h, List.map_append]; rfl
theorem qS_succ {prog : List Nat} {s : St} {k : Nat} (h : (qS prog s k).halt = 0) : qS prog s (k + 1) = (stepP prog (qS prog s k)).1 := by
  unfold qS; rw [stepsL_succ h, lastOf_app]; rfl
theorem qL_stop {prog : List Nat} {s : St} {k : Nat} (h : ¬ (qS prog s k).halt = 0) : qL prog s (k + 1) = qL prog s k := by
  unfold qL; rw [stepsL_stop h (Nat.le_succ k)]
theorem qS_stop {prog : List Nat} {s : St} {k : Nat} (h : ¬ (qS prog s k).halt = 0) : qS prog s (k + 1) = qS prog s k := by
  unfold qS; rw [stepsL_stop h (Nat.le_succ k)]
theorem qS_ok {prog : List Nat} {s : St} (k : Nat) (h : s.ok) : (qS prog s k).ok := lastOf_ok _ _ h
theorem qL_len (prog : List Nat) (s : St) (k : Nat) : (qL prog s k).length ≤ k := by
  unfold qL; rw [List.length_map]; exact stepsL_len prog k s
theorem qL_all (prog : List Nat) (s : St) (k : Nat) : (List.take (qL prog s k).length (List.drop 0 (qL prog s k))) = qL prog s k := by rw [List.drop_zero, List.take_length]
theorem nil_sub {S : Nat → Prop} {w : World} {v : Value} (h : Rep S w noB (.sl 9 [] true) v) : Rep S w noB (.sl 9 [] false) v := by
  cases h with
  | sl _ _ _ A c b o u hc hm hcl hrs hA hw h1 hr => exact .sl 9 [] false A c b o u hc hm (fun h => by cases h) hrs hA hw h1 hr
theorem two_nil {S : Nat → Prop} {w : World} {v : Value} {x : AV} (h : Rep S w noB (.tup [x, .sl 9 [] true]) v) : Rep S w noB (.tup [x, .sl 9 [] false]) v := by
  cases h with
  | tup _ vs hl h =>
    refine .tup _ vs hl fun i a u p q => ?_
    match i, p with
    | 0, p => exact h 0 a u p q
    | 1, p => injection p with p; subst p; exact nil_sub (h 1 _ u rfl q)
    | i + 2, p => simp at p

theorem cond2_and {a b : Bool} (h : cond2 a b false = true) : a = true ∧ b = true := by cases a <;> cases b <;> simp_all [cond2]
theorem cond2_nand {p q : Prop} [Decidable p] [Decidable q] (h : cond2 (decide p) (decide q) false = false) : ¬ p ∨ ¬ q := by by_cases hp : p <;> by_cases hq : q <;> simp_all [cond2]

set_option maxRecDepth 100000 in
set_option maxHeartbeats 4000000 in
theorem rRun (prog : List Nat) (m : ByteArray) (n : Int) (clip : Bool) (hp : ∀ x ∈ prog, x ≤ 4294967295) (hl : prog.length ≤ 1000000) : DCall C0 12 [.sl 1 (prog.map rowU) clip, .v (.string m), .v (.int .i64 n)] (.tup [stA (lastOf (newS m) (runL prog m n)), .sl 9 ((runL prog m n).map rowS) false]) := by
  unfold runL
  refine DCall.intro c0Ok Tryd.func12 rfl rfl (by kernel_rfl) rfl ?_
  obtain ⟨Z, hZe⟩ : ∃ z, newS m = z := ⟨_, rfl⟩
  have hZ : Z.ok := hZe ▸ newS_ok m
  have hZ0 : (qS prog Z 0).halt = 0 := by rw [← hZe]; rfl
  rw [hZe]
  refine cSeq ?_
  refine cR ?_
  refine rFx (d := 6) (x := .ptr 0 0) (h' := upd _ 0 (some (.box (stL 0 (fun _ => 0) (⟨#[]⟩) 0)))) rfl rfl (rfl) (trivial) ?_
  refine rO 7 (.sl 0 ([]) true) ?_
  refine rE 2 ?_
  refine cSeq ?_
  refine cR ?_
  refine rO 13 (.v (.string m)) ?_
  refine rCall (args := [.v (.string m)]) (d := 14) (x := .v (.string (cleanP m))) rfl rfl rfl rfl (.inl rfl) rfl (rClean m) ?_
  refine rO 15 (.agg (stL 0 (fun _ => 0) (cleanP m) 0)) ?_
  refine rFx (d := 8) (x := .ptr 5 0) (h' := upd _ 5 (some (.box (stL 0 (fun _ => 0) (⟨#[]⟩) 0)))) rfl rfl (rfl) (trivial) ?_
  refine rFx0 (h' := upd _ 5 (some (.box (stL 0 (fun _ => 0) (cleanP m) 0)))) rfl rfl (rfl) (trivial) ?_
  refine rE 7 ?_
  refine cSeq ?_
  refine cR ?_
  refine rO 16 (.sl 9 ([]) true) ?_
  refine rO 9 (.sl 9 ([]) true) ?_
  refine rE 9 ?_
  refine cSeq ?_
  refine cSeq ?_
  refine cR ?_
  refine rO 10 (vI 0) ?_
  refine rE 10 ?_
  refine cBlock ?_
  refine cLoop (κ := Nat) (fun k => match k with | 0 => ⟨slotsF [(0, .sl 1 (prog.map rowU) clip), (2, vI n), (8, .ptr 5 0), (6, .ptr 0 0), (9, .sl 9 ([]) true), (10, vN 0)], heapF [(5, .box (stL ((qS prog Z 0).pc) ((qS prog Z 0).r) ((qS prog Z 0).mem) ((qS prog Z 0).halt))), (0, .box (stL 0 (fun _ => 0) (⟨#[]⟩) 0))], 10⟩ | k + 1 => ⟨slotsF [(0, .sl 1 (prog.map rowU) clip), (2, vI n), (8, .ptr 5 0), (6, .ptr 0 0), (9, .osl 10 0 ((qL prog Z (k + 1)).length) false), (10, vN ((k + 1)))], heapF [(5, .box (stL ((qS prog Z (k + 1)).pc) ((qS prog Z (k + 1)).r) ((qS prog Z (k + 1)).mem) ((qS prog Z (k + 1)).halt))), (0, .box (stL 0 (fun _ => 0) (⟨#[]⟩) 0)), (10, .arr (qL prog Z (k + 1)) 9)], 11⟩) (fun k => k ≤ 10000 ∧ (k = 0 ∨ (k : Int) ≤ n)) (fun k => 10000 - k) 0 (fun s => s) (Weak.of_lists (fun s => s) ⟨⟨rfl, rfl⟩, ⟨rfl, rfl⟩, ⟨rfl, rfl⟩, ⟨rfl, rfl⟩, ⟨rfl, rfl⟩, ⟨rfl, rfl⟩, trivial⟩ ⟨⟨rfl, congrArg (fun s : St => some (Blk.box (stL s.pc s.r s.mem s.halt))) hZe, rfl⟩, ⟨rfl, rfl, rfl⟩, trivial⟩ rfl) (⟨Nat.zero_le _, .inl rfl⟩) ?_
  intro k hk
  rcases k with _ | k
  · skip
    refine cSeq ?_
    refine cSeq ?_
    refine cR ?_
    refine rO 17 (vN 0) ?_
    refine rO 18 (vI n) ?_
    refine rO 19 (.v (.bool (decide (((0 : Nat) : Int) < n)))) ?_
    refine rO 20 (.v (.bool (decide (((0 : Nat) : Int) < n)))) ?_
    refine gOk (d := 21) (x := vN 0) (g := decide (((0 : Nat) : Int) < n)) rfl rfl rfl rfl rfl rfl ?_
    refine gOkS (d := 22) (x := .v (.bool (decide (0 < 10000)))) (g := decide (((0 : Nat) : Int) < n)) rfl rfl rfl rfl (fun h => h) rfl (okB (ltN _ _)) ?_
    refine rNeed (d := 23) (x := .v (.bool (cond2 (decide (((0 : Nat) : Int) < n)) (decide (0 < 10000)) false))) rfl rfl rfl (fun h => h) ?_
    refine rE 17 ?_
    refine cCond (v := cond2 (decide (((0 : Nat) : Int) < n)) (decide (0 < 10000)) false) rfl (fun h1 => ?_) (fun h1 => ?_)
    · skip
      refine cSkip ?_
      refine cSeq ?_
      refine cBlock ?_
      refine cSeq ?_
      refine cR ?_
      refine rO 26 (.ptr 5 34) ?_
      refine rO 27 (vI ((qS prog Z 0).halt)) ?_
      refine rO 28 (.v (.bool (((qS prog Z 0).halt) == 0))) ?_
      refine rE 20 ?_
      refine cCond (v := ((qS prog Z 0).halt) == 0) rfl (fun _ => ?_) (fun h2 => by exact absurd hZ0 (by simpa using h2))
      refine cSeq ?_
      refine cR ?_
      refine rO 30 (.sl 1 (prog.map rowU) clip) ?_
      refine rO 31 (.agg (stL ((qS prog Z 0).pc) ((qS prog Z 0).r) ((qS prog Z 0).mem) ((qS prog Z 0).halt))) ?_
      refine rCall (args := [.sl 1 (prog.map rowU) clip, .agg (stL ((qS prog Z 0).pc) ((qS prog Z 0).r) ((qS prog Z 0).mem) ((qS prog Z 0).halt))]) (d := 32) (x := .tup [.agg (stL ((stepP prog (qS prog Z 0)).1).pc ((stepP prog (qS prog Z 0)).1).r ((stepP prog (qS prog Z 0)).1).mem ((stepP prog (qS prog Z 0)).1).halt), .agg (spL ((stepP prog (qS prog Z 0)).2))]) rfl rfl rfl rfl (.inl rfl) rfl (rStep prog (qS prog Z 0) clip hp hl (qS_ok 0 hZ)) ?_
      refine rO 29 (.tup [.agg (stL ((stepP prog (qS prog Z 0)).1).pc ((stepP prog (qS prog Z 0)).1).r ((stepP prog (qS prog Z 0)).1).mem ((stepP prog (qS prog Z 0)).1).halt), .agg (spL ((stepP prog (qS prog Z 0)).2))]) ?_
      refine rO 33 (.agg (stL ((stepP prog (qS prog Z 0)).1).pc ((stepP prog (qS prog Z 0)).1).r ((stepP prog (qS prog Z 0)).1).mem ((stepP prog (qS prog Z 0)).1).halt)) ?_
      refine rO 34 (.agg (spL ((stepP prog (qS prog Z 0)).2))) ?_
      refine rFx (d := 11) (x := .ptr 26 0) (h' := upd _ 26 (some (.box (stL 0 (fun _ => 0) (⟨#[]⟩) 0)))) rfl rfl (rfl) (trivial) ?_
      refine rFx (d := 12) (x := .ptr 27 0) (h' := upd _ 27 (some (.box [.v (.int .u32 0), .v (.int .u32 0), vI 0, .v (.int .u32 0), .v (.int .u32 0), vI 0, .v (.bool false), vI 0, vI 0]))) rfl rfl (rfl) (trivial) ?_
      refine rFx0 (h' := upd _ 26 (some (.box (stL (((stepP prog (qS prog Z 0)).1).pc) (((stepP prog (qS prog Z 0)).1).r) (((stepP prog (qS prog Z 0)).1).mem) (((stepP prog (qS prog Z 0)).1).halt))))) rfl rfl (rfl) (trivial) ?_
      refine rFx0 (h' := upd _ 27 (some (.box [vU (((stepP prog (qS prog Z 0)).2).pc), vU (((stepP prog (qS prog Z 0)).2).next), vI (((stepP prog (qS prog Z 0)).2).rd), vU (((stepP prog (qS prog Z 0)).2).value), vU (((stepP prog (qS prog Z 0)).2).addr), vI (((stepP prog (qS prog Z 0)).2).size), .v (.bool (((stepP prog (qS prog Z 0)).2).store)), vI (((stepP prog (qS prog Z 0)).2).halt), vI (((stepP prog (qS prog Z 0)).2).took)]))) rfl rfl (rfl) (trivial) ?_
      refine rE 30 ?_
      refine cSeq ?_
      refine cR ?_
      refine rO 35 (.agg (stL (((stepP prog (qS prog Z 0)).1).pc) (((stepP prog (qS prog Z 0)).1).r) (((stepP prog (qS prog Z 0)).1).mem) (((stepP prog (qS prog Z 0)).1).halt))) ?_
      refine rFx0 (h' := upd _ 5 (some (.box (stL (((stepP prog (qS prog Z 0)).1).pc) (((stepP prog (qS prog Z 0)).1).r) (((stepP prog (qS prog Z 0)).1).mem) (((stepP prog (qS prog Z 0)).1).halt))))) rfl rfl (rfl) (trivial) ?_
      refine rE 32 ?_
      refine cR ?_
      refine rO 36 (.sl 9 ([]) true) ?_
      refine rO 37 (.agg [vU (((stepP prog (qS prog Z 0)).2).pc), vU (((stepP prog (qS prog Z 0)).2).next), vI (((stepP prog (qS prog Z 0)).2).rd), vU (((stepP prog (qS prog Z 0)).2).value), vU (((stepP prog (qS prog Z 0)).2).addr), vI (((stepP prog (qS prog Z 0)).2).size), .v (.bool (((stepP prog (qS prog Z 0)).2).store)), vI (((stepP prog (qS prog Z 0)).2).halt), vI (((stepP prog (qS prog Z 0)).2).took)]) ?_
      refine rO 38 (.sl 9 ([[vU (((stepP prog (qS prog Z 0)).2).pc), vU (((stepP prog (qS prog Z 0)).2).next), vI (((stepP prog (qS prog Z 0)).2).rd), vU (((stepP prog (qS prog Z 0)).2).value), vU (((stepP prog (qS prog Z 0)).2).addr), vI (((stepP prog (qS prog Z 0)).2).size), .v (.bool (((stepP prog (qS prog Z 0)).2).store)), vI (((stepP prog (qS prog Z 0)).2).halt), vI (((stepP prog (qS prog Z 0)).2).took)]]) true) ?_
      refine rFx (d := 39) (x := .osl 35 0 1 false) (h' := upd _ 35 (some (.arr ([rowS (stepP prog (qS prog Z 0))]) 9))) rfl rfl (rfl) (⟨by show 1 ≤ 1000000; decide, Nat.zero_lt_one, trivial, trivial⟩) ?_
      refine rO 9 (.osl 35 0 1 false) ?_
      refine rE 37 ?_
      refine cR ?_
      refine rO 24 (vN 0) ?_
      refine rO 25 (vI (IntKind.wrap .i64 (((0 : Nat) : Int) + 1))) ?_
      refine rO 10 (vI (IntKind.wrap .i64 (((0 : Nat) : Int) + 1))) ?_
      refine rE 40 ?_
      have q := cond2_and h1
      have q1 := of_decide_eq_true q.1
      have q2 := of_decide_eq_true q.2
      refine ⟨0 + 1, fun s => match s with | 10 => 35 | s => s, Weak.of_lists (fun s => match s with | 10 => 35 | s => s) ⟨⟨rfl, rfl⟩, ⟨rfl, rfl⟩, ⟨rfl, rfl⟩, ⟨rfl, rfl⟩, ⟨congrArg (fun z => AV.osl 35 0 z false) (show 1 = (qL prog Z (0 + 1)).length from by rw [qL_succ hZ0]; rfl), rfl⟩, ⟨congrArg (fun z : Int => AV.v (.int .i64 z)) (show IntKind.wrap .i64 (((0 : Nat) : Int) + 1) = ((0 + 1 : Nat) : Int) from by rw [wrap_i64 (by omega) (by omega)]; omega), rfl⟩, trivial⟩ ⟨⟨rfl, congrArg (fun s : St => some (Blk.box (stL s.pc s.r s.mem s.halt))) (qS_succ hZ0).symm, rfl⟩, ⟨rfl, rfl, rfl⟩, ⟨rfl, congrArg (fun z => some (Blk.arr z 9)) (show [rowS (stepP prog (qS prog Z 0))] = qL prog Z (0 + 1) from by rw [qL_succ hZ0]; rfl), rfl⟩, trivial⟩ rfl, (by omega), (by show (10000 - (0 + 1) : Nat) < 10000 - 0; omega)⟩
    · skip
      refine cExit ?_
      refine cSeq ?_
      refine cR ?_
      refine rO 40 (.agg (stL ((qS prog Z 0).pc) ((qS prog Z 0).r) ((qS prog Z 0).mem) ((qS prog Z 0).halt))) ?_
      refine rO 41 (.sl 9 ([]) true) ?_
      refine rFx0 (h' := upd _ 0 (some (.box (stL ((qS prog Z 0).pc) ((qS prog Z 0).r) ((qS prog Z 0).mem) ((qS prog Z 0).halt))))) rfl rfl (rfl) (trivial) ?_
      refine rO 7 (.sl 9 ([]) true) ?_
      refine rE 21 ?_
      refine cRet ?_
      have hc : (capN n).toNat = 0 := by have q := cond2_nand h1; unfold capN; have := hk; split <;> omega
      refine ⟨_, rfl, trivial, rfl, fun S w v hv => ?_⟩
      rw [hc]
      exact two_nil hv
  · skip
    refine cSeq ?_
    refine cSeq ?_
    refine cR ?_
    refine rO 17 (vN ((k + 1))) ?_
    refine rO 18 (vI n) ?_
    refine rO 19 (.v (.bool (decide ((((k + 1) : Nat) : Int) < n)))) ?_
    refine rO 20 (.v (.bool (decide ((((k + 1) : Nat) : Int) < n)))) ?_
    refine gOk (d := 21) (x := vN ((k + 1))) (g := decide ((((k + 1) : Nat) : Int) < n)) rfl rfl rfl rfl rfl rfl ?_
    refine gOkS (d := 22) (x := .v (.bool (decide ((k + 1) < 10000)))) (g := decide ((((k + 1) : Nat) : Int) < n)) rfl rfl rfl rfl (fun h => h) rfl (okB (ltN _ _)) ?_
    refine rNeed (d := 23) (x := .v (.bool (cond2 (decide ((((k + 1) : Nat) : Int) < n)) (decide ((k + 1) < 10000)) false))) rfl rfl rfl (fun h => h) ?_
    refine rE 18 ?_
    refine cCond (v := cond2 (decide ((((k + 1) : Nat) : Int) < n)) (decide ((k + 1) < 10000)) false) rfl (fun h3 => ?_) (fun h3 => ?_)
    · skip
      refine cSkip ?_
      refine cSeq ?_
      refine cBlock ?_
      refine cSeq ?_
      refine cR ?_
      refine rO 26 (.ptr 5 34) ?_
      refine rO 27 (vI ((qS prog Z (k + 1)).halt)) ?_
      refine rO 28 (.v (.bool (((qS prog Z (k + 1)).halt) == 0))) ?_
      refine rE 21 ?_
      refine cCond (v := ((qS prog Z (k + 1)).halt) == 0) rfl (fun h4 => ?_) (fun h4 => ?_)
      · skip
        refine cSeq ?_
        refine cR ?_
        refine rO 30 (.sl 1 (prog.map rowU) clip) ?_
        refine rO 31 (.agg (stL ((qS prog Z (k + 1)).pc) ((qS prog Z (k + 1)).r) ((qS prog Z (k + 1)).mem) ((qS prog Z (k + 1)).halt))) ?_
        refine rCall (args := [.sl 1 (prog.map rowU) clip, .agg (stL ((qS prog Z (k + 1)).pc) ((qS prog Z (k + 1)).r) ((qS prog Z (k + 1)).mem) ((qS prog Z (k + 1)).halt))]) (d := 32) (x := .tup [.agg (stL ((stepP prog (qS prog Z (k + 1))).1).pc ((stepP prog (qS prog Z (k + 1))).1).r ((stepP prog (qS prog Z (k + 1))).1).mem ((stepP prog (qS prog Z (k + 1))).1).halt), .agg (spL ((stepP prog (qS prog Z (k + 1))).2))]) rfl rfl rfl rfl (.inl rfl) rfl (rStep prog (qS prog Z (k + 1)) clip hp hl (qS_ok (k + 1) hZ)) ?_
        refine rO 29 (.tup [.agg (stL ((stepP prog (qS prog Z (k + 1))).1).pc ((stepP prog (qS prog Z (k + 1))).1).r ((stepP prog (qS prog Z (k + 1))).1).mem ((stepP prog (qS prog Z (k + 1))).1).halt), .agg (spL ((stepP prog (qS prog Z (k + 1))).2))]) ?_
        refine rO 33 (.agg (stL ((stepP prog (qS prog Z (k + 1))).1).pc ((stepP prog (qS prog Z (k + 1))).1).r ((stepP prog (qS prog Z (k + 1))).1).mem ((stepP prog (qS prog Z (k + 1))).1).halt)) ?_
        refine rO 34 (.agg (spL ((stepP prog (qS prog Z (k + 1))).2))) ?_
        refine rFx (d := 11) (x := .ptr 27 0) (h' := upd _ 27 (some (.box (stL 0 (fun _ => 0) (⟨#[]⟩) 0)))) rfl rfl (rfl) (trivial) ?_
        refine rFx (d := 12) (x := .ptr 28 0) (h' := upd _ 28 (some (.box [.v (.int .u32 0), .v (.int .u32 0), vI 0, .v (.int .u32 0), .v (.int .u32 0), vI 0, .v (.bool false), vI 0, vI 0]))) rfl rfl (rfl) (trivial) ?_
        refine rFx0 (h' := upd _ 27 (some (.box (stL (((stepP prog (qS prog Z (k + 1))).1).pc) (((stepP prog (qS prog Z (k + 1))).1).r) (((stepP prog (qS prog Z (k + 1))).1).mem) (((stepP prog (qS prog Z (k + 1))).1).halt))))) rfl rfl (rfl) (trivial) ?_
        refine rFx0 (h' := upd _ 28 (some (.box [vU (((stepP prog (qS prog Z (k + 1))).2).pc), vU (((stepP prog (qS prog Z (k + 1))).2).next), vI (((stepP prog (qS prog Z (k + 1))).2).rd), vU (((stepP prog (qS prog Z (k + 1))).2).value), vU (((stepP prog (qS prog Z (k + 1))).2).addr), vI (((stepP prog (qS prog Z (k + 1))).2).size), .v (.bool (((stepP prog (qS prog Z (k + 1))).2).store)), vI (((stepP prog (qS prog Z (k + 1))).2).halt), vI (((stepP prog (qS prog Z (k + 1))).2).took)]))) rfl rfl (rfl) (trivial) ?_
        refine rE 31 ?_
        refine cSeq ?_
        refine cR ?_
        refine rO 35 (.agg (stL (((stepP prog (qS prog Z (k + 1))).1).pc) (((stepP prog (qS prog Z (k + 1))).1).r) (((stepP prog (qS prog Z (k + 1))).1).mem) (((stepP prog (qS prog Z (k + 1))).1).halt))) ?_
        refine rFx0 (h' := upd _ 5 (some (.box (stL (((stepP prog (qS prog Z (k + 1))).1).pc) (((stepP prog (qS prog Z (k + 1))).1).r) (((stepP prog (qS prog Z (k + 1))).1).mem) (((stepP prog (qS prog Z (k + 1))).1).halt))))) rfl rfl (rfl) (trivial) ?_
        refine rE 33 ?_
        refine cR ?_
        refine rO 36 (.osl 10 0 ((qL prog Z (k + 1)).length) false) ?_
        refine rO 37 (.agg [vU (((stepP prog (qS prog Z (k + 1))).2).pc), vU (((stepP prog (qS prog Z (k + 1))).2).next), vI (((stepP prog (qS prog Z (k + 1))).2).rd), vU (((stepP prog (qS prog Z (k + 1))).2).value), vU (((stepP prog (qS prog Z (k + 1))).2).addr), vI (((stepP prog (qS prog Z (k + 1))).2).size), .v (.bool (((stepP prog (qS prog Z (k + 1))).2).store)), vI (((stepP prog (qS prog Z (k + 1))).2).halt), vI (((stepP prog (qS prog Z (k + 1))).2).took)]) ?_
        refine rO 38 (.sl 9 ([[vU (((stepP prog (qS prog Z (k + 1))).2).pc), vU (((stepP prog (qS prog Z (k + 1))).2).next), vI (((stepP prog (qS prog Z (k + 1))).2).rd), vU (((stepP prog (qS prog Z (k + 1))).2).value), vU (((stepP prog (qS prog Z (k + 1))).2).addr), vI (((stepP prog (qS prog Z (k + 1))).2).size), .v (.bool (((stepP prog (qS prog Z (k + 1))).2).store)), vI (((stepP prog (qS prog Z (k + 1))).2).halt), vI (((stepP prog (qS prog Z (k + 1))).2).took)]]) true) ?_
        refine rFx (d := 39) (x := .osl 36 0 ((List.take (qL prog Z (k + 1)).length (List.drop 0 (qL prog Z (k + 1)))).length + ([rowS (stepP prog (qS prog Z (k + 1)))] : List (List AV)).length) false) (h' := upd (upd _ 10 none) 36 (some (.arr (List.take (qL prog Z (k + 1)).length (List.drop 0 (qL prog Z (k + 1))) ++ [rowS (stepP prog (qS prog Z (k + 1)))]) 9))) rfl rfl (rfl) (⟨by show (List.take (qL prog Z (k + 1)).length (List.drop 0 (qL prog Z (k + 1)))).length + 1 ≤ 1000000; rw [qL_all]; have := qL_len prog Z (k + 1); have := hk; omega, by show 0 + (qL prog Z (k + 1)).length = (qL prog Z (k + 1)).length; omega, trivial⟩) ?_
        refine rO 9 (.osl 36 0 ((List.take (qL prog Z (k + 1)).length (List.drop 0 (qL prog Z (k + 1)))).length + ([rowS (stepP prog (qS prog Z (k + 1)))] : List (List AV)).length) false) ?_
        refine rE 38 ?_
        refine cR ?_
        refine rO 24 (vN ((k + 1))) ?_
        refine rO 25 (vI (IntKind.wrap .i64 ((((k + 1) : Nat) : Int) + 1))) ?_
        refine rO 10 (vI (IntKind.wrap .i64 ((((k + 1) : Nat) : Int) + 1))) ?_
        refine rE 41 ?_
        have q := cond2_and h3
        have q1 := of_decide_eq_true q.1
        have q2 := of_decide_eq_true q.2
        refine ⟨(k + 1) + 1, fun s => match s with | 10 => 36 | s => s, Weak.of_lists (fun s => match s with | 10 => 36 | s => s) ⟨⟨rfl, rfl⟩, ⟨rfl, rfl⟩, ⟨rfl, rfl⟩, ⟨rfl, rfl⟩, ⟨congrArg (fun z => AV.osl 36 0 z false) (show (List.take (qL prog Z (k + 1)).length (List.drop 0 (qL prog Z (k + 1)))).length + 1 = (qL prog Z ((k + 1) + 1)).length from by rw [qL_all, qL_succ (show (qS prog Z (k + 1)).halt = 0 by simpa using h4)]; simp), rfl⟩, ⟨congrArg (fun z : Int => AV.v (.int .i64 z)) (show IntKind.wrap .i64 ((((k + 1) : Nat) : Int) + 1) = (((k + 1) + 1 : Nat) : Int) from by rw [wrap_i64 (by omega) (by omega)]; omega), rfl⟩, trivial⟩ ⟨⟨rfl, congrArg (fun s : St => some (Blk.box (stL s.pc s.r s.mem s.halt))) (qS_succ (show (qS prog Z (k + 1)).halt = 0 by simpa using h4)).symm, rfl⟩, ⟨rfl, rfl, rfl⟩, ⟨rfl, congrArg (fun z => some (Blk.arr z 9)) (show List.take (qL prog Z (k + 1)).length (List.drop 0 (qL prog Z (k + 1))) ++ [rowS (stepP prog (qS prog Z (k + 1)))] = qL prog Z ((k + 1) + 1) from by rw [qL_all, qL_succ (show (qS prog Z (k + 1)).halt = 0 by simpa using h4)]), rfl⟩, trivial⟩ rfl, (by omega), (by show (10000 - ((k + 1) + 1) : Nat) < 10000 - (k + 1); omega)⟩
      · skip
        refine cSkip ?_
        refine cR ?_
        refine rO 24 (vN ((k + 1))) ?_
        refine rO 25 (vI (IntKind.wrap .i64 ((((k + 1) : Nat) : Int) + 1))) ?_
        refine rO 10 (vI (IntKind.wrap .i64 ((((k + 1) : Nat) : Int) + 1))) ?_
        refine rE 24 ?_
        have q := cond2_and h3
        have q1 := of_decide_eq_true q.1
        have q2 := of_decide_eq_true q.2
        refine ⟨(k + 1) + 1, fun s => s, Weak.of_lists (fun s => s) ⟨⟨rfl, rfl⟩, ⟨rfl, rfl⟩, ⟨rfl, rfl⟩, ⟨rfl, rfl⟩, ⟨congrArg (fun z => AV.osl 10 0 (List.length z) false) (show (qL prog Z (k + 1)) = qL prog Z ((k + 1) + 1) from (qL_stop (show ¬ (qS prog Z (k + 1)).halt = 0 by simpa using h4)).symm), rfl⟩, ⟨congrArg (fun z : Int => AV.v (.int .i64 z)) (show IntKind.wrap .i64 ((((k + 1) : Nat) : Int) + 1) = (((k + 1) + 1 : Nat) : Int) from by rw [wrap_i64 (by omega) (by omega)]; omega), rfl⟩, trivial⟩ ⟨⟨rfl, congrArg (fun s : St => some (Blk.box (stL s.pc s.r s.mem s.halt))) (qS_stop (show ¬ (qS prog Z (k + 1)).halt = 0 by simpa using h4)).symm, rfl⟩, ⟨rfl, rfl, rfl⟩, ⟨rfl, congrArg (fun z => some (Blk.arr z 9)) (show (qL prog Z (k + 1)) = qL prog Z ((k + 1) + 1) from (qL_stop (show ¬ (qS prog Z (k + 1)).halt = 0 by simpa using h4)).symm), rfl⟩, trivial⟩ rfl, (by omega), (by show (10000 - ((k + 1) + 1) : Nat) < 10000 - (k + 1); omega)⟩
    · skip
      refine cExit ?_
      refine cSeq ?_
      refine cR ?_
      refine rO 40 (.agg (stL ((qS prog Z (k + 1)).pc) ((qS prog Z (k + 1)).r) ((qS prog Z (k + 1)).mem) ((qS prog Z (k + 1)).halt))) ?_
      refine rO 41 (.osl 10 0 ((qL prog Z (k + 1)).length) false) ?_
      refine rFx0 (h' := upd _ 0 (some (.box (stL ((qS prog Z (k + 1)).pc) ((qS prog Z (k + 1)).r) ((qS prog Z (k + 1)).mem) ((qS prog Z (k + 1)).halt))))) rfl rfl (rfl) (trivial) ?_
      refine rO 7 (.osl 10 0 ((qL prog Z (k + 1)).length) false) ?_
      refine rE 22 ?_
      refine cRet ?_
      have hc : (capN n).toNat = (k + 1) := by have q := cond2_nand h3; unfold capN; have := hk; split <;> omega
      refine retA_eq rfl ⟨⟨trivial, trivial, trivial, trivial, trivial, trivial, trivial, trivial, trivial, trivial, trivial, trivial, trivial, trivial, trivial, trivial, trivial, trivial, trivial, trivial, trivial, trivial, trivial, trivial, trivial, trivial, trivial, trivial, trivial, trivial, trivial, trivial, trivial, trivial, trivial, trivial⟩, Nat.le_of_eq (Nat.zero_add _), trivial⟩ rfl ?_
      rw [hc]
      show AV.tup [stA (qS prog Z (k + 1)), .sl 9 (List.take (qL prog Z (k + 1)).length (List.drop 0 (qL prog Z (k + 1)))) false] = _
      rw [qL_all]; rfl
set_option maxRecDepth 100000 in
set_option maxHeartbeats 4000000 in
theorem dSeqRuns (prog : List Nat) (m : ByteArray) (n : Int) (hp : ∀ x ∈ prog, x ≤ 4294967295) (hl : prog.length ≤ maxLen) (hm : m.size < 9223372036854775808) : DCall C0 3 [.sl 1 (prog.map rowU) false, .v (.string m), .v (.int .i64 n)] (.v (.bool true)) := by
  refine DCall.intro c0Ok Tryd.func3 rfl rfl (by kernel_rfl) rfl ?_
  have hP : ∀ x ∈ (prog.take 64), x ≤ 4294967295 := fun x h => hp x (List.mem_of_mem_take h)
  have hPl : (prog.take 64).length ≤ 1000000 := by rw [List.length_take]; omega
  have hrA := dRun (prog.take 64) (m.extract 0 (min m.size 300)) (if (300 : Int) < n then 300 else n) false hP hPl
  have hrB := rRun (prog.take 64) (m.extract 0 (min m.size 300)) (if (300 : Int) < n then 300 else n) false hP hPl
  have hlen := Nat.le_trans (stepsL_len (prog.take 64) (capN (if (300 : Int) < n then 300 else n)).toNat (newS (m.extract 0 (min m.size 300)))) (show (capN (if (300 : Int) < n then 300 else n)).toNat ≤ 10000 by unfold capN; split <;> omega)
  change (runL (prog.take 64) (m.extract 0 (min m.size 300)) (if (300 : Int) < n then 300 else n)).length ≤ 10000 at hlen
  obtain ⟨L, hL⟩ : ∃ L, runL (prog.take 64) (m.extract 0 (min m.size 300)) (if (300 : Int) < n then 300 else n) = L := ⟨_, rfl⟩
  rw [hL] at hrA hrB hlen
  clear hL
  obtain ⟨S, hS⟩ : ∃ s, lastOf (newS (m.extract 0 (min m.size 300))) L = s := ⟨_, rfl⟩
  rw [hS] at hrA hrB
  clear hS
  have hlk : DCall C0 14 [.sl 9 (L.map rowS) false, .sl 9 (L.map rowS) false] (.v (.bool true)) := by rw [show L.map rowS = (L.map (·.2)).map spL by rw [List.map_map]; rfl]; exact dLike6 _ false false (by rw [List.length_map]; omega)
  refine cSeq ?_
  refine cR ?_
  refine rO 6 (.v (.bool false)) ?_
  refine rE 1 ?_
  refine cSeq ?_
  refine cR ?_
  refine rO 12 (.sl 1 (prog.map rowU) false) ?_
  refine rO 13 (.v (.string m)) ?_
  refine rCall (args := [.sl 1 (prog.map rowU) false, .v (.string m)]) (d := 14) (x := .tup [.sl 1 ((prog.take 64).map rowU) false, .v (.string (m.extract 0 (min m.size 300)))]) rfl rfl rfl rfl (.inl rfl) rfl (dShort prog m false hl hm) ?_
  refine rO 11 (.tup [.sl 1 ((prog.take 64).map rowU) false, .v (.string (m.extract 0 (min m.size 300)))]) ?_
  refine rO 15 (.sl 1 ((prog.take 64).map rowU) false) ?_
  refine rO 16 (.v (.string (m.extract 0 (min m.size 300)))) ?_
  refine rO 0 (.sl 1 ((prog.take 64).map rowU) false) ?_
  refine rO 1 (.v (.string (m.extract 0 (min m.size 300)))) ?_
  refine rE 9 ?_
  refine cSeq ?_
  refine cR ?_
  refine rO 17 (vI n) ?_
  refine rO 18 (vI (if (300 : Int) < n then 300 else n)) ?_
  refine rO 2 (vI (if (300 : Int) < n then 300 else n)) ?_
  refine rE 12 ?_
  refine cSeq ?_
  refine cR ?_
  refine rO 20 (.sl 1 ((prog.take 64).map rowU) false) ?_
  refine rO 21 (.v (.string (m.extract 0 (min m.size 300)))) ?_
  refine rO 22 (vI (if (300 : Int) < n then 300 else n)) ?_
  refine rCall (args := [.sl 1 ((prog.take 64).map rowU) false, .v (.string (m.extract 0 (min m.size 300))), vI (if (300 : Int) < n then 300 else n)]) (d := 23) (x := .tup [.agg (stL S.pc S.r S.mem S.halt), .sl 9 (L.map rowS) false]) rfl rfl rfl rfl (.inl rfl) rfl (hrA) ?_
  refine rO 19 (.tup [.agg (stL S.pc S.r S.mem S.halt), .sl 9 (L.map rowS) false]) ?_
  refine rO 24 (.agg (stL S.pc S.r S.mem S.halt)) ?_
  refine rO 25 (.sl 9 (L.map rowS) false) ?_
  refine rFx (d := 7) (x := .ptr 19 0) (h' := upd _ 19 (some (.box (stL 0 (fun _ => 0) (⟨#[]⟩) 0)))) rfl rfl (rfl) (trivial) ?_
  refine rFx0 (h' := upd _ 19 (some (.box (stL S.pc S.r S.mem S.halt)))) rfl rfl (rfl) (trivial) ?_
  refine rO 8 (.sl 9 (L.map rowS) false) ?_
  refine rE 22 ?_
  refine cSeq ?_
  refine cR ?_
  refine rO 27 (.sl 1 ((prog.take 64).map rowU) false) ?_
  refine rO 28 (.v (.string (m.extract 0 (min m.size 300)))) ?_
  refine rO 29 (vI (if (300 : Int) < n then 300 else n)) ?_
  refine rCall (args := [.sl 1 ((prog.take 64).map rowU) false, .v (.string (m.extract 0 (min m.size 300))), vI (if (300 : Int) < n then 300 else n)]) (d := 30) (x := .tup [.agg (stL S.pc S.r S.mem S.halt), .sl 9 (L.map rowS) false]) rfl rfl rfl rfl (.inl rfl) rfl (hrB) ?_
  refine rO 26 (.tup [.agg (stL S.pc S.r S.mem S.halt), .sl 9 (L.map rowS) false]) ?_
  refine rO 31 (.agg (stL S.pc S.r S.mem S.halt)) ?_
  refine rO 32 (.sl 9 (L.map rowS) false) ?_
  refine rFx (d := 9) (x := .ptr 29 0) (h' := upd _ 29 (some (.box (stL 0 (fun _ => 0) (⟨#[]⟩) 0)))) rfl rfl (rfl) (trivial) ?_
  refine rFx0 (h' := upd _ 29 (some (.box (stL S.pc S.r S.mem S.halt)))) rfl rfl (rfl) (trivial) ?_
  refine rO 10 (.sl 9 (L.map rowS) false) ?_
  refine rE 32 ?_
  refine cSeq ?_
  refine cR ?_
  refine rCall (args := []) (d := 33) (x := .v (.bool true)) rfl rfl rfl rfl (.inl rfl) rfl (dAlive6) ?_
  refine rO 34 (.v (.bool true)) ?_
  refine gOk (d := 35) (x := .agg (stL S.pc S.r S.mem S.halt)) (g := true) rfl rfl rfl rfl rfl rfl ?_
  refine gOk (d := 36) (x := .agg (stL S.pc S.r S.mem S.halt)) (g := true) rfl rfl rfl rfl rfl rfl ?_
  refine gOkS (d := 37) (x := .v (.bool true)) (g := true) rfl rfl rfl rfl (fun h => by simp_all) rfl (stEq S) ?_
  refine rNeed (d := 38) (x := .v (.bool (cond2 true true false))) rfl rfl rfl (fun h => h) ?_
  refine rO 39 (.v (.bool (cond2 true true false))) ?_
  refine gOk (d := 40) (x := .sl 9 (L.map rowS) false) (g := cond2 true true false) rfl rfl rfl rfl rfl rfl ?_
  refine gOk (d := 41) (x := .sl 9 (L.map rowS) false) (g := cond2 true true false) rfl rfl rfl rfl rfl rfl ?_
  refine gCallS (args := [.sl 9 (L.map rowS) false, .sl 9 (L.map rowS) false]) (d := 42) (x := .v (.bool true)) (g := cond2 true true false) rfl rfl rfl rfl (fun h => by simp_all) rfl rfl rfl (.inl rfl) rfl (fun hg => hlk) ?_
  refine rNeed (d := 43) (x := .v (.bool (cond2 (cond2 true true false) true false))) rfl rfl rfl (fun h => h) ?_
  refine rO 6 (.v (.bool (cond2 (cond2 true true false) true false))) ?_
  refine rE 44 ?_
  refine cRet ?_
  exact retA_eq rfl trivial rfl rfl
end Go.Proofs.YtahnhhbgkmlfcaaDoor

namespace Go.Proofs.YtahnhhbgkmlfcaaDoor
open Go.RowKit Go.ChangeShapes Go.WideShapes Go.ChangeAt

set_option maxRecDepth 100000 in
theorem seqRuns_lifted (os : Os) (started : os.Started) (H : Type) (enc : TypeId × Value → H) :
    ReturnsInHanded {} Tryd.checked os 3 .any (fun w args => (Rows.seqRunsSpec.pre enc Tryd.prog Tryd.f3 [] false w args ∧ laidMetH Tryd.prog laid0 w) ∧ sizedMet enc Tryd.prog Tryd.f3 (OpenSpec.ofChange Rows.seqRunsSpec) false w args)
      (Rows.seqRunsSpec.post enc Tryd.prog Tryd.f3 false true false false) := by
  refine returnsInHanded_of_change_and (C := Tryd.checked) (X := fun w _ => laidMetH Tryd.prog laid0 w) (fun _ _ _ hh h => h.of_heap hh) ownK started (by kernel_rfl) Tryd.func3
    (ChangeSpec.witness_shaped (enc := enc) (C := Tryd.checked) (os := os) (X := fun w _ => laidMetH Tryd.prog laid0 w) false (World.doorLaid Tryd.prog 400 os) #[.slice none 0 0, .string ⟨#[]⟩, .int .i64 0] 8 rfl (World.shaped_of_RefB (by kernel_rfl) (by kernel_rfl)) (by kernel_rfl) (by kernel_rfl) (by kernel_rfl) (door_met os _)) ?_
  intro W base args ds gs before hval0 hW _ _ hL _
  have hval : ∀ (j : Nat) t v, Tryd.f3.params[j]? = some t → args[j]? = some v → Value.okWide Tryd.prog W .any base t v := hval0
  have hW' := hW
  obtain ⟨p, q, hA0, hV, rfl, hfz, hnd⟩ := hW
  have hA : DataW.TrodAll enc Tryd.prog W 0 (fun _ => true) true Tryd.f3.params.toList args.toList ds p := hA0
  have hA1 := hA
  rw [Tryd.params3] at hA hval
  obtain ⟨v0, vs0, d0, ds0, p0, q0, hargs, rfl, rfl, h0, r0⟩ := trodAll_cons hA
  obtain ⟨v1, vs1, d1, ds1, p1, q1, rfl, rfl, rfl, h1, r1⟩ := trodAll_cons r0
  obtain ⟨v2, vs2, d2, ds2, p2, q2, rfl, rfl, rfl, h2, r2⟩ := trodAll_cons r1
  obtain ⟨rfl, rfl, rfl⟩ := trodAll_nil r2
  obtain rfl : args = #[v0, v1, v2] := by cases args; simp_all
  obtain ⟨rfl, rfl⟩ := trodVars_none hV
  obtain ⟨l0, hb0, hl0, rp0⟩ := open_u32s (hval 0 _ v0 rfl rfl) h0
  obtain ⟨a1, rfl, w1⟩ := open_str Tryd.underlying9 (hval 1 _ v1 rfl rfl)
  obtain ⟨a2, rfl, rfl, rfl, w2⟩ := open_int Tryd.underlying3 (hval 2 _ v2 rfl rfl) h2
  have hC := codes_of_laid hL
  refine ((dSeqRuns l0 a1 a2 hb0 hl0 w1).law hC (RepL.cons rp0 (RepL.cons (.v _) (RepL.cons (.v _) (RepL.nil _ _ _))))).mono fun e W' ⟨he, hb⟩ => ?_
  subst he
  exact ⟨_, rfl, law_post laidOutK (by kernel_rfl) hW' hA1 rfl rfl rfl rfl (by kernel_rfl) Tryd.underlying4 rfl rfl rfl hb⟩

theorem seqRuns_row : Rows.SeqRunsSaid :=
  OpenClaim.holds_of_wide 3 Tryd.f3 rfl rfl rfl rfl rfl rfl rfl ⟨rfl, rfl, rfl, rfl, rfl⟩ rfl rfl rfl rfl rfl (by kernel_rfl) Tryd.func3 (by kernel_rfl)
    (of_decide_eq_true (by kernel_rfl)) (by unfold Func.isWrapper; first | (rw [if_pos (by decide +kernel)]; kernel_rfl) | (rw [if_neg (by decide +kernel)]; exact ⟨rfl, rfl⟩))
    (fun os started H enc _ => seqRuns_lifted os started H enc)

theorem seqRuns_holds : Rows.SeqRunsCardSaid :=
  Claim7.holds_tied_plain_at .later [] [.data] true (true, "ffdcf19602f668422a4ca1f4c1ec0ab5c67e1113dd95f34fe321f26fd3b4bd40") false
    seqRuns_row (fun _ h => by cases h) (by kernel_rfl) (fun _ h => by cases h) seqRuns_row_tie rfl ⟨rfl, rfl⟩ (by kernel_rfl) rfl
    (fun f fn hf hfn => by
      obtain rfl : f = 3 := Option.some.inj ((show Tryd.prog.funcNamed "auspex/auspexlaw06.SeqRuns" = some 3 by kernel_rfl).symm.trans hf) |>.symm
      obtain rfl : fn = Tryd.f3 := (Option.some.inj (Tryd.func3.symm.trans hfn)).symm
      exact ⟨by kernel_rfl, fun j t ht => by
        have h3 : (Tryd.f3.params.toList.all fun t => Tryd.prog.wantsStandIn t == false) = true := by kernel_rfl
        have h4 := List.all_eq_true.1 h3 t (Array.mem_toList_iff.2 (Array.mem_of_getElem? ht))
        exact beq_iff_eq.1 h4⟩)
    (by kernel_rfl)
#print axioms seqRuns_holds
end Go.Proofs.YtahnhhbgkmlfcaaDoor
