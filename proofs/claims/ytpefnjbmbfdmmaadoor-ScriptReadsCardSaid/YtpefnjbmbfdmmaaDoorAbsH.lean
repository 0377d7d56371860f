/- The second machine: short forms of the walks' steps. -/
import Derived.Test.YtpefnjbmbfdmmaaDoorAbsC
namespace Go.Proofs.YtpefnjbmbfdmmaaDoor
open Go.RowKit

abbrev vU (n : Nat) : AV := .v (.int .u32 (n : Int))
abbrev vN (n : Nat) : AV := .v (.int .i64 (n : Int))
abbrev vI (n : Int) : AV := .v (.int .i64 n)
abbrev vB (b : Bool) : AV := .v (.bool b)
section
variable {C : Ctx} {R : FuncId → List AV → AV → Prop} {all rest : List Oper} {o : Oper} {j n : Nat} {t : Nat → AV} {h h' : AH} {K : ASt → Prop} {Q : AEx → ASt → Prop} {fn : Func} {st : ASt}
theorem rO (d : Nat) (x : AV) (k : regA C R all rest (j + 1) ⟨upd t d x, h, n⟩ K) (hg : o.guard = none := by exact rfl) (hd : o.dst = some d := by exact rfl) (hx : opA C (evA C t) h (n + j) o.op = .ok x := by exact rfl) : regA C R all (o :: rest) j ⟨t, h, n⟩ K := rOk hg hd hx k
theorem rX (d : Nat) (x : AV) (hx : opA C (evA C t) h (n + j) o.op = .ok x) (k : regA C R all rest (j + 1) ⟨upd t d x, h, n⟩ K) (hg : o.guard = none := by exact rfl) (hd : o.dst = some d := by exact rfl) : regA C R all (o :: rest) j ⟨t, h, n⟩ K := rOk hg hd hx k
theorem rE (n' : Nat) (k : K ⟨t, h, n'⟩) (e : n + j = n' := by exact rfl) : regA C R all [] j ⟨t, h, n⟩ K := rEnd e k
theorem rF (d : Nat) (x : AV) (h' : AH) (k : regA C R all rest (j + 1) ⟨upd t d x, h', n⟩ K) (hg : o.guard = none := by exact rfl) (hd : o.dst = some d := by exact rfl) (hx : opA C (evA C t) h (n + j) o.op = .fx True x h' := by exact rfl) : regA C R all (o :: rest) j ⟨t, h, n⟩ K := rFx hg hd hx trivial k
theorem rS (h' : AH) (k : regA C R all rest (j + 1) ⟨t, h', n⟩ K) (hg : o.guard = none := by exact rfl) (hd : o.dst = none := by exact rfl) (hx : opA C (evA C t) h (n + j) o.op = .fx True .any h' := by exact rfl) : regA C R all (o :: rest) j ⟨t, h, n⟩ K := rFx0 hg hd hx trivial k
theorem gO (d : Nat) (g : Bool) (x : AV) {i e : Nat} {pol : Bool} (k : regA C R all rest (j + 1) ⟨upd t d (.opt g x), h, n⟩ K) (hg : o.guard = some (i, pol) := by exact rfl) (he : (all[i]?).bind (·.dst) = some e := by exact rfl) (hgv : guardA (t e) pol = some g := by exact rfl) (hc : condsO t o.op = none := by exact rfl) (hd : o.dst = some d := by exact rfl) (hx : opA C (evA C t) h (n + j) o.op = .ok x := by exact rfl) : regA C R all (o :: rest) j ⟨t, h, n⟩ K := gOk hg he hgv hc hd hx k
theorem cR {id : Nat} {ops : Array Oper} {l : List Oper} {dr : Bool} {st : ASt} (k : regA (C.noHif dr) R l l 0 st (Q .normal)) (hl : ops.toList = l := by exact rfl) (hd : (dr && lateR l) = false := by kernel_rfl) : codeA C R (.region id ops dr) st Q := cReg hl k hd
theorem cEq {α : Type} [BEq α] [LawfulBEq α] (x y : α) {c : Operand} {a b : Code} (k1 : x = y → codeA C R a ⟨t, h, n⟩ Q) (k2 : ¬ x = y → codeA C R b ⟨t, h, n⟩ Q) (hv : evA C t c = .v (.bool (x == y)) := by exact rfl) : codeA C R (.cond c a b) ⟨t, h, n⟩ Q :=
  cCond hv (fun e => k1 (by simpa using e)) (fun e => k2 (by simpa using e))
theorem cNe {α : Type} [BEq α] [LawfulBEq α] (x y : α) {c : Operand} {a b : Code} (k1 : ¬ x = y → codeA C R a ⟨t, h, n⟩ Q) (k2 : x = y → codeA C R b ⟨t, h, n⟩ Q) (hv : evA C t c = .v (.bool (x != y)) := by exact rfl) : codeA C R (.cond c a b) ⟨t, h, n⟩ Q :=
  cCond hv (fun e => k1 (by simpa using e)) (fun e => k2 (by simpa using e))
theorem cDec (p : Prop) [Decidable p] {c : Operand} {a b : Code} (k1 : p → codeA C R a ⟨t, h, n⟩ Q) (k2 : ¬ p → codeA C R b ⟨t, h, n⟩ Q) (hv : evA C t c = .v (.bool (decide p)) := by exact rfl) : codeA C R (.cond c a b) ⟨t, h, n⟩ Q :=
  cCond hv (fun e => k1 (of_decide_eq_true e)) (fun e => k2 (of_decide_eq_false e))
/-- A condition told by a proposition. -/
theorem cPr (p : Prop) {v : Bool} (hp : v = true ↔ p) {c : Operand} {a b : Code} (k1 : p → codeA C R a ⟨t, h, n⟩ Q) (k2 : ¬ p → codeA C R b ⟨t, h, n⟩ Q) (hv : evA C t c = .v (.bool v) := by exact rfl) : codeA C R (.cond c a b) ⟨t, h, n⟩ Q :=
  cCond hv (fun e => k1 (hp.1 e)) (fun e => k2 (fun q => by rw [hp.2 q] at e; cases e))
/-- A condition that is known. -/
theorem cT {v : Bool} (hv' : v = true) {c : Operand} {a b : Code} (k1 : codeA C R a ⟨t, h, n⟩ Q) (hv : evA C t c = .v (.bool v) := by exact rfl) : codeA C R (.cond c a b) ⟨t, h, n⟩ Q :=
  cCond hv (fun _ => k1) (fun e => by rw [hv'] at e; cases e)
theorem cF {v : Bool} (hv' : v = false) {c : Operand} {a b : Code} (k2 : codeA C R b ⟨t, h, n⟩ Q) (hv : evA C t c = .v (.bool v) := by exact rfl) : codeA C R (.cond c a b) ⟨t, h, n⟩ Q :=
  cCond hv (fun e => by rw [hv'] at e; cases e) (fun _ => k2)
theorem fI {k : IntKind} {x y : Int} (h1 : resA C st fn.results.toList = some [.v (.int k x)]) (e : x = y) : RetA C fn (.v (.int k y)) st := retA_eq h1 trivial rfl (by rw [e]; rfl)
theorem fB {x y : Bool} (h1 : resA C st fn.results.toList = some [.v (.bool x)]) (e : x = y) : RetA C fn (.v (.bool y)) st := retA_eq h1 trivial rfl (by rw [e]; rfl)
theorem fS {x y : ByteArray} (h1 : resA C st fn.results.toList = some [.v (.string x)]) (e : x = y) : RetA C fn (.v (.string y)) st := retA_eq h1 trivial rfl (by rw [e]; rfl)
end
theorem c2 (c x y : Bool) : cond2 c x y = (c && x || !c && y) := by cases c <;> simp [cond2]
theorem c2or (x y : Bool) {p q : Prop} (hx : x = true ↔ p) (hy : y = true ↔ q) : cond2 x true y = true ↔ (p ∨ q) := by rw [← hx, ← hy]; cases x <;> simp [cond2]
theorem c2and (x y : Bool) {p q : Prop} (hx : x = true ↔ p) (hy : y = true ↔ q) : cond2 x y false = true ↔ (p ∧ q) := by rw [← hx, ← hy]; cases x <;> simp [cond2]
theorem pEq {α : Type} [BEq α] [LawfulBEq α] {x y : α} : (x == y) = true ↔ x = y := by simp
theorem pNe {α : Type} [BEq α] [LawfulBEq α] {x y : α} : (x != y) = true ↔ ¬ x = y := by simp
theorem pDec {p : Prop} [Decidable p] : decide p = true ↔ p := by simp
theorem pNot {b : Bool} {p : Prop} (h : b = true ↔ p) : (!b) = true ↔ ¬ p := by rw [← h]; cases b <;> simp
end Go.Proofs.YtpefnjbmbfdmmaaDoor
