
/- What package seq does, told plainly: states, steps. And the contracts of what it calls, on the second machine. -/
import Derived.Test.YtckjihpdjefpgaaTypes
import Derived.Test.YtckjihpdjefpgaaAbsC
import Derived.Test.YtckjihpdjefpgaaVal2
import Derived.Test.YtckjihpdjefpgaaMem
import Derived.Test.YtckjihpdjefpgaaLoad
import Derived.Test.YtckjihpdjefpgaaBytes
import Derived.Test.YtckjihpdjefpgaaBits
namespace Go.Proofs.Ytckjihpdjefpgaa
open Go.RowKit

structure St where
  pc : Nat
  r : Nat → Nat
  mem : ByteArray
  halt : Int
structure Sp where
  pc : Nat
  next : Nat
  rd : Int
  value : Nat
  addr : Nat
  size : Int
  store : Bool
  halt : Int
  took : Int

abbrev stL (pc : Nat) (r : Nat → Nat) (m : ByteArray) (h : Int) : List AV :=
  [.v (.int .u32 (pc : Int)), .v (.int .u32 (r 0 : Int)), .v (.int .u32 (r 1 : Int)), .v (.int .u32 (r 2 : Int)), .v (.int .u32 (r 3 : Int)), .v (.int .u32 (r 4 : Int)), .v (.int .u32 (r 5 : Int)), .v (.int .u32 (r 6 : Int)), .v (.int .u32 (r 7 : Int)), .v (.int .u32 (r 8 : Int)), .v (.int .u32 (r 9 : Int)), .v (.int .u32 (r 10 : Int)), .v (.int .u32 (r 11 : Int)), .v (.int .u32 (r 12 : Int)), .v (.int .u32 (r 13 : Int)), .v (.int .u32 (r 14 : Int)), .v (.int .u32 (r 15 : Int)), .v (.int .u32 (r 16 : Int)), .v (.int .u32 (r 17 : Int)), .v (.int .u32 (r 18 : Int)), .v (.int .u32 (r 19 : Int)), .v (.int .u32 (r 20 : Int)), .v (.int .u32 (r 21 : Int)), .v (.int .u32 (r 22 : Int)), .v (.int .u32 (r 23 : Int)), .v (.int .u32 (r 24 : Int)), .v (.int .u32 (r 25 : Int)), .v (.int .u32 (r 26 : Int)), .v (.int .u32 (r 27 : Int)), .v (.int .u32 (r 28 : Int)), .v (.int .u32 (r 29 : Int)), .v (.int .u32 (r 30 : Int)), .v (.int .u32 (r 31 : Int)), .v (.string m), .v (.int .i64 h)]
abbrev stA (s : St) : AV := .agg (stL s.pc s.r s.mem s.halt)
abbrev spL (x : Sp) : List AV := [.v (.int .u32 (x.pc : Int)), .v (.int .u32 (x.next : Int)), .v (.int .i64 x.rd), .v (.int .u32 (x.value : Int)), .v (.int .u32 (x.addr : Int)), .v (.int .i64 x.size), .v (.bool x.store), .v (.int .i64 x.halt), .v (.int .i64 x.took)]
abbrev spA (x : Sp) : AV := .agg (spL x)
abbrev siA (i : SI) : AV := .agg [.v (.int .i64 i.op), .v (.int .i64 i.rd), .v (.int .i64 i.rs1), .v (.int .i64 i.rs2), .v (.int .u32 (i.imm : Int))]
abbrev two (x : St × Sp) : AV := .tup [stA x.1, spA x.2]

structure St.ok (s : St) : Prop where
  pc : s.pc ≤ 4294967295
  r : ∀ k, s.r k ≤ 4294967295
  mem : s.mem.size ≤ 256

def setR (r : Nat → Nat) (k v : Nat) : Nat → Nat := fun j => if j = k then v else r j
theorem ldR (pc : Nat) (r : Nat → Nat) (m : ByteArray) (h : Int) (n : Nat) (hn : n < 32) : okO (nthO (stL pc r m h) (1 + n * 1)) = .ok (.v (.int .u32 (r n : Int))) := by
  have : ∀ (n : _root_.Fin 32), okO (nthO (stL pc r m h) (1 + n.1 * 1)) = .ok (.v (.int .u32 (r n.1 : Int))) := by
    intro n
    match n with
    | ⟨0, _⟩ => rfl
    | ⟨1, _⟩ => rfl
    | ⟨2, _⟩ => rfl
    | ⟨3, _⟩ => rfl
    | ⟨4, _⟩ => rfl
    | ⟨5, _⟩ => rfl
    | ⟨6, _⟩ => rfl
    | ⟨7, _⟩ => rfl
    | ⟨8, _⟩ => rfl
    | ⟨9, _⟩ => rfl
    | ⟨10, _⟩ => rfl
    | ⟨11, _⟩ => rfl
    | ⟨12, _⟩ => rfl
    | ⟨13, _⟩ => rfl
    | ⟨14, _⟩ => rfl
    | ⟨15, _⟩ => rfl
    | ⟨16, _⟩ => rfl
    | ⟨17, _⟩ => rfl
    | ⟨18, _⟩ => rfl
    | ⟨19, _⟩ => rfl
    | ⟨20, _⟩ => rfl
    | ⟨21, _⟩ => rfl
    | ⟨22, _⟩ => rfl
    | ⟨23, _⟩ => rfl
    | ⟨24, _⟩ => rfl
    | ⟨25, _⟩ => rfl
    | ⟨26, _⟩ => rfl
    | ⟨27, _⟩ => rfl
    | ⟨28, _⟩ => rfl
    | ⟨29, _⟩ => rfl
    | ⟨30, _⟩ => rfl
    | ⟨31, _⟩ => rfl
    | ⟨k + 32, h⟩ => exact absurd h (by omega)
  exact this ⟨n, hn⟩
theorem putR (pc : Nat) (r : Nat → Nat) (m : ByteArray) (h : Int) (n v : Nat) (hn : n < 32) : putL (1 + n * 1) [.v (.int .u32 (v : Int))] (stL pc r m h) = stL pc (setR r n v) m h := by
  have : ∀ (n : _root_.Fin 32), putL (1 + n.1 * 1) [.v (.int .u32 (v : Int))] (stL pc r m h) = stL pc (setR r n.1 v) m h := by
    intro n
    match n with
    | ⟨0, _⟩ => rfl
    | ⟨1, _⟩ => rfl
    | ⟨2, _⟩ => rfl
    | ⟨3, _⟩ => rfl
    | ⟨4, _⟩ => rfl
    | ⟨5, _⟩ => rfl
    | ⟨6, _⟩ => rfl
    | ⟨7, _⟩ => rfl
    | ⟨8, _⟩ => rfl
    | ⟨9, _⟩ => rfl
    | ⟨10, _⟩ => rfl
    | ⟨11, _⟩ => rfl
    | ⟨12, _⟩ => rfl
    | ⟨13, _⟩ => rfl
    | ⟨14, _⟩ => rfl
    | ⟨15, _⟩ => rfl
    | ⟨16, _⟩ => rfl
    | ⟨17, _⟩ => rfl
    | ⟨18, _⟩ => rfl
    | ⟨19, _⟩ => rfl
    | ⟨20, _⟩ => rfl
    | ⟨21, _⟩ => rfl
    | ⟨22, _⟩ => rfl
    | ⟨23, _⟩ => rfl
    | ⟨24, _⟩ => rfl
    | ⟨25, _⟩ => rfl
    | ⟨26, _⟩ => rfl
    | ⟨27, _⟩ => rfl
    | ⟨28, _⟩ => rfl
    | ⟨29, _⟩ => rfl
    | ⟨30, _⟩ => rfl
    | ⟨31, _⟩ => rfl
    | ⟨k + 32, h⟩ => exact absurd h (by omega)
  exact this ⟨n, hn⟩
theorem stR {ev : Operand → AV} {h : AH} {s b n v : Nat} {a x : Operand} {pc : Nat} {r : Nat → Nat} {m : ByteArray} {hl : Int} (ha : ev a = .ptr b (1 + n * 1)) (hb : h b = some (.box (stL pc r m hl))) (hx : ev x = .v (.int .u32 (v : Int))) (hn : n < 32) :
    opA C0 ev h s (.store 22 a x) = .fx True .any (upd h b (some (.box (stL pc (setR r n v) m hl)))) := by
  have hty : C0.ty 22 = some ti22 := rfl
  have hc : (1 + n * 1 + ([.v (.int .u32 (v : Int))] : List AV).length).ble (stL pc r m hl).length = true := Nat.ble_eq_true_of_le (by simp; omega)
  simp only [opA, hty, hx, cellsA, ha, hb]
  rw [show ([AV.v (Value.int IntKind.u32 (v : Int))].length.beq 1) = true from rfl]
  simp only
  rw [hc]
  simp only
  rw [putR _ _ _ _ _ _ hn]

/-- The register that an instruction writes. -/
def wr (i : SI) : Int := if hasRd (formOf i.op) then i.rd else 0
def fetchP (prog : List Nat) (pc : Nat) : Option Nat := if pc % 4 = 0 then prog[pc / 4]? else none
def writeP (m : ByteArray) (addr : Nat) (b : ByteArray) : ByteArray := ⟨(m.data.toList.take addr ++ b.data.toList ++ m.data.toList.drop (addr + b.size)).toArray⟩
def readP (m : ByteArray) (addr n : Nat) : ByteArray := m.extract addr (addr + n)
def haltP (s : St) (why : Int) (addr : Nat) : St × Sp := ({ s with halt := why }, ⟨s.pc, s.pc, 0, 0, addr, 0, false, why, 0⟩)
def up4 (pc : Nat) : Nat := (pc + 4) % 4294967296
def addrOf (i : SI) (a : Nat) : Nat := (a + i.imm) % 4294967296
def valB (b n : Nat) : Nat := joinTo (bytesP b n).data.toList (bytesP b n).size

def accessP (s : St) (i : SI) (a b : Nat) : St × Sp :=
  if rightP (s.mem.size : Int) (addrOf i a) (sizeOf' i.op : Nat) = true then
    if kindOf i.op = 4 then ({ s with pc := up4 s.pc, mem := writeP s.mem (addrOf i a) (bytesP b (sizeOf' i.op)) }, ⟨s.pc, up4 s.pc, wr i, valB b (sizeOf' i.op), addrOf i a, (sizeOf' i.op : Nat), kindOf i.op == 4, 0, 0⟩)
    else if wr i = 0 then ({ s with pc := up4 s.pc }, ⟨s.pc, up4 s.pc, wr i, 0, addrOf i a, (sizeOf' i.op : Nat), kindOf i.op == 4, 0, 0⟩)
    else ({ s with pc := up4 s.pc, r := setR s.r (wr i).toNat (loadP i.op (readP s.mem (addrOf i a) (sizeOf' i.op))) }, ⟨s.pc, up4 s.pc, wr i, loadP i.op (readP s.mem (addrOf i a) (sizeOf' i.op)), addrOf i a, (sizeOf' i.op : Nat), kindOf i.op == 4, 0, 0⟩)
  else haltP s (if kindOf i.op = 4 then 5 else 4) (addrOf i a)

def finP (s : St) (i : SI) (a b nx : Nat) (tk : Int) : St × Sp :=
  if wr i = 0 then ({ s with pc := nx }, ⟨s.pc, nx, wr i, 0, 0, 0, false, 0, tk⟩)
  else ({ s with pc := nx, r := setR s.r (wr i).toNat (valP i.op i.imm s.pc a b) }, ⟨s.pc, nx, wr i, valP i.op i.imm s.pc a b, 0, 0, false, 0, tk⟩)
def reckonP (s : St) (i : SI) (a b : Nat) : St × Sp :=
  if kindOf i.op = 5 then
    if nextP i.op i.imm s.pc a b % 4 = 0 then finP s i a b (nextP i.op i.imm s.pc a b) 0 else haltP s 3 0
  else finP s i a b (up4 s.pc) (if kindOf i.op = 2 then tookP i.op a b else 0)

def noSp : Sp := ⟨0, 0, 0, 0, 0, 0, false, 0, 0⟩
def doI (s : St) (i : SI) : St × Sp :=
  if i.op = 47 then haltP s 6 0
  else if i.op = 48 then haltP s 7 0
  else if kindOf i.op = 3 ∨ kindOf i.op = 4 then accessP s i (s.r i.rs1.toNat) (s.r i.rs2.toNat)
  else reckonP s i (s.r i.rs1.toNat) (s.r i.rs2.toNat)
def fetchW (prog : List Nat) (pc : Nat) : Nat := (fetchP prog pc).getD 0
def insOf (prog : List Nat) (s : St) : SI := decN (fetchW prog s.pc)
def stepP (prog : List Nat) (s : St) : St × Sp :=
  if s.halt = 0 then
    if (fetchP prog s.pc).isSome = true then
      if opOf (fetchW prog s.pc) = 0 then haltP s 2 0 else doI s (insOf prog s)
    else haltP s 1 0
  else (s, noSp)

theorem decN_rd (x : Nat) : 0 ≤ (decN x).rd ∧ (decN x).rd < 32 ∧ 0 ≤ (decN x).rs1 ∧ (decN x).rs1 < 32 ∧ 0 ≤ (decN x).rs2 ∧ (decN x).rs2 < 32 ∧ (decN x).imm < 4294967296 := by
  unfold decN
  split
  · exact ⟨by decide, by decide, by decide, by decide, by decide, by decide, by decide⟩
  · have h1 := field_lt x 7 5
    have h2 := field_lt x 15 5
    have h3 := field_lt x 20 5
    refine ⟨?_, ?_, ?_, ?_, ?_, ?_, immOf_lt' _ _ (formOf_le _)⟩ <;> simp only [readN] <;> split <;> omega
theorem wr_lt (x : Nat) : 0 ≤ wr (decN x) ∧ wr (decN x) < 32 := by
  have := decN_rd x
  unfold wr
  split <;> omega

/-! ### contracts -/
def valT : AV → Option Value
  | .tup cs => match valL cs with | some l => some (.tuple l.toArray) | none => none
  | x => valF x
theorem valT_rep {S : Nat → Prop} {w : World} {β : Bt} {a : AV} {u : Value} (h : valT a = some u) : Rep S w β a u := by
  cases a with
  | tup cs =>
    simp only [valT] at h
    split at h
    · rename_i l hl
      injection h with h; subst h
      have := valL_rep (S := S) (w := w) (β := β) hl
      exact .tup cs l.toArray (by simpa using this.1) fun i a u h1 h2 => this.2 i a u h1 (by simpa using h2)
    · cases h
  | _ => exact valF_rep h
theorem DCall.of_tupG {C : Ctx} {f : FuncId} {fn : Func} {args : List AV} {vs : List Value} {r : AV} {v : Value} (hf : C.P.funcs[f]? = some fn) (hb : fn.body.isSome = true) (hnm : (fn.name == "runtime.NumGoroutine") = false)
    (ha : valL args = some vs) (hr : valT r = some v) (hc : ∀ S w, GOk C S w → Calls C.P f vs.toArray w fun e w' => e = .returned v ∧ Below w.heap.size w w') : DCall C f args r :=
  ⟨⟨fn, hf, hb, hnm⟩, fun S w us hS hG hu => by
    rw [valL_eq ha hu]
    exact (hc S w hG).mono fun e w' ⟨he, hB⟩ => ⟨v, he, hB, valT_rep hr⟩⟩
theorem DCall.of_tup {C : Ctx} {f : FuncId} {fn : Func} {args : List AV} {vs : List Value} {r : AV} {v : Value} (hf : C.P.funcs[f]? = some fn) (hb : fn.body.isSome = true) (hnm : (fn.name == "runtime.NumGoroutine") = false)
    (ha : valL args = some vs) (hr : valT r = some v) (hc : ∀ w, Calls C.P f vs.toArray w fun e w' => e = .returned v ∧ Below w.heap.size w w') : DCall C f args r :=
  .of_tupG hf hb hnm ha hr fun _ w _ => hc w
section
variable (i : SI)
theorem dKind : DCall C0 27 [siA i] (.v (.int .i64 ((kindOf i.op : Nat) : Int))) :=
  .of_flat Try.func27 rfl rfl rfl rfl fun w => kind_any i.op i.rd i.rs1 i.rs2 i.imm w
theorem dSize : DCall C0 34 [siA i] (.v (.int .i64 ((sizeOf' i.op : Nat) : Int))) :=
  .of_flat Try.func34 rfl rfl rfl rfl fun w => size_any i.op i.rd i.rs1 i.rs2 i.imm w
theorem dWrites : DCall C0 28 [siA i] (.v (.int .i64 (wr i))) :=
  .of_flat Try.func28 rfl rfl rfl rfl fun w => writes_any i.op i.rd i.rs1 i.rs2 i.imm w
theorem dTarget (pc a b : Nat) (hi : i.imm < 4294967296) (hp : pc < 4294967296) (ha : a < 4294967296) (hb : b < 4294967296) : DCall C0 31 [siA i, .v (.int .u32 (pc : Int)), .v (.int .u32 (a : Int)), .v (.int .u32 (b : Int))] (.tup [.v (.int .u32 ((nextP i.op i.imm pc a b : Nat) : Int)), .v (.bool (decide (nextP i.op i.imm pc a b % 4 = 0)))]) :=
  .of_tup Try.func31 rfl rfl rfl rfl fun w => target_any i.op i.rd i.rs1 i.rs2 i.imm pc a b w hi hp ha hb
theorem dValue (pc a b : Nat) (hi : i.imm < 4294967296) (hp : pc < 4294967296) (ha : a < 4294967296) (hb : b < 4294967296) : DCall C0 29 [siA i, .v (.int .u32 (pc : Int)), .v (.int .u32 (a : Int)), .v (.int .u32 (b : Int))] (.v (.int .u32 ((valP i.op i.imm pc a b : Nat) : Int))) :=
  .of_flat Try.func29 rfl rfl rfl rfl fun w => value_any i.op i.rd i.rs1 i.rs2 i.imm pc a b w hi hp ha hb
theorem dTook (op : Int) (a b : Nat) (ha : a < 4294967296) (hb : b < 4294967296) : DCall C0 30 [.v (.int .i64 op), .v (.int .u32 (a : Int)), .v (.int .u32 (b : Int))] (.v (.int .i64 (tookP op a b))) :=
  .of_flat Try.func30 rfl rfl rfl rfl fun w => (took_any op a b w ha hb).mono fun _ _ ⟨h1, h2⟩ => ⟨h1, h2 ▸ Below.refl _ _⟩
theorem dRight (size : Int) (addr : Nat) (many : Int) (hs : size < 9223372036854775808) (ha : addr < 4294967296) : DCall C0 33 [.v (.int .i64 size), .v (.int .u32 (addr : Int)), .v (.int .i64 many)] (.v (.bool (rightP size addr many))) :=
  .of_flat Try.func33 rfl rfl rfl rfl fun w => (right_any size addr many w hs ha).mono fun _ _ ⟨h1, h2⟩ => ⟨h1, h2 ▸ Below.refl _ _⟩
theorem dBytes (x n : Nat) (hx : x < 4294967296) (hn : n ≤ 4) : DCall C0 72 [.v (.int .u32 (x : Int)), .v (.int .i64 (n : Int))] (.tup [.v (.string (bytesP x n)), .v (.int .i64 0)]) :=
  .of_tup Try.func72 rfl rfl rfl rfl fun w => bytes_any x n w hx hn
theorem dJoin (s : ByteArray) (hs : s.size ≤ 4) : DCall C0 70 [.v (.string s)] (.tup [.v (.int .u32 ((joinTo s.data.toList s.size : Nat) : Int)), .v (.int .i64 0)]) :=
  .of_tup Try.func70 rfl rfl rfl rfl fun w => (join_any s w hs).mono fun _ _ ⟨h1, h2⟩ => ⟨h1, h2 ▸ Below.refl _ _⟩
theorem dLoad (op : Int) (s : ByteArray) (hs : s.size < 9223372036854775808) : DCall C0 35 [.v (.int .i64 op), .v (.string s)] (.v (.int .u32 ((loadP op s : Nat) : Int))) :=
  .of_flat Try.func35 rfl rfl rfl rfl fun w => load_any op s w hs
end
end Go.Proofs.Ytckjihpdjefpgaa
