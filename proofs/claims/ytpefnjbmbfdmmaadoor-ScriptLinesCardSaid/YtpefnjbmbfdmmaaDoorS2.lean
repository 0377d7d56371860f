/- Joined texts. -/
import Derived.WalkKit
import Derived.Orders
import Derived.KernelRfl
import Derived.Deep.MidRow
import Derived.Deep.AppendSrc
import Derived.Laws.MakeOwn
import Derived.Test.YtpefnjbmbfdmmaaDoorS1
namespace Go.Proofs.YtpefnjbmbfdmmaaDoor
open Go.RowKit
inductive AV where
  | v (x : Value)
  | agg (cs : List AV)
  | tup (cs : List AV)
  | sl (rs : Nat) (rows : List (List AV)) (clip : Bool)
  | dp (rs col : Nat) (row : List AV)
  | ptr (s col : Nat)
  | ptr2 (s row col : Nat)
  | osl (s lo len : Nat) (clip : Bool)
  | clo (f : FuncId) (first caps : List AV)
  | opt (g : Bool) (x : AV)
  | any
inductive Blk where
  | box (cells : List AV)
  | arr (rows : List (List AV)) (rs : Nat)
  | row (cells : List AV)
abbrev AH := Nat → Option Blk
structure Loc where
  blk : Nat
  base : Nat
  rs : Nat
abbrev Bt := Nat → Option Loc
def noB : Bt := fun _ => none
structure ASt where
  t : Nat → AV
  h : AH
  n : Nat
inductive Kd where
  | bool | int (k : IntKind) | string | slice (e : TypeId) | array (n : Nat) (e : TypeId) | struct (fs : List (Nat × TypeId)) | pointer | func | other
inductive CK where
  | b | i | s
structure TI where
  kd : Kd
  sz : Nat
  ag : Bool
  zero : AV
  bytes : Nat
  eq : List CK
structure Ctx where
  P : Program
  ty : TypeId → Option TI
  G : Nat → Option (List AV)
  df : List Deferred := []
  lt : Bool := false
  H : FuncId → List AV → AH → Nat → (AV → AH → Prop) → Prop := fun _ _ _ _ _ => False
  fr : Nat := 0
@[reducible] def Ctx.noH (C : Ctx) : Ctx := { C with H := fun _ _ _ _ _ => False }
@[reducible] def Ctx.noHif (dr : Bool) (C : Ctx) : Ctx := match dr with | true => C.noH | false => C
inductive Need (g : Bool) (p K : Prop) : Prop
  | mk (hp : g = true → p) (hk : K) : Need g p K
inductive Branch (b : Bool) (X Y : Prop) : Prop
  | mk (h1 : b = true → X) (h2 : b = false → Y) : Branch b X Y
inductive IdxN (g : Bool) (rows : List (List AV)) (i : Int) (K : List AV → Prop) : Prop
  | mk (row : List AV) (h : g = true → 0 ≤ i ∧ rows[i.toNat]? = some row) (hk : K row) : IdxN g rows i K
def upd {α : Type} (f : Nat → α) (i : Nat) (x : α) : Nat → α := fun j => match Nat.beq j i with | true => x | false => f j
def updO (f : Nat → AV) (i : Option Nat) (x : AV) : Nat → AV := match i with | some i => upd f i x | none => f
def nthO : List AV → Nat → Option AV
  | [], _ => none
  | x :: _, 0 => some x
  | _ :: xs, n + 1 => nthO xs n
def takeL : Nat → List AV → List AV
  | 0, _ => []
  | _ + 1, [] => []
  | n + 1, x :: xs => x :: takeL n xs
def dropL : Nat → List AV → List AV
  | 0, xs => xs
  | _ + 1, [] => []
  | n + 1, _ :: xs => dropL n xs
def putL : Nat → List AV → List AV → List AV
  | 0, [], xs => xs
  | 0, c :: cs, _ :: xs => c :: putL 0 cs xs
  | 0, _ :: _, [] => []
  | n + 1, cs, x :: xs => x :: putL n cs xs
  | _ + 1, _, [] => []
def absC : Value → AV
  | .slice none 0 0 => .sl 0 [] true
  | x => .v x
def oneC : List Value → Bool
  | [] => true
  | v :: vs => match v.oneCell' with | true => oneC vs | false => false
def absV : Value → AV
  | .slice none 0 0 => .sl 0 [] true
  | .agg cs => match oneC cs.toList with | true => .agg (cs.toList.map absC) | false => .any
  | x => .v x
def cellsA : AV → Option (List AV)
  | .agg cs => some cs
  | .v (.agg _) | .v (.tuple _) => none
  | .v x => some [.v x]
  | .sl a b c => some [.sl a b c]
  | .dp a b c => some [.dp a b c]
  | .ptr a b => some [.ptr a b]
  | .ptr2 a b c => some [.ptr2 a b c]
  | .osl a b c d => some [.osl a b c d]
  | .clo a b c => some [.clo a b c]
  | _ => none
inductive Res where
  | bad
  | ok (x : AV)
  | need (p : Prop) (x : AV)
  | idx (rows : List (List AV)) (i : Int) (f : List AV → Option AV)
  | fx (p : Prop) (x : AV) (h : AH)
  | idxfx (rows : List (List AV)) (i : Int) (f : List AV → Option AH)
  | str (p : Prop) (rows : List (List AV))
  | call (f : FuncId) (args : List AV)
def cond2 (c x y : Bool) : Bool := match c with | true => x | false => y
def intOp (op : BinOp) (k : IntKind) (a b : Int) : Res :=
  match op with
  | .add => .ok (.v (.int k (k.wrap (a + b))))
  | .sub => .ok (.v (.int k (k.wrap (a - b))))
  | .mul => .ok (.v (.int k (k.wrap (a * b))))
  | .quo => .need (b ≠ 0) (.v (.int k (k.wrap (a.tdiv b))))
  | .rem => .need (b ≠ 0) (.v (.int k (a.tmod b)))
  | .and => .ok (.v (.int k (k.wrap (BitVec.ofInt k.bits a &&& BitVec.ofInt k.bits b).toNat)))
  | .or => .ok (.v (.int k (k.wrap (BitVec.ofInt k.bits a ||| BitVec.ofInt k.bits b).toNat)))
  | .xor => .ok (.v (.int k (k.wrap (BitVec.ofInt k.bits a ^^^ BitVec.ofInt k.bits b).toNat)))
  | .andNot => .ok (.v (.int k (k.wrap (BitVec.ofInt k.bits a &&& ~~~ BitVec.ofInt k.bits b).toNat)))
  | .eql => .ok (.v (.bool (a == b)))
  | .neq => .ok (.v (.bool (a != b)))
  | .lss => .ok (.v (.bool (decide (a < b))))
  | .leq => .ok (.v (.bool (decide (a ≤ b))))
  | .gtr => .ok (.v (.bool (decide (a > b))))
  | .geq => .ok (.v (.bool (decide (a ≥ b))))
  | _ => .bad
def shOp (op : BinOp) (k : IntKind) (a b : Int) : Res :=
  match op with
  | .shl => .need (0 ≤ b) (.v (.int k (k.wrap (a * 2 ^ (min b.toNat k.bits)))))
  | .shr => .need (0 ≤ b) (.v (.int k (a.fdiv (2 ^ (min b.toNat k.bits)))))
  | _ => .bad
def boolOp (op : BinOp) (a b : Bool) : Res :=
  match op with
  | .eql => .ok (.v (.bool (a == b)))
  | .neq => .ok (.v (.bool (!(a == b))))
  | _ => .bad
def strOp (op : BinOp) (x y : ByteArray) : Res :=
  match op with
  | .add => .need (((x.size + y.size : Nat) : Int) ≤ IntKind.i64.max) (.v (.string (x ++ y)))
  | .eql => .ok (.v (.bool (x.toList == y.toList)))
  | .neq => .ok (.v (.bool (!(x.toList == y.toList))))
  | _ => .bad
def sameKind : IntKind → IntKind → Bool
  | .i8, .i8 | .i16, .i16 | .i32, .i32 | .i64, .i64 | .u8, .u8 | .u16, .u16 | .u32, .u32 | .u64, .u64 => true
  | _, _ => false
def eqS : CK → AV → AV → Option Bool
  | .i, .v (.int k a), .v (.int k' b) => match sameKind k k' with | true => some (a == b) | false => none
  | .b, .v (.bool a), .v (.bool b) => some (a == b)
  | .s, .v (.string a), .v (.string b) => some (a == b)
  | _, _, _ => none
def eqL : List CK → List AV → List AV → Option Bool
  | [], [], [] => some true
  | k :: ks, x :: xs, y :: ys => match eqS k x y, eqL ks xs ys with | some a, some b => some (a && b) | _, _ => none
  | _, _, _ => none
def isShift : BinOp → Bool
  | .shl | .shr => true
  | _ => false
def binA (C : Ctx) (op : BinOp) (t : TypeId) (x y : AV) : Res :=
  match x, y with
  | .v (.int k a), .v (.int k' b) =>
    match isShift op with
    | true => shOp op k a b
    | false => match sameKind k k' with | true => intOp op k a b | false => .bad
  | .v (.bool a), .v (.bool b) => match C.ty t with | some ⟨.bool, _, _, _, _, _⟩ => boolOp op a b | _ => .bad
  | .v (.string a), .v (.string b) => strOp op a b
  | .agg xs, .agg ys =>
    match C.ty t with
    | some ⟨_, _, _, _, _, k :: ks⟩ =>
      match op, eqL (k :: ks) xs ys with
      | .eql, some b => .ok (.v (.bool b))
      | .neq, some b => .ok (.v (.bool (!b)))
      | _, _ => .bad
    | _ => .bad
  | _, _ => .bad
def nilOp : BinOp → Operand → Option Bool
  | .eql, .const (.slice none 0 0) => some false
  | .neq, .const (.slice none 0 0) => some true
  | .eql, .const (.pointer none) => some false
  | .neq, .const (.pointer none) => some true
  | _, _ => none
def nilPtr : Operand → Bool
  | .const (.pointer none) => true
  | _ => false
def nilEqA (C : Ctx) (neq : Bool) (t : TypeId) (p : Bool) (x : AV) : Res :=
  match C.ty t, p with
  | some ⟨.slice _, _, _, _, _, _⟩, false =>
    match x with
    | .v (.slice none _ _) => .ok (.v (.bool (!neq)))
    | .v (.slice (some _) _ _) => .ok (.v (.bool neq))
    | .sl _ (_ :: _) _ => .ok (.v (.bool neq))
    | _ => .bad
  | some ⟨.pointer, _, _, _, _, _⟩, true =>
    match x with
    | .v (.pointer none) => .ok (.v (.bool (!neq)))
    | .ptr _ _ => .ok (.v (.bool neq))
    | _ => .bad
  | _, _ => .bad
def unA (op : UnOp) (x : AV) : Res :=
  match op, x with
  | .not, .v (.bool b) => .ok (.v (.bool (!b)))
  | .neg, .v (.int k n) => .ok (.v (.int k (k.wrap (0 - n))))
  | .xor, .v (.int k n) => .ok (.v (.int k (k.wrap (BitVec.ofInt k.bits (if k.signed then -1 else k.max) ^^^ BitVec.ofInt k.bits n).toNat)))
  | _, _ => .bad
def bytesOfRows : List (List AV) → Option (List UInt8)
  | [] => some []
  | [.v (.int .u8 n)] :: rs => match bytesOfRows rs with | some l => some (UInt8.ofNat n.toNat :: l) | none => none
  | _ => none
inductive StrN (g : Bool) (p : Prop) (rows : List (List AV)) (K : ByteArray → Prop) : Prop
  | mk (l : List UInt8) (h : g = true → p ∧ bytesOfRows rows = some l) (hk : K ⟨l.toArray⟩) : StrN g p rows K
def rowsOfBytes (s : ByteArray) : List (List AV) := s.data.toList.map fun b => [.v (.int .u8 b.toNat)]
def convA (C : Ctx) (src dst : TypeId) (x : AV) : Res :=
  match C.ty src, C.ty dst, x with
  | some ⟨.int _, _, _, _, _, _⟩, some ⟨.int k, _, _, _, _, _⟩, .v (.int _ n) => .ok (.v (.int k (k.wrap n)))
  | some ⟨.string, _, _, _, _, _⟩, some ⟨.string, _, _, _, _, _⟩, .v (.string s) => .ok (.v (.string s))
  | _, _, _ => .bad
def partA (C : Ctx) (t : TypeId) (cs : List AV) (off : Nat) : Option AV :=
  match C.ty t with
  | some ⟨_, sz, true, _, _, _⟩ => some (.agg (takeL sz (dropL off cs)))
  | some ⟨_, _, false, _, _, _⟩ => nthO cs off
  | none => none
def loadA (C : Ctx) (t : TypeId) (rs col : Nat) (row : List AV) : Option AV :=
  match C.ty t with
  | some ⟨_, sz, true, _, _, _⟩ =>
    match col, Nat.beq sz rs with
    | 0, true => some (.agg row)
    | _, _ => match Nat.beq (takeL sz (dropL col row)).length sz with | true => some (.agg (takeL sz (dropL col row))) | false => none
  | some ⟨_, _, false, _, _, _⟩ => nthO row col
  | none => none
def nthF : List (Nat × TypeId) → Nat → Option (Nat × TypeId)
  | [], _ => none
  | x :: _, 0 => some x
  | _ :: xs, n + 1 => nthF xs n
def fillA (C : Ctx) (place : Nat → Option (Nat × Nat)) (cells : List AV) : List (Nat × AV) → Option (List AV)
  | [] => some cells
  | (i, x) :: rest =>
    match place i, cellsA x with
    | some (off, sz), some cs => match Nat.beq cs.length sz, Nat.ble (off + cs.length) cells.length with | true, true => fillA C place (putL off cs cells) rest | _, _ => none
    | _, _ => none
def okO (x : Option AV) : Res := match x with | some x => .ok x | none => .bad
def lenA : AV → Option Nat
  | .v (.string s) => some s.size
  | .sl _ rows _ => some rows.length
  | .osl _ _ len _ => some len
  | _ => none
def intO : Option AV → Option (Option Int)
  | none => some none
  | some (.v (.int _ n)) => some (some n)
  | _ => none
def blkOf (h : AH) : AV → Option Blk
  | .osl b _ _ _ => h b
  | _ => none
def sliceV (C : Ctx) (t : TypeId) (x : AV) (lo hi mx : Option AV) (blk : Option Blk) : Res :=
  match lenA x, intO lo, intO hi, intO mx with
  | some len, some lo, some hi, some mx =>
    match C.ty t with
    | some ⟨.string, _, _, _, _, _⟩ =>
      match x, mx with
      | .v (.string s), none => .need (0 ≤ lo.getD 0 ∧ lo.getD 0 ≤ hi.getD len ∧ hi.getD len ≤ (len : Int)) (.v (.string (s.extract (lo.getD 0).toNat (hi.getD len).toNat)))
      | _, _ => .bad
    | some ⟨.slice e, _, _, _, _, _⟩ =>
      match C.ty e with
      | some ei =>
        match x, mx, hi with
        | .sl rs rows clip, none, hi =>
          match Nat.beq rs ei.sz with
          | true => .need (0 ≤ lo.getD 0 ∧ lo.getD 0 ≤ hi.getD len ∧ hi.getD len ≤ (len : Int)) (.sl rs ((rows.take (hi.getD len).toNat).drop (lo.getD 0).toNat) (clip && hi.isNone))
          | false => .bad
        | .sl rs rows _, some m, some hi =>
          match Nat.beq rs ei.sz with
          | true => .need (0 ≤ lo.getD 0 ∧ lo.getD 0 ≤ hi ∧ hi = m ∧ hi ≤ (len : Int)) (.sl rs ((rows.take hi.toNat).drop (lo.getD 0).toNat) true)
          | false => .bad
        | .osl s o _ clip, none, hi =>
          match blk with
          | some (.arr _ rs) =>
            match Nat.beq rs ei.sz with
            | true => .need (0 ≤ lo.getD 0 ∧ lo.getD 0 ≤ hi.getD len ∧ hi.getD len ≤ (len : Int)) (.osl s (o + (lo.getD 0).toNat) (hi.getD len - lo.getD 0).toNat (clip && hi.isNone))
            | false => .bad
          | _ => .bad
        | .osl s o _ _, some m, some hi =>
          match blk with
          | some (.arr _ rs) =>
            match Nat.beq rs ei.sz with
            | true => .need (0 ≤ lo.getD 0 ∧ lo.getD 0 ≤ hi ∧ hi = m ∧ hi ≤ (len : Int)) (.osl s (o + (lo.getD 0).toNat) (hi - lo.getD 0).toNat true)
            | false => .bad
          | _ => .bad
        | _, _, _ => .bad
      | none => .bad
    | _ => .bad
  | _, _, _, _ => .bad
def sliceA (C : Ctx) (h : AH) (t : TypeId) (x : AV) (lo hi mx : Option AV) : Res := sliceV C t x lo hi mx (blkOf h x)
def rowsOf (h : AH) : AV → Option (Nat × List (List AV))
  | .v (.string s) => some (1, rowsOfBytes s)
  | .sl rs rows _ => some (rs, rows)
  | .osl s lo len _ => match h s with | some (.arr rows rs) => some (rs, (rows.drop lo).take len) | _ => none
  | _ => none
def lenOk (h : AH) : AV → Prop
  | .osl s lo len _ => match h s with | some (.arr rows _) => lo + len ≤ rows.length | _ => False
  | _ => True
def capMax : Nat := 1000000
def lenB (C : Ctx) (t : TypeId) (x : AV) : Res :=
  match C.ty t, x with
  | some ⟨.string, _, _, _, _, _⟩, .v (.string s) => .ok (.v (.int .i64 (s.size : Int)))
  | some ⟨.slice _, _, _, _, _, _⟩, .sl _ rows _ => .ok (.v (.int .i64 (rows.length : Int)))
  | some ⟨.slice _, _, _, _, _, _⟩, .osl _ _ len _ => .ok (.v (.int .i64 (len : Int)))
  | some ⟨.array n _, _, _, _, _, _⟩, _ => .ok (.v (.int .i64 (n : Int)))
  | _, _ => .bad
def appKd : Kd → Bool
  | .slice _ | .string => true
  | _ => false
def minA (x y : AV) : Res :=
  match x, y with
  | .v (.int k a), .v (.int k' b) => match sameKind k k' with | true => .ok (.v (.int k (if b < a then b else a))) | false => .bad
  | _, _ => .bad
def maxA (x y : AV) : Res :=
  match x, y with
  | .v (.int k a), .v (.int k' b) => match sameKind k k' with | true => .ok (.v (.int k (if b > a then b else a))) | false => .bad
  | _, _ => .bad
def copyA (C : Ctx) (h : AH) (ts : List TypeId) (x y : AV) : Res :=
  match ts with
  | [] => .bad
  | t :: _ =>
    match C.ty t with
    | some ⟨.slice e, _, _, _, _, _⟩ =>
      match C.ty e, x with
      | some ei, .osl s0 lo len _ =>
        match h s0, rowsOf h y with
        | some (.arr rows rs), some (rc, c) =>
          match Nat.beq rs ei.sz, Nat.beq rc ei.sz with
          | true, true => .fx (lo + len ≤ rows.length ∧ lenOk h y) (.v (.int .i64 (min c.length len : Nat))) (upd h s0 (some (.arr (rows.take lo ++ c.take (min c.length len) ++ rows.drop (lo + min c.length len)) rs)))
          | _, _ => .bad
        | _, _ => .bad
      | _, _ => .bad
    | _ => .bad
def appendV (C : Ctx) (s : Nat) (ts : List TypeId) (x : AV) (rx ry : Option (Nat × List (List AV))) (blk : Option Blk) (px py : Prop) (h : AH) : Res :=
  match ts with
  | [t, tx] => match C.ty t, C.ty tx with
    | some ⟨.slice e, _, _, _, _, _⟩, some tk => match C.ty e with
      | some ei =>
        match appKd tk.kd, x, rx, ry with
        | true, .sl r0 _ true, some (ra, a), some (rc, c) => match Nat.beq r0 0, Nat.beq ra ei.sz, Nat.beq rc ei.sz with
          | true, _, true => .fx (a.length = 0 ∧ c.length ≤ capMax ∧ 0 < c.length ∧ py) (.osl s 0 c.length false) (upd h s (some (.arr c rc)))
          | false, true, true => (match c with
            | [] => .need (px ∧ py) x
            | _ :: _ => .fx (a.length + c.length ≤ capMax ∧ 0 < c.length ∧ px ∧ py) (.osl s 0 (a.length + c.length) false) (upd h s (some (.arr (a ++ c) ra))))
          | _, _, _ => .bad
        | true, .osl _ _ _ true, some (ra, a), some (rc, c) => match Nat.beq ra ei.sz, Nat.beq rc ei.sz with
          | true, true => .fx (a.length + c.length ≤ capMax ∧ 0 < c.length ∧ px ∧ py) (.osl s 0 (a.length + c.length) false) (upd h s (some (.arr (a ++ c) ra)))
          | _, _ => .bad
        | true, .osl s0 lo len false, some (ra, a), some (rc, c) =>
          match blk, Nat.beq ra ei.sz, Nat.beq rc ei.sz with
          | some (.arr rows _), true, true => .fx (a.length + c.length ≤ capMax ∧ lo + len = rows.length ∧ py) (.osl s 0 (a.length + c.length) false) (upd (upd h s0 none) s (some (.arr (a ++ c) ra)))
          | _, _, _ => .bad
        | _, _, _, _ => .bad
      | none => .bad
    | _, _ => .bad
  | _ => .bad
def builtinA (C : Ctx) (h : AH) (s : Nat) (b : Builtin) (ts : List TypeId) (args : List AV) : Res :=
  match b, args with
  | .len, [x] => match ts with | [t] => lenB C t x | _ => .bad
  | .min, [x, y] => minA x y
  | .max, [x, y] => maxA x y
  | .append, [x, y] => appendV C s ts x (rowsOf h x) (rowsOf h y) (blkOf h x) (lenOk h x) (lenOk h y) h
  | .copy, [x, y] => copyA C h ts x y
  | _, _ => .bad
def zeroCellsA (C : Ctx) (t : TypeId) : Option (List AV) :=
  match C.ty t with
  | some i => cellsA i.zero
  | none => none
mutual
def closedA : AV → Bool
  | .v _ | .sl _ _ _ | .dp _ _ _ => true
  | .agg cs => closedL cs
  | .tup cs => closedL cs
  | .clo _ a b => match closedL a with | true => closedL b | false => false
  | _ => false
def closedL : List AV → Bool
  | [] => true
  | x :: xs => match closedA x with | true => closedL xs | false => false
end
def rowsP (sz : Nat) : Nat → List (Nat × AV) → Option (List (List AV))
  | _, [] => some []
  | k, (i, x) :: rest =>
    match Nat.beq i k, cellsA x, rowsP sz (k + 1) rest with
    | true, some cs, some rows => match Nat.beq cs.length sz, closedL cs with | true, true => some (cs :: rows) | _, _ => none
    | _, _, _ => none
def pickA (c a b : AV) : Res :=
  match c, a, b with
  | .v (.bool c), .v (.bool x), .v (.bool y) => .ok (.v (.bool (cond2 c x y)))
  | .v (.bool c), .opt g (.v (.bool x)), .v (.bool y) => .need (c = true → g = true) (.v (.bool (cond2 c x y)))
  | .v (.bool c), .v (.bool x), .opt g (.v (.bool y)) => .need (c = false → g = true) (.v (.bool (cond2 c x y)))
  | _, _, _ => .bad
def loadAtA (C : Ctx) (h : AH) (t : TypeId) (a : AV) : Res :=
  match a with
  | .ptr b c => match h b with | some (.box cells) => okO (loadA C t cells.length c cells) | _ => .bad
  | .ptr2 b r c => match h b with | some (.arr rows rs) => .idx rows r (loadA C t rs c) | some (.row cells) => .idx (cells.map fun x => [x]) r (loadA C t 1 c) | _ => .bad
  | .dp rs c row => okO (loadA C t rs c row)
  | _ => .bad
def fieldAddrA (C : Ctx) (t : TypeId) (f : Nat) (a : AV) : Res :=
  match C.ty t with
  | some ⟨.struct fs, _, _, _, _, _⟩ =>
    match nthF fs f, a with
    | some (off, _), .ptr b c => .ok (.ptr b (c + off))
    | some (off, _), .ptr2 b r c => .ok (.ptr2 b r (c + off))
    | some (off, _), .dp rs c row => .ok (.dp rs (c + off) row)
    | _, _ => .bad
  | _ => .bad
def fieldA (C : Ctx) (t : TypeId) (f : Nat) (a : AV) : Res :=
  match C.ty t with
  | some ⟨.struct fs, _, _, _, _, _⟩ => match nthF fs f, a with | some (off, ft), .agg cs => okO (partA C ft cs off) | _, _ => .bad
  | _ => .bad
def indexAddrV (C : Ctx) (t : TypeId) (a i : AV) (blk : Option Blk) : Res :=
  match C.ty t, i with
  | some ⟨.slice e, _, _, _, _, _⟩, .v (.int _ n) =>
    match C.ty e, a with
    | some ei, .sl rs rows _ => (match Nat.beq rs ei.sz with | true => .idx rows n (fun row => some (.dp rs 0 row)) | false => .bad)
    | some ei, .osl b lo len _ => (match blk with
      | some (.arr _ rs) => (match Nat.beq rs ei.sz with | true => .need (0 ≤ n ∧ n < (len : Int)) (.ptr2 b (lo + n.toNat) 0) | false => .bad)
      | some (.row _) => (match Nat.beq 1 ei.sz with | true => .need (0 ≤ n ∧ n < (len : Int)) (.ptr2 b (lo + n.toNat) 0) | false => .bad)
      | _ => .bad)
    | _, _ => .bad
  | some ⟨.array len e, _, _, _, _, _⟩, .v (.int _ n) =>
    match C.ty e, a with
    | some ei, .ptr b c => .need (0 ≤ n ∧ n < (len : Int)) (.ptr b (c + n.toNat * ei.sz))
    | some ei, .ptr2 b r c => .need (0 ≤ n ∧ n < (len : Int)) (.ptr2 b r (c + n.toNat * ei.sz))
    | some ei, .dp rs c row => .need (0 ≤ n ∧ n < (len : Int)) (.dp rs (c + n.toNat * ei.sz) row)
    | _, _ => .bad
  | _, _ => .bad
def indexAddrA (C : Ctx) (h : AH) (t : TypeId) (a i : AV) : Res := indexAddrV C t a i (blkOf h a)
def indexA (C : Ctx) (t : TypeId) (a i : AV) : Res :=
  match C.ty t, a, i with
  | some ⟨.string, _, _, _, _, _⟩, .v (.string s), .v (.int _ n) => .need (0 ≤ n ∧ n < (s.size : Int)) (.v (.int .u8 (s.data.toList.getD n.toNat 0).toNat))
  | some ⟨.array len e, _, _, _, _, _⟩, .agg cs, .v (.int _ n) =>
    match C.ty e with
    | some ei => match partA C e cs (n.toNat * ei.sz) with | some x => .need (0 ≤ n ∧ n < (len : Int)) x | none => .bad
    | none => .bad
  | _, _, _ => .bad
def extractA (i : Nat) (a : AV) : Res := match a with | .tup vs => okO (nthO vs i) | _ => .bad
def buildA (C : Ctx) (t : TypeId) (ps : List (Nat × AV)) : Res :=
  match C.ty t with
  | some ⟨.struct fs, _, _, z, _, _⟩ =>
    match cellsA z with
    | some zs => okO ((fillA C (fun i => match nthF fs i with | some (off, ft) => (match C.ty ft with | some fi => some (off, fi.sz) | none => none) | none => none) zs ps).map .agg)
    | none => .bad
  | some ⟨.array _ e, _, _, z, _, _⟩ =>
    match cellsA z, C.ty e with
    | some zs, some ei => okO ((fillA C (fun i => some (i * ei.sz, ei.sz)) zs ps).map .agg)
    | _, _ => .bad
  | _ => .bad
def nilA (a : AV) : Res :=
  match a with
  | .ptr b c => .ok (.ptr b c)
  | .ptr2 b r c => .ok (.ptr2 b r c)
  | .dp a b c => .ok (.dp a b c)
  | .clo a b c => .ok (.clo a b c)
  | _ => .bad
def convO (C : Ctx) (h : AH) (s : Nat) (src dst : TypeId) (x : AV) : Res :=
  match C.ty src, C.ty dst with
  | some ⟨.string, _, _, _, _, _⟩, some ⟨.slice e, _, _, _, _, _⟩ =>
    match x, C.ty e with
    | .v (.string b), some ⟨.int .u8, _, _, _, _, _⟩ => .fx (b.size ≤ capMax) (.osl s 0 b.size false) (upd h s (some (.arr (rowsOfBytes b) 1)))
    | _, _ => .bad
  | some ⟨.slice e, _, _, _, _, _⟩, some ⟨.string, _, _, _, _, _⟩ =>
    match x with
    | .v _ => .bad
    | x => match C.ty e, rowsOf h x with
      | some ⟨.int .u8, _, _, _, _, _⟩, some (_, rows) => .str (lenOk h x) rows
      | _, _ => .bad
  | _, _ => convA C src dst x
def makeA (C : Ctx) (h : AH) (s : Nat) (t : TypeId) (l c : AV) : Res :=
  match C.ty t, l, c with
  | some ⟨.slice e, _, _, _, _, _⟩, .v (.int _ l), .v (.int _ c) =>
    match C.ty e with
    | some ei => match cellsA ei.zero with
      | some z => (match closedL z with | true => .fx (0 ≤ l ∧ l ≤ c ∧ c ≤ capMax) (.osl s 0 l.toNat false) (upd h s (some (.arr (List.replicate l.toNat z) z.length))) | false => .bad)
      | none => .bad
    | none => .bad
  | _, _, _ => .bad
def opA (C : Ctx) (ev : Operand → AV) (h : AH) (s : Nat) (op : Op) : Res :=
  match op with
  | .move x | .assign x => .ok (ev x)
  | .pick c a b => pickA (ev c) (ev a) (ev b)
  | .alloc t => match zeroCellsA C t with | some cs => .fx True (.ptr s 0) (upd h s (some (.box cs))) | none => .bad
  | .box _ x => match cellsA (ev x) with | some cs => .fx True (.ptr s 0) (upd h s (some (.box cs))) | none => .bad
  | .build t parts => buildA C t (parts.toList.map fun p => (p.1, ev p.2))
  | .load t a => loadAtA C h t (ev a)
  | .store t a x =>
    match C.ty t, cellsA (ev x) with
    | some ti, some cs =>
      match Nat.beq cs.length ti.sz with
      | true =>
        match ev a with
        | .ptr b c => match h b with | some (.box cells) => (match Nat.ble (c + cs.length) cells.length with | true => .fx True .any (upd h b (some (.box (putL c cs cells)))) | false => .bad) | _ => .bad
        | .ptr2 b r c => (match h b with
          | some (.arr rows rs) => .idxfx rows r (fun row => match Nat.ble (c + cs.length) row.length, closedL cs with | true, true => some (upd h b (some (.arr (rows.set r (putL c cs row)) rs))) | _, _ => none)
          | some (.row cells) => .idxfx (cells.map fun x => [x]) r (fun _ => match c, cs with | 0, [x] => some (upd h b (some (.row (cells.set r x)))) | _, _ => none)
          | _ => .bad)
        | _ => .bad
      | false => .bad
    | _, _ => .bad
  | .nilCheck x => nilA (ev x)
  | .binOp op t x y _ => (match nilOp op y with | some neq => nilEqA C neq t (nilPtr y) (ev x) | none => binA C op t (ev x) (ev y))
  | .unOp op _ x => unA op (ev x)
  | .convert src dst x => convO C h s src dst (ev x)
  | .makeFunc (.func f) first caps => .ok (.clo f (first.toList.map ev) (caps.toList.map ev))
  | .makeSlice t l c => makeA C h s t (ev l) (ev c)
  | .buildSlice t len parts =>
    match C.ty t with
    | some ⟨.slice e, _, _, _, _, _⟩ =>
      match C.ty e with
      | some ei =>
        match rowsP ei.sz 0 (parts.toList.map fun p => (p.1, ev p.2)) with
        | some rows => match Nat.beq rows.length len, Nat.ble (len * ei.sz) 16777216 with
          | true, true => .ok (.sl ei.sz rows true)
          | _, _ => .bad
        | none => .bad
      | none => .bad
    | _ => .bad
  | .slice t x lo hi mx => sliceA C h t (ev x) (lo.map ev) (hi.map ev) (mx.map ev)
  | .fieldAddr t x f => fieldAddrA C t f (ev x)
  | .field t x f => fieldA C t f (ev x)
  | .indexAddr t x i => indexAddrA C h t (ev x) (ev i)
  | .index t x i => indexA C t (ev x) (ev i)
  | .extract x i => extractA i (ev x)
  | .call c =>
    match c.callee with
    | .builtin b => builtinA C h s b c.argTypes.toList (c.args.toList.map ev)
    | .value f => match ev f with
      | .clo f first caps => .call f (first ++ c.args.toList.map ev ++ caps)
      | _ => .bad
    | _ => .bad
  | _ => .bad
def evA (C : Ctx) (t : Nat → AV) : Operand → AV
  | .tmp i => t i
  | .const x => absV x
  | .global g => match C.G g with | some cells => .dp cells.length 0 cells | none => .any
  | .func f => .clo f [] []
def strip : AV → AV
  | .opt _ x => x
  | x => x
def stripC : AV → Option Bool
  | .opt g _ => some g
  | _ => none
def condsA (t : Nat → AV) : List Operand → Option Bool
  | [] => none
  | .tmp i :: rest => match stripC (t i), condsA t rest with
    | none, r => r
    | some g, none => some g
    | some g, some r => some (g && r)
  | _ :: rest => condsA t rest
def condsO (t : Nat → AV) (op : Op) : Option Bool :=
  match op with
  | .pick c _ _ => condsA t [c]
  | op => condsA t op.operands.toList
def sameO : Operand → Operand → Bool
  | .tmp i, .tmp j => Nat.beq i j
  | _, _ => false
def evS (C : Ctx) (t : Nat → AV) (op : Op) : Operand → AV :=
  match op with
  | .pick c _ _ => fun x => match sameO c x with | true => strip (evA C t x) | false => evA C t x
  | _ => fun x => strip (evA C t x)
def guardA (x : AV) (pol : Bool) : Option Bool :=
  match x with
  | .v (.bool b) => some (match pol with | true => b | false => !b)
  | .opt a (.v (.bool b)) => some (a && (match pol with | true => b | false => !b))
  | _ => none
mutual
def noOwn : AV → Bool
  | .osl _ _ _ _ => false
  | .ptr _ _ => false
  | .agg cs => noOwnL cs
  | .tup cs => noOwnL cs
  | .clo _ a b => match noOwnL a with | true => noOwnL b | false => false
  | _ => true
def noOwnL : List AV → Bool
  | [] => true
  | x :: xs => match noOwn x with | true => noOwnL xs | false => false
end
def anyL : List AV → List AV
  | [] => []
  | x :: xs => (match closedA x with | true => x | false => .any) :: anyL xs
mutual
def datA (h : AH) : AV → AV
  | .osl s lo len clip => match h s with | some (.arr rows rs) => .sl rs ((rows.drop lo).take len) clip | _ => .any
  | .agg cs => .agg (datL h cs)
  | .tup cs => match noOwnL cs with | true => .tup cs | false => .tup (datL h cs)
  | .ptr s c => match h s with | some (.box cells) => .dp cells.length c (anyL cells) | _ => .any
  | .clo f a b => .clo f (datL h a) (datL h b)
  | x => x
def datL (h : AH) : List AV → List AV
  | [] => []
  | x :: xs => datA h x :: datL h xs
end
mutual
def lenOkA (h : AH) : AV → Prop
  | .osl s lo len _ => match h s with | some (.arr rows _) => lo + len ≤ rows.length | _ => False
  | .agg cs => lenOkL h cs
  | .tup cs => match noOwnL cs with | true => True | false => lenOkL h cs
  | .clo _ a b => lenOkL h a ∧ lenOkL h b
  | _ => True
def lenOkL (h : AH) : List AV → Prop
  | [] => True
  | x :: xs => lenOkA h x ∧ lenOkL h xs
end
mutual
def flatA : AV → Bool
  | .v _ => true
  | .agg cs => flatL cs
  | .tup cs => flatL cs
  | _ => false
def flatL : List AV → Bool
  | [] => true
  | x :: xs => match flatA x with | true => flatL xs | false => false
end
inductive CallN (C : Ctx) (R : FuncId → List AV → AV → Prop) (g : Bool) (h : AH) (f : FuncId) (args : List AV) (K : AV → Prop) : Prop
  | mk (r : AV) (hc : closedL (datL h args) = true) (hf : noOwnL args = true ∨ (flatA r = true ∧ lenOkL h args)) (hr : closedA r = true) (hR : g = true → R f (datL h args) r) (hk : K r) : CallN C R g h f args K
inductive HCallN (C : Ctx) (h : AH) (s : Nat) (f : FuncId) (args : List AV) (K : AV → AH → Prop) : Prop
  | mk (Post : AV → AH → Prop) (hH : C.H f args h s Post) (hk : ∀ r h', Post r h' → K r h') : HCallN C h s f args K
def node (C : Ctx) (R : FuncId → List AV → AV → Prop) (h : AH) (s : Nat) (r : Res) (K : AV → AH → Prop) : Prop :=
  match r with
  | .bad => False
  | .ok x => K x h
  | .need p x => Need true p (K x h)
  | .idx rows i f => IdxN true rows i (fun row => match f row with | some x => K x h | none => False)
  | .fx p x h' => Need true p (K x h')
  | .idxfx rows i f => IdxN true rows i (fun row => match f row with | some h' => K .any h' | none => False)
  | .str p rows => StrN true p rows (fun b => K (.v (.string b)) h)
  | .call f args => CallN C R true h f args (fun x => K x h) ∨ HCallN C h s f args K
def nodeG (C : Ctx) (R : FuncId → List AV → AV → Prop) (h : AH) (g : Bool) (r : Res) (K : AV → AH → Prop) : Prop :=
  match r with
  | .ok x => K (.opt g x) h
  | .need p x => Need g p (K (.opt g x) h)
  | .idx rows i f => IdxN g rows i (fun row => match f row with | some x => K (.opt g x) h | none => False)
  | .str p rows => StrN g p rows (fun b => K (.opt g (.v (.string b))) h)
  | .call f args => CallN C R g h f args (fun x => K (.opt g x) h)
  | _ => False
def stepA (C : Ctx) (R : FuncId → List AV → AV → Prop) (all : List Oper) (o : Oper) (s : Nat) (t : Nat → AV) (h : AH) (K : AV → AH → Prop) : Prop :=
  match o.guard with
  | none => node C R h s (opA C (evA C t) h s o.op) K
  | some (i, pol) =>
    match (all[i]?).bind (·.dst) with
    | none => False
    | some d =>
      match guardA (t d) pol with
      | none => False
      | some g =>
        match condsO t o.op with
        | none => nodeG C R h g (opA C (evA C t) h s o.op) K ∨ (g = true ∧ node C R h s (opA C (evA C t) h s o.op) K)
        | some c => Need g (c = true) (nodeG C R h g (opA C (evS C t o.op) h s o.op) K)
def regA (C : Ctx) (R : FuncId → List AV → AV → Prop) (all : List Oper) : List Oper → Nat → ASt → (ASt → Prop) → Prop
  | [], j, st, K => K { st with n := st.n + j }
  | o :: rest, j, st, K => stepA C R all o (st.n + j) st.t st.h (fun x h' => regA C R all rest (j + 1) { st with t := updO st.t o.dst x, h := h' } K)
inductive AEx where
  | normal | exit (id : Nat) | ret
mutual
def mapA (σ : Nat → Nat) : AV → AV
  | .ptr s c => .ptr (σ s) c
  | .ptr2 s r c => .ptr2 (σ s) r c
  | .osl s lo len clip => .osl (σ s) lo len clip
  | .agg cs => .agg (mapL σ cs)
  | .tup cs => .tup (mapL σ cs)
  | .clo f a b => .clo f (mapL σ a) (mapL σ b)
  | .opt g x => .opt g (mapA σ x)
  | x => x
def mapL (σ : Nat → Nat) : List AV → List AV
  | [] => []
  | x :: xs => mapA σ x :: mapL σ xs
end
mutual
def belowA (n : Nat) : AV → Bool
  | .ptr s _ => Nat.blt s n
  | .ptr2 s _ _ => Nat.blt s n
  | .osl s _ _ _ => Nat.blt s n
  | .agg cs => belowL n cs
  | .tup cs => belowL n cs
  | .clo _ a b => match belowL n a with | true => belowL n b | false => false
  | .opt _ x => belowA n x
  | _ => true
def belowL (n : Nat) : List AV → Bool
  | [] => true
  | x :: xs => match belowA n x with | true => belowL n xs | false => false
end
def mapB (σ : Nat → Nat) : Blk → Blk
  | .box cells => .box (mapL σ cells)
  | .arr rows rs => .arr rows rs
  | .row cells => .row (mapL σ cells)
def belowB (n : Nat) : Blk → Bool
  | .box cells => belowL n cells
  | .arr _ _ => true
  | .row cells => belowL n cells
structure Weak (st st' : ASt) (σ : Nat → Nat) : Prop where
  t : ∀ i, st'.t i = .any ∨ (st.t i = mapA σ (st'.t i) ∧ belowA st'.n (st'.t i) = true)
  h : ∀ s blk, st'.h s = some blk → s < st'.n ∧ st.h (σ s) = some (mapB σ blk) ∧ belowB st'.n blk = true
  inj : ∀ s s', st'.h s ≠ none → st'.h s' ≠ none → σ s = σ s' → s = s'
abbrev Fz := Option (Nat × Nat × List (List AV))
inductive LeZ (fz : Fz) : AV → AV → Prop
  | refl (a : AV) : LeZ fz a a
  | any (a : AV) : LeZ fz a .any
  | nil (rs : Nat) (c : Bool) : LeZ fz (.sl 0 [] true) (.sl rs [] c)
  | emp (rs : Nat) (A : Option Addr) (k : Nat) (c : Bool) (hk : k ≤ maxLen) (hc : c = true → k = 0) : LeZ fz (.v (.slice A 0 k)) (.sl rs [] c)
  | clip (rs : Nat) (rows : List (List AV)) : LeZ fz (.sl rs rows true) (.sl rs rows false)
  | oclip (s lo len : Nat) : LeZ fz (.osl s lo len true) (.osl s lo len false)
  | frz (b rs lo len : Nat) (rows : List (List AV)) (c c' : Bool) (h : fz = some (b, rs, rows)) (hl : lo + len ≤ rows.length) (hc : c' = true → c = true) : LeZ fz (.osl b lo len c) (.sl rs ((rows.drop lo).take len) c')
  | agg (cs ds : List AV) (hl : cs.length = ds.length) (h : ∀ (i : Nat) a d, cs[i]? = some a → ds[i]? = some d → LeZ fz a d) : LeZ fz (.agg cs) (.agg ds)
  | tup (cs ds : List AV) (hl : cs.length = ds.length) (h : ∀ (i : Nat) a d, cs[i]? = some a → ds[i]? = some d → LeZ fz a d) : LeZ fz (.tup cs) (.tup ds)
inductive LeB (fz : Fz) : Blk → Blk → Prop
  | refl (b : Blk) : LeB fz b b
  | box (cs ds : List AV) (hl : cs.length = ds.length) (h : ∀ (i : Nat) a d, cs[i]? = some a → ds[i]? = some d → LeZ fz a d) : LeB fz (.box cs) (.box ds)
  | row (cs ds : List AV) (hl : cs.length = ds.length) (h : ∀ (i : Nat) a d, cs[i]? = some a → ds[i]? = some d → LeZ fz a d) : LeB fz (.row cs) (.row ds)
  | toRow (cells : List AV) : LeB fz (.arr (cells.map fun x => [x]) 1) (.row cells)
  | toArr (cells : List AV) (h : ∀ c ∈ cells, closedA c = true) : LeB fz (.row cells) (.arr (cells.map fun x => [x]) 1)
structure Ghost (st st' : ASt) (fz : Fz) : Prop where
  b : ∀ x rs rows, fz = some (x, rs, rows) → st.h x = some (.arr rows rs)
  n : st'.n = st.n
  t : ∀ i, LeZ fz (st.t i) (st'.t i)
  h : ∀ s blk, st'.h s = some blk → (∀ x rs rows, fz = some (x, rs, rows) → s ≠ x) ∧ ∃ blk0, st.h s = some blk0 ∧ LeB fz blk0 blk
inductive Ghosts : ASt → ASt → Prop
  | refl (st : ASt) : Ghosts st st
  | step {a b c : ASt} (fz : Fz) (h : Ghost a b fz) (k : Ghosts b c) : Ghosts a c
inductive GhostN (st : ASt) (K : ASt → Prop) : Prop
  | mk (st' : ASt) (h : Ghosts st st') (k : K st') : GhostN st K
def keepB : Nat → (Nat → Nat) → Nat → Bool
  | 0, _, _ => true
  | k + 1, σ, n => match Nat.beq (σ k) k, Nat.blt k n with | true, true => keepB k σ n | _, _ => false
inductive WeakN (fr : Nat) (st : ASt) (K : ASt → Prop) : Prop
  | mk (stw : ASt) (σ : Nat → Nat) (hw : Weak st stw σ) (hf : keepB fr σ stw.n = true) (k : K stw) : WeakN fr st K
inductive LoopN (fr : Nat) (body : ASt → (AEx → ASt → Prop) → Prop) (st : ASt) (Q : AEx → ASt → Prop) : Prop
  | mk (I : ASt → Prop) (μ : ASt → Nat) (st0 : ASt) (σ : Nat → Nat) (hw : Weak st st0 σ) (hf : keepB fr σ st0.n = true) (h0 : I st0)
      (round : ∀ st', I st' → body st' (fun e st'' => match e with | .normal => GhostN st'' (fun stg => ∃ stw σ, Weak stg stw σ ∧ keepB fr σ stw.n = true ∧ I stw ∧ μ stw < μ st') | e => Q e st'')) : LoopN fr body st Q
def forL {α : Type} (P : α → Prop) : List α → Prop
  | [] => True
  | x :: l => P x ∧ forL P l
def aboveB (listed : Array Bool) (i : Nat) : Bool := (List.range listed.size).any fun j => Nat.blt i j && listed.getD j false
def aOne (C : Ctx) (R : FuncId → List AV → AV → Prop) (ops : Array Oper) (next : Array Bool → ASt → Prop) (listed : Array Bool) (t : Nat → AV) (h : AH) (n i : Nat) : Prop :=
  match ops[i]? with
  | some o => stepA (C.noHif (aboveB listed i)) R ops.toList o (n + i) t h (fun x h' => next (listed.setIfInBounds i true) ⟨updO t o.dst x, h', n⟩)
  | none => False
def anyA (C : Ctx) (R : FuncId → List AV → AV → Prop) (ops : Array Oper) (K : ASt → Prop) : Nat → Array Bool → ASt → Prop
  | 0, listed, st => Region.ready .any ops listed = [] ∧ K { st with n := st.n + ops.size }
  | fuel + 1, listed, st => Region.ready .any ops listed ≠ [] ∧ forL (aOne C R ops (anyA C R ops K fuel) listed st.t st.h st.n) (Region.ready .any ops listed)
def late0 (l : List Oper) : Bool := (l.any fun o => match o.op with | .store _ _ _ => true | _ => false) && l.any fun o => (match o.op with | .load _ _ => true | _ => false) && o.after.toList.any fun e => match e.ground with | .gcOnly _ => true | _ => false
def readsO : Op → Bool
  | .load _ _ | .store _ _ _ | .indexAddr _ _ _ | .slice _ _ _ _ _ | .convert _ _ _ | .call _ => true
  | _ => false
def writesO : Op → Bool
  | .store _ _ _ => true
  | .call ⟨.builtin .append, _, _⟩ | .call ⟨.builtin .copy, _, _⟩ => true
  | _ => false
def maskE (acc : List Nat) : List Edge → Nat → Nat
  | [], m => m
  | e :: es, m => maskE acc es (match Region.binds .any e with | true => m ||| 2 ^ e.on ||| acc.getD e.on 0 | false => m)
def masks : List Oper → List Nat → List Nat
  | [], acc => acc
  | o :: rest, acc => masks rest (acc ++ [maskE acc o.after.toList 0])
def tmpsO : List Operand → List Nat
  | [] => []
  | .tmp i :: l => i :: tmpsO l
  | _ :: l => tmpsO l
def looksO (l : List Oper) (o : Oper) : List Nat := o.dst.toList ++ tmpsO o.op.operands.toList ++ (match o.guard with | some (g, _) => ((l[g]?).bind (·.dst)).toList | none => [])
def ordd (ms : List Nat) (i j : Nat) : Bool := (ms.getD j 0).testBit i || (ms.getD i 0).testBit j
def drawOk (l : List Oper) : Bool :=
  (List.range l.length).all fun j => match l[j]? with
    | none => true
    | some oj =>
      (oj.after.toList.all fun e => !Region.binds .any e || Nat.blt e.on j) &&
      (List.range l.length).all fun i => match l[i]? with
        | none => true
        | some oi => i == j ||
          ((match oi.dst with | none => true | some d => !(looksO l oj).contains d || ordd (masks l []) i j) &&
           (!(writesO oi.op && readsO oj.op) || ordd (masks l []) i j))
def lateR (l : List Oper) : Bool := late0 l || !drawOk l
mutual
def namesA : AV → List Nat
  | .ptr s _ => [s]
  | .ptr2 s _ _ => [s]
  | .osl s _ _ _ => [s]
  | .agg cs => namesL cs
  | .tup cs => namesL cs
  | .clo _ a b => namesL a ++ namesL b
  | .opt _ x => namesA x
  | _ => []
def namesL : List AV → List Nat
  | [] => []
  | x :: xs => namesA x ++ namesL xs
end
def sitesO (t : Nat → AV) (o : Oper) : List Nat := (tmpsO o.op.operands.toList).flatMap fun i => namesA (t i)
def meets (a b : List Nat) : Bool := a.any fun x => b.any fun y => Nat.beq x y
def drawOk2 (l : List Oper) (tE : Nat → AV) : Bool :=
  (List.range l.length).all fun j => match l[j]? with
    | none => true
    | some oj =>
      ((oj.after.toList.all fun e => !Region.binds .any e || Nat.blt e.on j) &&
       (!readsO oj.op || (l.drop j).all fun o => match o.dst with | none => true | some d => !(tmpsO oj.op.operands.toList).contains d)) &&
      (List.range l.length).all fun i => match l[i]? with
        | none => true
        | some oi => i == j ||
          ((match oi.dst with | none => true | some d => !(looksO l oj).contains d || ordd (masks l []) i j) &&
           (!(writesO oi.op && readsO oj.op && meets (sitesO tE oi) (sitesO tE oj)) || ordd (masks l []) i j))
def codeA (C : Ctx) (R : FuncId → List AV → AV → Prop) : Code → ASt → (AEx → ASt → Prop) → Prop
  | .skip, st, Q => Q .normal st
  | .label _, st, Q => Q .normal st
  | .region _ ops dr, st, Q => match dr && lateR ops.toList with
    | true => anyA C R ops (Q .normal) ops.size (Array.replicate ops.size false) st ∨ (C.lt = true ∧ regA C.noH R ops.toList ops.toList 0 st (fun st' => drawOk2 ops.toList st'.t = true ∧ Q .normal st'))
    | false => regA (C.noHif dr) R ops.toList ops.toList 0 st (Q .normal) ∨ (dr = true ∧ anyA C R ops (Q .normal) ops.size (Array.replicate ops.size false) st)
  | .seq a b, st, Q => codeA C R a st (fun e st' => match e with | .normal => codeA C R b st' Q | e => Q e st') ∨ codeA C R a st (fun e st' => match e with | .normal => GhostN st' (fun st'' => codeA C R b st'' Q) | e => Q e st') ∨ codeA C R a st (fun e st' => match e with | .normal => GhostN st' (fun st'' => WeakN C.fr st'' (fun stw => codeA C R b stw Q)) | e => Q e st')
  | .cond c x y, st, Q => match evA C st.t c with | .v (.bool b) => Branch b (codeA C R x st Q) (codeA C R y st Q) | _ => False
  | .block id b, st, Q => codeA C R b st (fun e st' => match e with | .exit i => (match Nat.beq i id with | true => Q .normal st' | false => Q (.exit i) st') | e => Q e st')
  | .loop b, st, Q => LoopN C.fr (codeA C R b) st Q
  | .exit id, st, Q => Q (.exit id) st
  | .ret, st, Q => Q .ret st
  | _, _, _ => False
def resA (C : Ctx) (st : ASt) : List ResultVar → Option (List AV)
  | [] => some []
  | .tmp t :: rest => match resA C st rest with | some r => some (st.t t :: r) | none => none
  | .cell a t :: rest =>
    match st.t a, resA C st rest with
    | .ptr b c, some r => match st.h b with | some (.box cells) => (match loadA C t cells.length c cells with | some x => some (x :: r) | none => none) | _ => none
    | _, _ => none
def retA : List AV → AV
  | [x] => x
  | xs => .tup xs
def argsT : List AV → Nat → AV
  | [], _ => .any
  | x :: _, 0 => x
  | _ :: xs, n + 1 => argsT xs n
section
variable {C : Ctx} {R : FuncId → List AV → AV → Prop} {all rest : List Oper} {o : Oper} {j n : Nat} {t : Nat → AV} {h h' : AH} {K : ASt → Prop} {Q : AEx → ASt → Prop} {x : AV} {d : Nat}
theorem rEnd {n' : Nat} (e : n + j = n') (k : K ⟨t, h, n'⟩) : regA C R all [] j ⟨t, h, n⟩ K := by subst e; exact k
theorem rOk (hg : o.guard = none) (hd : o.dst = some d) (hx : opA C (evA C t) h (n + j) o.op = .ok x) (k : regA C R all rest (j + 1) ⟨upd t d x, h, n⟩ K) : regA C R all (o :: rest) j ⟨t, h, n⟩ K := by
  simp only [regA, stepA, hg, hx, node, hd, updO]; exact k
theorem rNeed {p : Prop} (hg : o.guard = none) (hd : o.dst = some d) (hx : opA C (evA C t) h (n + j) o.op = .need p x) (hp : p) (k : regA C R all rest (j + 1) ⟨upd t d x, h, n⟩ K) : regA C R all (o :: rest) j ⟨t, h, n⟩ K := by
  simp only [regA, stepA, hg, hx, node, hd, updO]; exact .mk (fun _ => hp) k
theorem rFx {p : Prop} (hg : o.guard = none) (hd : o.dst = some d) (hx : opA C (evA C t) h (n + j) o.op = .fx p x h') (hp : p) (k : regA C R all rest (j + 1) ⟨upd t d x, h', n⟩ K) : regA C R all (o :: rest) j ⟨t, h, n⟩ K := by
  simp only [regA, stepA, hg, hx, node, hd, updO]; exact .mk (fun _ => hp) k
theorem rFx0 {p : Prop} (hg : o.guard = none) (hd : o.dst = none) (hx : opA C (evA C t) h (n + j) o.op = .fx p x h') (hp : p) (k : regA C R all rest (j + 1) ⟨t, h', n⟩ K) : regA C R all (o :: rest) j ⟨t, h, n⟩ K := by
  simp only [regA, stepA, hg, hx, node, hd, updO]; exact .mk (fun _ => hp) k
theorem rHCall {f : FuncId} {args : List AV} (Post : AV → AH → Prop) (hg : o.guard = none) (hd : o.dst = some d) (hx : opA C (evA C t) h (n + j) o.op = .call f args) (hH : C.H f args h (n + j) Post) (k : ∀ x h', Post x h' → regA C R all rest (j + 1) ⟨upd t d x, h', n⟩ K) : regA C R all (o :: rest) j ⟨t, h, n⟩ K := by
  simp only [regA, stepA, hg, hx, node, hd, updO]; exact .inr (.mk Post hH k)
theorem rCall {f : FuncId} {args : List AV} (hg : o.guard = none) (hd : o.dst = some d) (hx : opA C (evA C t) h (n + j) o.op = .call f args) (hcl : closedL (datL h args) = true) (hf : noOwnL args = true ∨ (flatA x = true ∧ lenOkL h args)) (hr : closedA x = true) (hc : R f (datL h args) x) (k : regA C R all rest (j + 1) ⟨upd t d x, h, n⟩ K) : regA C R all (o :: rest) j ⟨t, h, n⟩ K := by
  simp only [regA, stepA, hg, hx, node, hd, updO]; exact .inl (.mk x hcl hf hr (fun _ => hc) k)
theorem rStr {p : Prop} {rows : List (List AV)} (l : List UInt8) (hg : o.guard = none) (hd : o.dst = some d) (hx : opA C (evA C t) h (n + j) o.op = .str p rows) (hp : p) (hl : bytesOfRows rows = some l) (k : regA C R all rest (j + 1) ⟨upd t d (.v (.string ⟨l.toArray⟩)), h, n⟩ K) : regA C R all (o :: rest) j ⟨t, h, n⟩ K := by
  simp only [regA, stepA, hg, hx, node, hd, updO]; exact .mk l (fun _ => ⟨hp, hl⟩) k
theorem rIdx {rows : List (List AV)} {i : Int} {f : List AV → Option AV} (row : List AV) (hg : o.guard = none) (hd : o.dst = some d) (hx : opA C (evA C t) h (n + j) o.op = .idx rows i f) (hi : 0 ≤ i ∧ rows[i.toNat]? = some row) (hf : f row = some x) (k : regA C R all rest (j + 1) ⟨upd t d x, h, n⟩ K) : regA C R all (o :: rest) j ⟨t, h, n⟩ K := by
  simp only [regA, stepA, hg, hx, node, hd, updO]; exact .mk row (fun _ => hi) (by rw [hf]; exact k)
theorem rIdxFx {rows : List (List AV)} {i : Int} {f : List AV → Option AH} (row : List AV) (hg : o.guard = none) (hd : o.dst = none) (hx : opA C (evA C t) h (n + j) o.op = .idxfx rows i f) (hi : 0 ≤ i ∧ rows[i.toNat]? = some row) (hf : f row = some h') (k : regA C R all rest (j + 1) ⟨t, h', n⟩ K) : regA C R all (o :: rest) j ⟨t, h, n⟩ K := by
  simp only [regA, stepA, hg, hx, node, hd, updO]; exact .mk row (fun _ => hi) (by rw [hf]; exact k)
theorem gOk {i e : Nat} {pol g : Bool} (hg : o.guard = some (i, pol)) (he : (all[i]?).bind (·.dst) = some e) (hgv : guardA (t e) pol = some g) (hc : condsO t o.op = none) (hd : o.dst = some d) (hx : opA C (evA C t) h (n + j) o.op = .ok x) (k : regA C R all rest (j + 1) ⟨upd t d (.opt g x), h, n⟩ K) : regA C R all (o :: rest) j ⟨t, h, n⟩ K := by
  simp only [regA, stepA, hg, he, hgv, hc, hx, nodeG, hd, updO]; exact .inl k
theorem gOkS {i e : Nat} {pol g c : Bool} (hg : o.guard = some (i, pol)) (he : (all[i]?).bind (·.dst) = some e) (hgv : guardA (t e) pol = some g) (hc : condsO t o.op = some c) (hs : g = true → c = true) (hd : o.dst = some d) (hx : opA C (evS C t o.op) h (n + j) o.op = .ok x) (k : regA C R all rest (j + 1) ⟨upd t d (.opt g x), h, n⟩ K) : regA C R all (o :: rest) j ⟨t, h, n⟩ K := by
  simp only [regA, stepA, hg, he, hgv, hc, hx, nodeG, hd, updO]; exact .mk hs k
theorem gNeedS {p : Prop} {i e : Nat} {pol g c : Bool} (hg : o.guard = some (i, pol)) (he : (all[i]?).bind (·.dst) = some e) (hgv : guardA (t e) pol = some g) (hc : condsO t o.op = some c) (hs : g = true → c = true) (hd : o.dst = some d) (hx : opA C (evS C t o.op) h (n + j) o.op = .need p x) (hp : g = true → p) (k : regA C R all rest (j + 1) ⟨upd t d (.opt g x), h, n⟩ K) : regA C R all (o :: rest) j ⟨t, h, n⟩ K := by
  simp only [regA, stepA, hg, he, hgv, hc, hx, nodeG, hd, updO]; exact .mk hs (.mk hp k)
theorem gCallS {f : FuncId} {args : List AV} {i e : Nat} {pol g c : Bool} (hg : o.guard = some (i, pol)) (he : (all[i]?).bind (·.dst) = some e) (hgv : guardA (t e) pol = some g) (hc : condsO t o.op = some c) (hs : g = true → c = true) (hd : o.dst = some d) (hx : opA C (evS C t o.op) h (n + j) o.op = .call f args) (hcl : closedL (datL h args) = true) (hf : noOwnL args = true ∨ (flatA x = true ∧ lenOkL h args)) (hr : closedA x = true) (hp : g = true → R f (datL h args) x) (k : regA C R all rest (j + 1) ⟨upd t d (.opt g x), h, n⟩ K) : regA C R all (o :: rest) j ⟨t, h, n⟩ K := by
  simp only [regA, stepA, hg, he, hgv, hc, hx, nodeG, hd, updO]; exact .mk hs (.mk x hcl hf hr hp k)
theorem gIdxS {rows : List (List AV)} {q : Int} {f : List AV → Option AV} (row : List AV) {i e : Nat} {pol g c : Bool} (hg : o.guard = some (i, pol)) (he : (all[i]?).bind (·.dst) = some e) (hgv : guardA (t e) pol = some g) (hc : condsO t o.op = some c) (hs : g = true → c = true) (hd : o.dst = some d) (hx : opA C (evS C t o.op) h (n + j) o.op = .idx rows q f) (hp : g = true → 0 ≤ q ∧ rows[q.toNat]? = some row) (hf : f row = some x) (k : regA C R all rest (j + 1) ⟨upd t d (.opt g x), h, n⟩ K) : regA C R all (o :: rest) j ⟨t, h, n⟩ K := by
  simp only [regA, stepA, hg, he, hgv, hc, hx, nodeG, hd, updO]; exact .mk hs (.mk row hp (by rw [hf]; exact k))
theorem cSeq {a b : Code} {st : ASt} (k : codeA C R a st (fun e st' => match e with | .normal => codeA C R b st' Q | e => Q e st')) : codeA C R (.seq a b) st Q := .inl k
theorem cSeqG {a b : Code} {st : ASt} (k : codeA C R a st (fun e st' => match e with | .normal => GhostN st' (fun st'' => codeA C R b st'' Q) | e => Q e st')) : codeA C R (.seq a b) st Q := .inr (.inl k)
theorem cSkip {st : ASt} (k : Q .normal st) : codeA C R .skip st Q := k
theorem cReg {id : Nat} {ops : Array Oper} {l : List Oper} {dr : Bool} {st : ASt} (hl : ops.toList = l) (k : regA (C.noHif dr) R l l 0 st (Q .normal)) (hd : (dr && lateR l) = false := by kernel_rfl) : codeA C R (.region id ops dr) st Q := by
  subst hl
  simp only [codeA, hd]
  exact .inl k
theorem cAny {id : Nat} {ops : Array Oper} {st : ASt} (k : anyA C R ops (Q .normal) ops.size (Array.replicate ops.size false) st) : codeA C R (.region id ops true) st Q := by
  simp only [codeA]
  split
  · exact .inl k
  · exact .inr ⟨trivial, k⟩
theorem cLate {id : Nat} {ops : Array Oper} {l : List Oper} {dr : Bool} {st : ASt} (hl : ops.toList = l) (hlt : C.lt = true) (k : regA C.noH R l l 0 st (fun st' => drawOk2 l st'.t = true ∧ Q .normal st')) (hd : (dr && lateR l) = true := by kernel_rfl) : codeA C R (.region id ops dr) st Q := by
  subst hl
  simp only [codeA, hd]
  exact .inr ⟨hlt, k⟩
theorem aGo {ops : Array Oper} {fuel : Nat} {listed : Array Bool} (l : List Nat) (hl : Region.ready .any ops listed = l) (hne : l.isEmpty = false) (k : forL (aOne C R ops (anyA C R ops K fuel) listed t h n) l) : anyA C R ops K (fuel + 1) listed ⟨t, h, n⟩ := by
  subst hl
  exact ⟨fun h => (by rw [h] at hne; cases hne), k⟩
theorem aEnd {ops : Array Oper} {listed : Array Bool} {n' : Nat} (hl : Region.ready .any ops listed = []) (e : n + ops.size = n') (k : K ⟨t, h, n'⟩) : anyA C R ops K 0 listed ⟨t, h, n⟩ := by subst e; exact ⟨hl, k⟩
section
variable {ops : Array Oper} {next : Array Bool → ASt → Prop} {listed : Array Bool} {i : Nat} {b : Bool}
theorem sOk (ho : ops[i]? = some o) (hb : aboveB listed i = b) (hg : o.guard = none) (hd : o.dst = some d) (hx : opA (C.noHif b) (evA (C.noHif b) t) h (n + i) o.op = .ok x) (k : next (listed.setIfInBounds i true) ⟨upd t d x, h, n⟩) : aOne C R ops next listed t h n i := by
  simp only [aOne, ho, stepA, hg, hb, hx, node, hd, updO]; exact k
theorem sNeed {p : Prop} (ho : ops[i]? = some o) (hb : aboveB listed i = b) (hg : o.guard = none) (hd : o.dst = some d) (hx : opA (C.noHif b) (evA (C.noHif b) t) h (n + i) o.op = .need p x) (hp : p) (k : next (listed.setIfInBounds i true) ⟨upd t d x, h, n⟩) : aOne C R ops next listed t h n i := by
  simp only [aOne, ho, stepA, hg, hb, hx, node, hd, updO]; exact (.mk (fun _ => hp) k)
theorem sgOk (ho : ops[i]? = some o) (hb : aboveB listed i = b) {e q : Nat} {pol : Bool} (hg : o.guard = some (q, pol)) (he : (ops.toList[q]?).bind (·.dst) = some e) (hgv : guardA (t e) pol = some true) (hc : condsO t o.op = none) (hd : o.dst = some d) (hx : opA (C.noHif b) (evA (C.noHif b) t) h (n + i) o.op = .ok x) (k : next (listed.setIfInBounds i true) ⟨upd t d x, h, n⟩) : aOne C R ops next listed t h n i := by
  simp only [aOne, ho, stepA, hg, he, hgv, hc, hb, hx, node, hd, updO]; exact .inr ⟨trivial, k⟩
theorem sgNeed {p : Prop} (ho : ops[i]? = some o) (hb : aboveB listed i = b) {e q : Nat} {pol : Bool} (hg : o.guard = some (q, pol)) (he : (ops.toList[q]?).bind (·.dst) = some e) (hgv : guardA (t e) pol = some true) (hc : condsO t o.op = none) (hd : o.dst = some d) (hx : opA (C.noHif b) (evA (C.noHif b) t) h (n + i) o.op = .need p x) (hp : p) (k : next (listed.setIfInBounds i true) ⟨upd t d x, h, n⟩) : aOne C R ops next listed t h n i := by
  simp only [aOne, ho, stepA, hg, he, hgv, hc, hb, hx, node, hd, updO]; exact .inr ⟨trivial, (.mk (fun _ => hp) k)⟩
theorem sgCall {f : FuncId} {args : List AV} (ho : ops[i]? = some o) (hb : aboveB listed i = b) {e q : Nat} {pol : Bool} (hg : o.guard = some (q, pol)) (he : (ops.toList[q]?).bind (·.dst) = some e) (hgv : guardA (t e) pol = some true) (hc : condsO t o.op = none) (hd : o.dst = some d) (hx : opA (C.noHif b) (evA (C.noHif b) t) h (n + i) o.op = .call f args) (hcl : closedL (datL h args) = true) (hf : noOwnL args = true ∨ (flatA x = true ∧ lenOkL h args)) (hr : closedA x = true) (hR : R f (datL h args) x) (k : next (listed.setIfInBounds i true) ⟨upd t d x, h, n⟩) : aOne C R ops next listed t h n i := by
  simp only [aOne, ho, stepA, hg, he, hgv, hc, hb, hx, node, hd, updO]; exact .inr ⟨trivial, (.inl (.mk x hcl hf hr (fun _ => hR) k))⟩
theorem sgIdx {rows : List (List AV)} {q1 : Int} {f : List AV → Option AV} (row : List AV) (ho : ops[i]? = some o) (hb : aboveB listed i = b) {e q : Nat} {pol : Bool} (hg : o.guard = some (q, pol)) (he : (ops.toList[q]?).bind (·.dst) = some e) (hgv : guardA (t e) pol = some true) (hc : condsO t o.op = none) (hd : o.dst = some d) (hx : opA (C.noHif b) (evA (C.noHif b) t) h (n + i) o.op = .idx rows q1 f) (hi : 0 ≤ q1 ∧ rows[q1.toNat]? = some row) (hf : f row = some x) (k : next (listed.setIfInBounds i true) ⟨upd t d x, h, n⟩) : aOne C R ops next listed t h n i := by
  simp only [aOne, ho, stepA, hg, he, hgv, hc, hb, hx, node, hd, updO]; exact .inr ⟨trivial, (.mk row (fun _ => hi) (by rw [hf]; exact k))⟩
theorem sfOk (ho : ops[i]? = some o) (hb : aboveB listed i = b) {e q : Nat} {pol : Bool} (hg : o.guard = some (q, pol)) (he : (ops.toList[q]?).bind (·.dst) = some e) (hgv : guardA (t e) pol = some false) (hc : condsO t o.op = none) (hd : o.dst = some d) (hx : opA (C.noHif b) (evA (C.noHif b) t) h (n + i) o.op = .ok x) (k : next (listed.setIfInBounds i true) ⟨upd t d (.opt false x), h, n⟩) : aOne C R ops next listed t h n i := by
  simp only [aOne, ho, stepA, hg, he, hgv, hc, hb, hx, nodeG, hd, updO]; exact .inl k
theorem sfCallS {f : FuncId} {args : List AV} {e q : Nat} {pol c : Bool} (ho : ops[i]? = some o) (hb : aboveB listed i = b) (hg : o.guard = some (q, pol)) (he : (ops.toList[q]?).bind (·.dst) = some e) (hgv : guardA (t e) pol = some false) (hc : condsO t o.op = some c) (hd : o.dst = some d) (hx : opA (C.noHif b) (evS (C.noHif b) t o.op) h (n + i) o.op = .call f args) (hcl : closedL (datL h args) = true) (hf : noOwnL args = true ∨ (flatA x = true ∧ lenOkL h args)) (hr : closedA x = true) (k : next (listed.setIfInBounds i true) ⟨upd t d (.opt false x), h, n⟩) : aOne C R ops next listed t h n i := by
  simp only [aOne, ho, stepA, hg, he, hgv, hc, hb, hx, nodeG, hd, updO]; exact .mk (fun h => Bool.noConfusion h) (.mk x hcl hf hr (fun h => Bool.noConfusion h) k)
theorem sgH {f : FuncId} {args : List AV} (Post : AV → AH → Prop) (ho : ops[i]? = some o) {e q : Nat} {pol : Bool} (hg : o.guard = some (q, pol)) (he : (ops.toList[q]?).bind (·.dst) = some e) (hgv : guardA (t e) pol = some true) (hc : condsO t o.op = none) (hd : o.dst = some d) (hx : opA C (evA C t) h (n + i) o.op = .call f args) (hb : aboveB listed i = false) (hH : C.H f args h (n + i) Post) (k : ∀ x h', Post x h' → next (listed.setIfInBounds i true) ⟨upd t d x, h', n⟩) : aOne C R ops next listed t h n i := by
  simp only [aOne, ho, stepA, hg, he, hgv, hc, hx, node, hd, updO, hb, Ctx.noHif]; exact .inr ⟨trivial, .inr (.mk Post hH k)⟩
end
theorem cCond {c : Operand} {a b : Code} {v : Bool} (hv : evA C t c = .v (.bool v)) (k1 : v = true → codeA C R a ⟨t, h, n⟩ Q) (k2 : v = false → codeA C R b ⟨t, h, n⟩ Q) : codeA C R (.cond c a b) ⟨t, h, n⟩ Q := by
  simp only [codeA, hv]; exact .mk k1 k2
theorem cBlock {id : Nat} {b : Code} {st : ASt} (k : codeA C R b st (fun e st' => match e with | .exit i => (match Nat.beq i id with | true => Q .normal st' | false => Q (.exit i) st') | e => Q e st')) : codeA C R (.block id b) st Q := k
theorem cExit {id : Nat} {st : ASt} (k : Q (.exit id) st) : codeA C R (.exit id) st Q := k
theorem cRet {st : ASt} (k : Q .ret st) : codeA C R .ret st Q := k
end
inductive Rep (S : Nat → Prop) (w : World) : Bt → AV → Value → Prop
  | v {β : Bt} (x : Value) : Rep S w β (.v x) x
  | agg {β : Bt} (cs : List AV) (vs : Array Value) (hl : cs.length = vs.size) (h1 : ∀ (i : Nat) u, vs[i]? = some u → u.oneCell' = true) (h : ∀ (i : Nat) a u, cs[i]? = some a → vs[i]? = some u → Rep S w β a u) : Rep S w β (.agg cs) (.agg vs)
  | tup {β : Bt} (cs : List AV) (vs : Array Value) (hl : cs.length = vs.size) (h : ∀ (i : Nat) a u, cs[i]? = some a → vs[i]? = some u → Rep S w β a u) : Rep S w β (.tup cs) (.tuple vs)
  | sl {β : Bt} (rs : Nat) (rows : List (List AV)) (clip : Bool) (A : Option Addr) (c b o : Nat) (u : Nat → Nat → Value) (hc : rows.length ≤ c) (hm : c ≤ maxLen) (hcl : clip = true → c = rows.length)
      (hrs : ∀ row ∈ rows, row.length = rs) (hA : 0 < rows.length → A = some ⟨b, o, none⟩ ∧ S b)
      (hw : ∀ (i : Nat) row (j : Nat) a, rows[i]? = some row → row[j]? = some a → w.cell? ⟨b, o + i * rs + j, none⟩ = some (u i j))
      (h1 : ∀ i j, (u i j).oneCell' = true)
      (hr : ∀ (i : Nat) row (j : Nat) a, rows[i]? = some row → row[j]? = some a → Rep S w noB a (u i j)) : Rep S w β (.sl rs rows clip) (.slice A rows.length c)
  | dp {β : Bt} (rs col : Nat) (row : List AV) (b o : Nat) (u : Nat → Value) (hrs : row.length = rs) (hb : S b) (hw : ∀ (j : Nat) a, row[j]? = some a → w.cell? ⟨b, o + j, none⟩ = some (u j))
      (h1 : ∀ j, (u j).oneCell' = true)
      (hr : ∀ (j : Nat) a, row[j]? = some a → Rep S w noB a (u j)) : Rep S w β (.dp rs col row) (.pointer (some ⟨b, o + col, none⟩))
  | ptr {β : Bt} (s col : Nat) (l : Loc) (hl : β s = some l) : Rep S w β (.ptr s col) (.pointer (some ⟨l.blk, l.base + col, none⟩))
  | ptr2 {β : Bt} (s row col : Nat) (l : Loc) (hl : β s = some l) : Rep S w β (.ptr2 s row col) (.pointer (some ⟨l.blk, l.base + row * l.rs + col, none⟩))
  | osl {β : Bt} (s lo len : Nat) (clip : Bool) (l : Loc) (A : Option Addr) (c : Nat) (hl : β s = some l) (hc : len ≤ c) (hm : c ≤ maxLen) (hcl : clip = true → c = len) (hA : 0 < c → A = some ⟨l.blk, l.base + lo * l.rs, none⟩)
      (cs : Array Value) (e : TypeId) (fr : Nat × Nat) (hb : w.heap[l.blk]? = some (.cells cs e fr)) (room : l.base + (lo + c) * l.rs ≤ cs.size) : Rep S w β (.osl s lo len clip) (.slice A len c)
  | clo {β : Bt} (f : FuncId) (first caps : List AV) (vs us : Array Value) (hl : first.length = vs.size) (h : ∀ (i : Nat) a u, first[i]? = some a → vs[i]? = some u → Rep S w β a u)
      (hl' : caps.length = us.size) (h' : ∀ (i : Nat) a u, caps[i]? = some a → us[i]? = some u → Rep S w β a u) : Rep S w β (.clo f first caps) (.func (.func f) vs us)
  | optT {β : Bt} (g : Bool) (a : AV) (x : Value) (hg : g = true) (h : Rep S w β a x) : Rep S w β (.opt g a) x
  | optF {β : Bt} (g : Bool) (a : AV) (hg : g = false) : Rep S w β (.opt g a) undef
  | any {β : Bt} (x : Value) : Rep S w β .any x
theorem lt_of_heap {w : World} {b : Nat} {o : Obj} (h : w.heap[b]? = some o) : b < w.heap.size := by
  rcases Nat.lt_or_ge b w.heap.size with k | k
  · exact k
  · rw [Array.getElem?_eq_none k] at h; cases h
structure Evo (S : Nat → Prop) (w w' : World) : Prop where
  stable : ∀ b, S b → w'.heap[b]? = w.heap[b]?
  shape : ∀ (b : Nat) (cs : Array Value) (e : TypeId) (fr : Nat × Nat), w.heap[b]? = some (Obj.cells cs e fr) → ∃ cs' : Array Value, w'.heap[b]? = some (Obj.cells cs' e fr) ∧ cs'.size = cs.size
theorem Evo.refl (S : Nat → Prop) (w : World) : Evo S w w := ⟨fun _ _ => rfl, fun _ cs _ _ h => ⟨cs, h, rfl⟩⟩
theorem Evo.trans {S S' : Nat → Prop} {a b c : World} (h : Evo S a b) (hS : ∀ x, S x → S' x) (k : Evo S' b c) : Evo S a c :=
  ⟨fun x hx => (k.stable x (hS x hx)).trans (h.stable x hx), fun x cs e fr hx => by
    obtain ⟨c1, h1, h2⟩ := h.shape x cs e fr hx
    obtain ⟨c2, h3, h4⟩ := k.shape x c1 e fr h1
    exact ⟨c2, h3, h4.trans h2⟩⟩
theorem Evo.of_kept {S : Nat → Prop} {w w' : World} (h : ∀ b, b < w.heap.size → w'.heap[b]? = w.heap[b]?) (hS : ∀ b, S b → b < w.heap.size) : Evo S w w' :=
  ⟨fun b hb => h b (hS b hb), fun b cs _ _ hb => ⟨cs, (h b (lt_of_heap hb)).trans hb, rfl⟩⟩
def BtLe (β β' : Bt) : Prop := ∀ s l, β s = some l → β' s = some l
theorem BtLe.refl (β : Bt) : BtLe β β := fun _ _ h => h
theorem BtLe.trans {a b c : Bt} (h : BtLe a b) (k : BtLe b c) : BtLe a c := fun s l x => k s l (h s l x)
theorem cell_of_heap {w w' : World} {b o : Nat} (h : w'.heap[b]? = w.heap[b]?) : w'.cell? ⟨b, o, none⟩ = w.cell? ⟨b, o, none⟩ := by simp only [World.cell?, h]
theorem Rep.mono {S S' : Nat → Prop} {w w' : World} {β : Bt} {a : AV} {x : Value} (h : Rep S w β a x) (hS : ∀ b, S b → S' b) (hE : Evo S w w') : ∀ {β' : Bt}, BtLe β β' → Rep S' w' β' a x := by
  induction h with
  | v x => intro β' _; exact .v x
  | agg cs vs hl h1 h ih => intro β' hb; exact .agg cs vs hl h1 fun i a u h1 h2 => ih i a u h1 h2 hb
  | tup cs vs hl h ih => intro β' hb; exact .tup cs vs hl fun i a u h1 h2 => ih i a u h1 h2 hb
  | sl rs rows clip A c b o u hc hm hcl hrs hA hw h1 hr ih =>
    intro β' _
    refine .sl rs rows clip A c b o u hc hm hcl hrs (fun h0 => ⟨(hA h0).1, hS _ (hA h0).2⟩) (fun i row j a h1 h2 => ?_) h1 fun i row j a h1 h2 => ih i row j a h1 h2 (BtLe.refl _)
    have h0 : 0 < rows.length := Nat.lt_of_le_of_lt (Nat.zero_le i) (List.getElem?_eq_some_iff.1 h1).1
    rw [cell_of_heap (hE.stable b (hA h0).2)]
    exact hw i row j a h1 h2
  | dp rs col row b o u hrs hb hw h1 hr ih =>
    intro β' _
    exact .dp rs col row b o u hrs (hS _ hb) (fun j a h1 => by rw [cell_of_heap (hE.stable b hb)]; exact hw j a h1) h1 fun j a h1 => ih j a h1 (BtLe.refl _)
  | ptr s col l hl => intro β' hb; exact .ptr s col l (hb _ _ hl)
  | ptr2 s row col l hl => intro β' hb; exact .ptr2 s row col l (hb _ _ hl)
  | osl s lo len clip l A c hl hc hm hcl hA cs e fr hb room =>
    intro β' hβ
    obtain ⟨cs', h1, h2⟩ := hE.shape _ _ _ _ hb
    exact .osl s lo len clip l A c (hβ _ _ hl) hc hm hcl hA cs' e fr h1 (by rw [h2]; exact room)
  | clo f first caps vs us hl h hl' h' ih ih' => intro β' hb; exact .clo f first caps vs us hl (fun i a u h1 h2 => ih i a u h1 h2 hb) hl' fun i a u h1 h2 => ih' i a u h1 h2 hb
  | optT g a x hg h ih => intro β' hb; exact .optT g a x hg (ih hb)
  | optF g a hg => intro β' _; exact .optF g a hg
  | any x => intro β' _; exact .any x
def RepL (S : Nat → Prop) (w : World) (β : Bt) (cs : List AV) (vs : List Value) : Prop := cs.length = vs.length ∧ ∀ (i : Nat) a u, cs[i]? = some a → vs[i]? = some u → Rep S w β a u
theorem RepL.mono {S S' : Nat → Prop} {w w' : World} {β β' : Bt} {cs : List AV} {vs : List Value} (h : RepL S w β cs vs) (hS : ∀ b, S b → S' b) (hE : Evo S w w') (hb : BtLe β β') : RepL S' w' β' cs vs :=
  ⟨h.1, fun i a u h1 h2 => (h.2 i a u h1 h2).mono hS hE hb⟩
theorem RepL.nil (S : Nat → Prop) (w : World) (β : Bt) : RepL S w β [] [] := ⟨rfl, fun i a u h => by simp at h⟩
theorem RepL.cons {S : Nat → Prop} {w : World} {β : Bt} {a : AV} {u : Value} {cs : List AV} {vs : List Value} (h : Rep S w β a u) (k : RepL S w β cs vs) : RepL S w β (a :: cs) (u :: vs) :=
  ⟨by simp [k.1], fun i a' u' h1 h2 => by
    cases i with
    | zero => simp at h1 h2; subst h1 h2; exact h
    | succ i => simp at h1 h2; exact k.2 i a' u' h1 h2⟩
def InBlk (S : Nat → Prop) (w : World) (β : Bt) (l : Loc) (cs : Array Value) : Blk → Prop
  | .box cells => ∀ (j : Nat) a, cells[j]? = some a → ∃ u, cs[l.base + j]? = some u ∧ u.oneCell' = true ∧ Rep S w β a u
  | .arr rows rs => l.rs = rs ∧ (∀ row ∈ rows, row.length = rs) ∧ ∀ (i : Nat) row (j : Nat) a, rows[i]? = some row → row[j]? = some a → ∃ u, cs[l.base + i * rs + j]? = some u ∧ u.oneCell' = true ∧ Rep S w noB a u
  | .row cells => l.rs = 1 ∧ ∀ (j : Nat) a, cells[j]? = some a → ∃ u, cs[l.base + j]? = some u ∧ u.oneCell' = true ∧ Rep S w β a u
structure SimH (B : Nat) (S : Nat → Prop) (w : World) (β : Bt) (h : AH) : Prop where
  own : ∀ s blk, h s = some blk → ∃ l cs e fr, β s = some l ∧ w.heap[l.blk]? = some (.cells cs e fr) ∧ (∀ o, o < cs.size → (decide (fr.1 ≤ o) && decide (o < fr.2)) = false) ∧ B ≤ l.blk ∧ ¬ S l.blk ∧ InBlk S w β l cs blk
  inj : ∀ s s' l l', h s ≠ none → h s' ≠ none → β s = some l → β s' = some l' → l.blk = l'.blk → s = s'
  lt : ∀ b, S b → b < w.heap.size
  big : B ≤ w.heap.size
theorem InBlk.mono {S S' : Nat → Prop} {w w' : World} {β β' : Bt} {l : Loc} {cs : Array Value} {blk : Blk} (h : InBlk S w β l cs blk) (hS : ∀ b, S b → S' b) (hE : Evo S w w') (hb : BtLe β β') : InBlk S' w' β' l cs blk := by
  cases blk with
  | box cells => exact fun j a h1 => let ⟨u, h2, h4, h3⟩ := h j a h1; ⟨u, h2, h4, h3.mono hS hE hb⟩
  | arr rows rs => exact ⟨h.1, h.2.1, fun i row j a h1 h2 => let ⟨u, h3, h5, h4⟩ := h.2.2 i row j a h1 h2; ⟨u, h3, h5, h4.mono hS hE (BtLe.refl _)⟩⟩
  | row cells => exact ⟨h.1, fun j a h1 => let ⟨u, h2, h4, h3⟩ := h.2 j a h1; ⟨u, h2, h4, h3.mono hS hE hb⟩⟩
theorem cell_of_cells {w : World} {b : Nat} {cs : Array Value} {e : TypeId} {fr : Nat × Nat} (h : w.heap[b]? = some (.cells cs e fr)) (o : Nat) : w.cell? ⟨b, o, none⟩ = cs[o]? := by simp [World.cell?, h]
theorem frozen_of_cells {w : World} {b : Nat} {cs : Array Value} {e : TypeId} {fr : Nat × Nat} (h : w.heap[b]? = some (.cells cs e fr)) (hf : ∀ o, o < cs.size → (decide (fr.1 ≤ o) && decide (o < fr.2)) = false) (o : Nat) (ho : o < cs.size) : w.frozen? ⟨b, o, none⟩ = false := by
  simp only [World.frozen?, h]; exact hf o ho
structure StepK (B : Nat) (S : Nat → Prop) (w : World) (β : Bt) (s : Nat) (S' : Nat → Prop) (w' : World) (β' : Bt) : Prop where
  hS : ∀ b, S b → S' b
  hE : Evo S w w'
  hB : Below B w w'
  hle : BtLe β β'
  hdom : ∀ x l, β' x = some l → β x = some l ∨ (x = s ∧ (w.heap.size ≤ l.blk ∨ ∃ y k, β y = some k ∧ k.blk = l.blk))
  hN : ∀ b, S' b → S b ∨ (B ≤ b ∧ (w.heap.size ≤ b ∨ ∃ y k, β y = some k ∧ k.blk = b))
  hO : ∀ b, b < w.heap.size → (∀ y k, β y = some k → k.blk ≠ b) → w'.heap[b]? = w.heap[b]?
structure Inv (fr : Nat) where
  p : (Nat → Prop) → World → Bt → Prop
  mono : ∀ {B : Nat} {S : Nat → Prop} {w : World} {β : Bt} {s : Nat} {S' : Nat → Prop} {w' : World} {β' : Bt}, p S w β → StepK B S w β s S' w' β' → p S' w' β'
  weak : ∀ {S : Nat → Prop} {w : World} {β : Bt} {σ : Nat → Nat} {n : Nat}, p S w β → keepB fr σ n = true → p S w (fun s => if s < n then β (σ s) else none)
  frz : ∀ {S : Nat → Prop} {w : World} {β : Bt} {x : Nat} {l : Loc}, p S w β → β x = some l → p (fun b => S b ∨ b = l.blk) w β
  heap : ∀ {S : Nat → Prop} {w w' : World} {β : Bt}, p S w β → w'.heap = w.heap → p S w' β
def Inv.any (fr : Nat) : Inv fr := ⟨fun _ _ _ => True, fun _ _ => trivial, fun _ _ => trivial, fun _ _ => trivial, fun _ _ => trivial⟩
def GRow (S : Nat → Prop) (w : World) (g : Nat) (cells : List AV) : Prop := Rep S w noB (.dp cells.length 0 cells) (.pointer (some ⟨g, 0, none⟩)) ∧ ∃ cs e fr, w.heap[g]? = some (.cells cs e fr) ∧ cs.size = cells.length
theorem GRow.mono {S S' : Nat → Prop} {w w' : World} {g : Nat} {cells : List AV} (h : GRow S w g cells) (hS : ∀ b, S b → S' b) (hE : Evo S w w') (hb : BtLe noB noB) : GRow S' w' g cells := by
  obtain ⟨h1, cs, e, fr, h2, h3⟩ := h
  refine ⟨h1.mono hS hE hb, cs, e, fr, ?_, h3⟩
  have hg : S g := by
    generalize hp : Value.pointer (some (⟨g, 0, none⟩ : Addr)) = p at h1
    cases h1 with
    | dp _ _ _ b o u hrs hb hw h1 hr => simp only [Value.pointer.injEq, Option.some.injEq, Addr.mk.injEq] at hp; rw [hp.1]; exact hb
  rw [hE.stable g hg]; exact h2
def GOkG (G : Nat → Option (List AV)) (S : Nat → Prop) (w : World) : Prop := ∀ g cells, G g = some cells → GRow S w g cells
def HSem (P : Program) (G : Nat → Option (List AV)) (f : FuncId) (args : List AV) (h : AH) (s : Nat) (Post : AV → AH → Prop) : Prop :=
  (∃ fn, P.funcs[f]? = some fn ∧ fn.body.isSome = true ∧ (fn.name == "runtime.NumGoroutine") = false) ∧
  ∀ (B : Nat) (S : Nat → Prop) (w : World) (β : Bt) (vs : List Value), SimH B S w β h → (∀ x l, β x = some l → x < s) → GOkG G S w → RepL S w β args vs →
    Calls P f vs.toArray w fun e w' => ∃ v S' β' r h', Post r h' ∧ e = .returned v ∧ Rep S' w' β' r v ∧ SimH B S' w' β' h' ∧ StepK B S w β s S' w' β'
structure CellL (S : Nat → Prop) (w : World) (β : Bt) (cs : List AV) (vs : List Value) : Prop where
  rep : RepL S w β cs vs
  one : ∀ (i : Nat) u, vs[i]? = some u → u.oneCell' = true
end Go.Proofs.YtpefnjbmbfdmmaaDoor
