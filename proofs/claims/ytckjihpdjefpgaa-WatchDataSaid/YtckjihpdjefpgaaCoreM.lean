/- The core told plainly: its parts, and what each of its functions makes of them. -/
import Derived.Test.YtckjihpdjefpgaaSeqM
namespace Go.Proofs.Ytckjihpdjefpgaa
open Go.RowKit

/-! ### parts -/
structure Req where
  kind : Int
  line : Nat
  left : Int
  data : ByteArray
structure Wy where
  line : Nat
  dirty : Bool
  data : ByteArray
structure Ca where
  ways : Int
  sets : List (List Wy)
structure Pt where
  addr : Nat
  data : ByteArray
structure Gs where
  pc : Nat
  next : Nat
structure Gu where
  slots : List Gs
  hist : Nat
  rets : List Nat
structure Ft where
  pc : Nat
  guess : Nat
structure Cf where
  mode : Int
  width : Int
  rob : Int
  queue : Int
  stores : Int
  slots : Int
  sets : Int
  ways : Int
  lat : List Int
  tables : Bool
  tape : List Nat
structure Ent where
  no : Int
  pc : Nat
  i : SI
  guess : Nat
  is : Int
  left : Int
  value : Nat
  next : Nat
  addr : Nat
  halt : Int
  took : Int
  known : Bool
  filled : Bool
structure Co where
  conf : Cf
  prog : List Nat
  cycle : Int
  r : Nat → Nat
  fetch : Nat
  stop : Bool
  fetched : List Ft
  rob : List Ent
  next : Int
  stores : List Pt
  data : Ca
  words : Ca
  bus : List Req
  asked : Int
  guessed : Int
  mem : ByteArray
  guess : Gu
  halt : Int
  retired : List Sp

def noB0 : ByteArray := ⟨#[]⟩
def noEnt : Ent := ⟨0, 0, noSI, 0, 0, 0, 0, 0, 0, 0, 0, false, false⟩
def noReq : Req := ⟨0, 0, 0, noB0⟩
def noWy : Wy := ⟨0, false, noB0⟩

/-! ### shapes -/
def clampI (n lo hi : Int) : Int := if (if n < lo then lo else n) > hi then hi else (if n < lo then lo else n)
def cleanCf (c : Cf) : Cf :=
  { mode := clampI c.mode 0 2, width := clampI c.width 1 2, rob := clampI c.rob 2 8, queue := clampI c.queue 1 4, stores := clampI c.stores 1 4, slots := clampI c.slots 2 6
    sets := if clampI c.sets 1 4 = 3 then 2 else clampI c.sets 1 4, ways := clampI c.ways 1 2
    lat := (c.lat.take 64).map fun n => clampI n 1 8, tables := c.tables, tape := c.tape.take 64 }
def inI (n lo hi : Int) : Bool := decide (n ≥ lo) && decide (n ≤ hi)
def rightCf (c : Cf) : Bool :=
  (c.lat.all fun n => inI n 1 8) && inI c.mode 0 2 && inI c.width 1 2 && inI c.rob 2 8 && inI c.queue 1 4 && inI c.stores 1 4 && inI c.slots 2 6 && inI c.sets 1 4 && decide (c.sets ≠ 3) && inI c.ways 1 2 && decide (c.lat.length ≤ 64) && decide (c.tape.length ≤ 64)
def latCf (c : Cf) (k : Int) : Int :=
  match (cleanCf c).lat with
  | [] => 1
  | l => l.getD ((max k 0).toNat % l.length) 1
def tapeCf (c : Cf) (k : Int) (pc : Nat) : Nat :=
  match (cleanCf c).tape with
  | [] => up4 pc
  | l => l.getD ((max k 0).toNat % l.length) 0

/-! ### the bus -/
def lineOf (a : Nat) : Nat := a - a % 16
def pushQ (q : List Req) (kind : Int) (line : Nat) (left : Int) (data : ByteArray) : List Req := q ++ [⟨kind, line, max left 1, data⟩]
def tickQ (q : List Req) : List Req × Req × Bool :=
  match q with
  | [] => ([], noReq, false)
  | x :: r => if wrap64 (x.left - 1) > 0 then ({ x with left := wrap64 (x.left - 1) } :: r, noReq, false) else (r, { x with left := wrap64 (x.left - 1) }, true)
def hasQ (q : List Req) (line : Nat) (kind : Int) : Bool := q.any fun x => decide (x.line = line) && decide (x.kind = kind)
def readsQ (q : List Req) : Nat := (q.filter fun x => decide (x.kind ≠ 4)).length

/-! ### caches -/
def setOf (c : Ca) (line : Nat) : Nat := line / 16 % c.sets.length
def placeW : List Wy → Nat → Option Nat
  | [], _ => none
  | w :: l, line => if w.line = line then some 0 else (placeW l line).map (· + 1)
def rightSet (c : Ca) (k : Nat) (set : List Wy) : Bool :=
  decide ((set.length : Int) ≤ c.ways) && (List.range set.length).all fun at_ => match set[at_]? with
    | some w => decide (lineOf w.line = w.line) && decide (setOf c w.line = k) && (decide (w.data.size = 0) || decide (w.data.size = 16)) && (placeW (set.take at_) w.line).isNone
    | none => true
def rightCa (c : Ca) : Bool :=
  (decide (c.sets.length = 1) || decide (c.sets.length = 2) || decide (c.sets.length = 4)) && (decide (c.ways = 1) || decide (c.ways = 2)) && (List.range c.sets.length).all fun k => match c.sets[k]? with
    | some s => rightSet c k s
    | none => true
def newCa (sets ways : Int) : Ca := ⟨clampI ways 1 2, List.replicate (if clampI sets 1 4 = 3 then 2 else clampI sets 1 4).toNat []⟩
def frontL {α : Type} (l : List α) (k : Nat) : List α := (match l[k]? with | some x => [x] | none => []) ++ l.take k ++ l.drop (k + 1)
def withCa (c : Ca) (k : Nat) (set : List Wy) : Ca := ⟨c.ways, c.sets.set k set⟩
/-- Where a line stands: its set, its place there; none: nowhere. -/
def findCa (c : Ca) (line : Nat) : Nat × Option Nat :=
  if rightCa c = true then (setOf c (lineOf line), placeW ((c.sets[setOf c (lineOf line)]?).getD []) (lineOf line)) else (0, none)
def setAt (c : Ca) (k : Nat) : List Wy := (c.sets[k]?).getD []
def touchCa (c : Ca) (line : Nat) : Ca :=
  match findCa c line with
  | (k, some j) => withCa c k (frontL (setAt c k) j)
  | (_, none) => c
def putData (d : ByteArray) : ByteArray := if d.size = 16 then d else noB0
def modHd {α : Type} (f : α → α) : List α → List α
  | [] => []
  | x :: l => f x :: l
def putCa (c : Ca) (line : Nat) (data : ByteArray) (dirty : Bool) : Ca × Wy × Bool :=
  if rightCa c = true then
    match findCa c line with
    | (k, some j) => (withCa c k (modHd (fun w => { w with data := if (putData data).size = 0 then w.data else putData data, dirty := w.dirty || dirty }) (frontL (setAt c k) j)), noWy, false)
    | (k, none) =>
      if ((setAt c k).length : Int) = c.ways then
        (withCa c k (⟨lineOf line, dirty, putData data⟩ :: (setAt c k).dropLast), (setAt c k).getLast?.getD noWy, true)
      else (withCa c k (⟨lineOf line, dirty, putData data⟩ :: setAt c k), noWy, false)
  else (c, noWy, false)
def spliceB (d : ByteArray) (from_ : Nat) (b : ByteArray) : ByteArray := d.extract 0 from_ ++ b ++ d.extract (from_ + b.size) d.size
def writeCa (c : Ca) (addr : Nat) (bytes : ByteArray) : Ca × Bool :=
  match findCa c addr with
  | (k, some j) =>
    match (setAt c k)[j]? with
    | some w => if w.data.size = 0 ∨ bytes.size + addr % 16 > 16 then (c, false)
      else (withCa c k (modHd (fun w => { w with data := spliceB w.data (addr % 16) bytes, dirty := true }) (frontL (setAt c k) j)), true)
    | none => (c, false)
  | (_, none) => (c, false)
def cleanCa (c : Ca) (line : Nat) : Ca :=
  match findCa c line with
  | (k, some j) => withCa c k ((setAt c k).modify j fun w => { w with dirty := false })
  | (_, none) => c
def dirtyCa (c : Ca) : Option Wy := if rightCa c = true then c.sets.flatten.find? (·.dirty) else none
def tagsCa (c : Ca) : List (List Wy) := if rightCa c = true then c.sets.map fun s => s.map fun w => { w with data := noB0 } else []

/-! ### what memory is -/
def overOne (m : ByteArray) (p : Pt) : ByteArray :=
  if p.addr < m.size then m.extract 0 p.addr ++ p.data.extract 0 (min p.data.size (m.size - p.addr)) ++ m.extract (p.addr + min p.data.size (m.size - p.addr)) m.size else m
def overM (m : ByteArray) (l : List Pt) : ByteArray := l.foldl overOne m
def writesQ (q : List Req) : List Pt := (q.filter fun x => decide (x.kind = 4)).map fun x => ⟨x.line, x.data⟩
def belowM (q : List Req) (m : ByteArray) : ByteArray := overM m (writesQ q)
def linesCa (c : Ca) : List Pt := c.sets.flatten.map fun w => ⟨w.line, w.data⟩
def underM (c : Ca) (q : List Req) (m : ByteArray) : ByteArray := overM (belowM q m) (linesCa c)
def allM (stores : List Pt) (c : Ca) (q : List Req) (m : ByteArray) : ByteArray := overM (underM c q m) stores
def cutM (m : ByteArray) (line : Nat) : ByteArray := if lineOf line < m.size then m.extract (lineOf line) (lineOf line + min (m.size - lineOf line) 16) else noB0

/-! ### guesses -/
def newGu : Gu := ⟨List.replicate 8 ⟨0, 0⟩, 0, []⟩
def rightGu (g : Gu) : Bool := decide (g.slots.length = 8) && decide (g.hist < 8) && decide (g.rets.length ≤ 4)
def slotOf (g : Gu) (pc : Nat) : Nat := (pc / 4 ^^^ g.hist) % 8
def callsJ (i : SI) : Bool := (decide (i.op = 3) || decide (i.op = 4)) && decide (i.rd = 1)
def backJ (i : SI) : Bool := decide (i.op = 4) && decide (i.rd = 0) && decide (i.rs1 = 1)
def nextGu (g : Gu) (pc : Nat) (i : SI) : Nat :=
  if rightGu g = true ∧ kindOf i.op = 5 then
    if backJ i = true ∧ 0 < g.rets.length then g.rets.getLast?.getD 0
    else match g.slots[slotOf g pc]? with
      | some s => if s.pc = pc ∧ ¬ (s.pc = 0 ∧ s.next = 0) then s.next else up4 pc
      | none => up4 pc
  else up4 pc
def trainGu (g : Gu) (pc next : Nat) (i : SI) : Gu :=
  if rightGu g = true ∧ kindOf i.op = 5 then
    { slots := g.slots.set (slotOf g pc) ⟨pc, next⟩
      hist := (2 * g.hist + (if next ≠ up4 pc then 1 else 0)) % 8
      rets := if callsJ i = true then (if (g.rets ++ [up4 pc]).length > 4 then (g.rets ++ [up4 pc]).drop 1 else g.rets ++ [up4 pc])
        else if backJ i = true ∧ 0 < g.rets.length then g.rets.dropLast else g.rets }
  else g
end Go.Proofs.Ytckjihpdjefpgaa
