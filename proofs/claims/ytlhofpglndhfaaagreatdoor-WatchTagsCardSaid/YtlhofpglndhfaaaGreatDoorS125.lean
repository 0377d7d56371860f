/- Joined texts. -/
import Derived.WalkKit
import Derived.Orders
import Derived.KernelRfl
import Derived.Deep.MidRow
import Derived.Deep.AppendSrc
import Derived.Laws.MakeOwn
import Derived.Great.BuildSlice
import Derived.Test.YtlhofpglndhfaaaGreatDoorS101
import Derived.Test.YtlhofpglndhfaaaGreatDoorS102
set_option linter.unusedVariables false
set_option linter.unusedSimpArgs false
namespace Go.Proofs.YtlhofpglndhfaaaGreatDoor
open Go.RowKit
inductive AV where
 |v (x:Value)
 |agg (cs:List AV)
 |tup (cs:List AV)
 |sl (rs:Nat) (rows:List (List AV)) (clip:Bool)
 |dp (rs col:Nat) (row:List AV)
 |ptr (s col:Nat)
 |ptr2 (s row col:Nat)
 |osl (s lo len:Nat) (clip:Bool)
 |clo (f:FuncId) (first caps:List AV)
 |opt (g:Bool) (x:AV)
 |any
inductive Blk where
 |box (cells:List AV)
 |arr (rows:List (List AV)) (rs:Nat)
 |row (cells:List AV)
abbrev AH:=Nat→Option Blk
structure Loc where
 blk:Nat
 base:Nat
 rs:Nat
abbrev Bt:=Nat→Option Loc
def noB:Bt:=λ _=>none
structure ASt where
 t:Nat→AV
 h:AH
 n:Nat
inductive Kd where
 |bool|int (k:IntKind)|string|slice (e:TypeId)|array (n:Nat) (e:TypeId)|struct (fs:List (Nat×TypeId))|pointer|func|other
inductive CK where
 |b|i|s
structure TI where
 kd:Kd
 sz:Nat
 ag:Bool
 zero:AV
 bytes:Nat
 eq:List CK
structure Ctx where
 P:Program
 ty:TypeId→Option TI
 G:Nat→Option (List AV)
 df:List Deferred:=[]
 lt:Bool:=false
 H:FuncId→List AV→AH→Nat→(AV→AH→Prop)→Prop:=λ _ _ _ _ _=>False
 fr:Nat:=0
@[reducible] def Ctx.noH(C:Ctx):Ctx:={C with H:=λ _ _ _ _ _=>False}
@[reducible] def Ctx.noHif(dr:Bool)(C:Ctx):Ctx:=match dr with|true=>C.noH|false=>C
inductive Need(g:Bool)(p K:Prop):Prop
 |mk (hp:g=true→p) (hk:K):Need g p K
inductive Branch(b:Bool)(X Y:Prop):Prop
 |mk (h1:b=true→X) (h2:b=false→Y):Branch b X Y
inductive IdxN(g:Bool)(rows:List (List AV))(i:Int)(K:List AV→Prop):Prop
 |mk (row:List AV) (h:g=true→0≤i∧rows[i.toNat]?=some row) (hk:K row):IdxN g rows i K
def upd{α:Type}(f:Nat→α)(i:Nat)(x:α):Nat→α:=λ j=>match Nat.beq j i with|true=>x|false=>f j
def yU(f:Nat→AV)(i:Option Nat)(x:AV):Nat→AV:=match i with|some i=>upd f i x|none=>f
def Lw:List AV→Nat→Option AV
 |[],_=>none
 |x::_,0=>some x
 |_::xs,n+1=>Lw xs n
def GM:Nat→List AV→List AV
 |0,_=>[]
 |_+1,[]=>[]
 |n+1,x::xs=>x::GM n xs
def EN:Nat→List AV→List AV
 |0,xs=>xs
 |_+1,[]=>[]
 |n+1,_::xs=>EN n xs
def yV:Nat→List AV→List AV→List AV
 |0,[],xs=>xs
 |0,c::cs,_::xs=>c::yV 0 cs xs
 |0,_::_,[]=>[]
 |n+1,cs,x::xs=>x::yV n cs xs
 |_+1,_,[]=>[]
def Xg:Value→AV
 | .slice none 0 0=>.sl 0 [] true
 |x=>.v x
def WR:List Value→Bool
 |[]=>true
 |v::vs=>match v.oneCell' with|true=>WR vs|false=>false
def NM:Value→AV
 | .slice none 0 0=>.sl 0 [] true
 | .agg cs=>match WR cs.toList with|true=>.agg (cs.toList.map Xg)|false=>.any
 |x=>.v x
def kL:AV→Option (List AV)
 | .agg cs=>some cs
 | .v (.agg _)| .v (.tuple _)=>none
 | .v x=>some [.v x]
 | .sl a b c=>some [.sl a b c]
 | .dp a b c=>some [.dp a b c]
 | .ptr a b=>some [.ptr a b]
 | .ptr2 a b c=>some [.ptr2 a b c]
 | .osl a b c d=>some [.osl a b c d]
 | .clo a b c=>some [.clo a b c]
 |_=>none
inductive Res where
 |bad
 |ok (x:AV)
 |need (p:Prop) (x:AV)
 |idx (rows:List (List AV)) (i:Int) (f:List AV→Option AV)
 |fx (p:Prop) (x:AV) (h:AH)
 |idxfx (rows:List (List AV)) (i:Int) (f:List AV→Option AH)
 |str (p:Prop) (rows:List (List AV))
 |call (f:FuncId) (args:List AV)
def cZ(c x y:Bool):Bool:=match c with|true=>x|false=>y
def GN(op:BinOp)(k:IntKind)(a b:Int):Res:=
 match op with
 | .add=>.ok (.v (.int k (k.wrap (a+b))))
 | .sub=>.ok (.v (.int k (k.wrap (a - b))))
 | .mul=>.ok (.v (.int k (k.wrap (a * b))))
 | .quo=>.need (b≠0) (.v (.int k (k.wrap (a.tdiv b))))
 | .rem=>.need (b≠0) (.v (.int k (a.tmod b)))
 | .and=>.ok (.v (.int k (k.wrap (BitVec.ofInt k.bits a &&& BitVec.ofInt k.bits b).toNat)))
 | .or=>.ok (.v (.int k (k.wrap (BitVec.ofInt k.bits a ||| BitVec.ofInt k.bits b).toNat)))
 | .xor=>.ok (.v (.int k (k.wrap (BitVec.ofInt k.bits a ^^^ BitVec.ofInt k.bits b).toNat)))
 | .andNot=>.ok (.v (.int k (k.wrap (BitVec.ofInt k.bits a &&& ~~~ BitVec.ofInt k.bits b).toNat)))
 | .eql=>.ok (.v (.bool (a==b)))
 | .neq=>.ok (.v (.bool (a != b)))
 | .lss=>.ok (.v (.bool (decide (a<b))))
 | .leq=>.ok (.v (.bool (decide (a≤b))))
 | .gtr=>.ok (.v (.bool (decide (a>b))))
 | .geq=>.ok (.v (.bool (decide (a≥b))))
 |_=>.bad
def RJ(op:BinOp)(k:IntKind)(a b:Int):Res:=
 match op with
 | .shl=>.need (0≤b) (.v (.int k (k.wrap (a * 2 ^ (min b.toNat k.bits)))))
 | .shr=>.need (0≤b) (.v (.int k (a.fdiv (2 ^ (min b.toNat k.bits)))))
 |_=>.bad
def Bh(op:BinOp)(a b:Bool):Res:=
 match op with
 | .eql=>.ok (.v (.bool (a==b)))
 | .neq=>.ok (.v (.bool (!(a==b))))
 |_=>.bad
def GO(op:BinOp)(x y:ByteArray):Res:=
 match op with
 | .add=>.need (((x.size+y.size:Nat):Int)≤IntKind.i64.max) (.v (.string (x++y)))
 | .eql=>.ok (.v (.bool (x.toList==y.toList)))
 | .neq=>.ok (.v (.bool (!(x.toList==y.toList))))
 |_=>.bad
def xM:IntKind→IntKind→Bool
 | .i8,.i8| .i16,.i16| .i32,.i32| .i64,.i64| .u8,.u8| .u16,.u16| .u32,.u32| .u64,.u64=>true
 |_,_=>false
def eqS:CK→AV→AV→Option Bool
 | .i,.v (.int k a),.v (.int k' b)=>match xM k k' with|true=>some (a==b)|false=>none
 | .b,.v (.bool a),.v (.bool b)=>some (a==b)
 | .s,.v (.string a),.v (.string b)=>some (a==b)
 |_,_,_=>none
def eqL:List CK→List AV→List AV→Option Bool
 |[],[],[]=>some true
 |k::ks,x::xs,y::ys=>match eqS k x y,eqL ks xs ys with|some a,some b=>some (a&&b)|_,_=>none
 |_,_,_=>none
def DD:BinOp→Bool
 | .shl| .shr=>true
 |_=>false
def RK(C:Ctx)(op:BinOp)(t:TypeId)(x y:AV):Res:=
 match x,y with
 | .v (.int k a),.v (.int k' b)=>
  match DD op with
  |true=>RJ op k a b
  |false=>match xM k k' with|true=>GN op k a b|false=>.bad
 | .v (.bool a),.v (.bool b)=>match C.ty t with|some ⟨.bool,_,_,_,_,_⟩=>Bh op a b|_=>.bad
 | .v (.string a),.v (.string b)=>GO op a b
 | .agg xs,.agg ys=>
  match C.ty t with
  |some ⟨_,_,_,_,_,k::ks⟩=>
   match op,eqL (k::ks) xs ys with
   | .eql,some b=>.ok (.v (.bool b))
   | .neq,some b=>.ok (.v (.bool (!b)))
   |_,_=>.bad
  |_=>.bad
 |_,_=>.bad
def UQ:BinOp→Operand→Option Bool
 | .eql,.const (.slice none 0 0)=>some false
 | .neq,.const (.slice none 0 0)=>some true
 |_,_=>none
def Bi(C:Ctx)(neq:Bool)(t:TypeId)(x:AV):Res:=
 match C.ty t with
 |some ⟨.slice _,_,_,_,_,_⟩=>
  match x with
  | .v (.slice none _ _)=>.ok (.v (.bool (!neq)))
  | .v (.slice (some _) _ _)=>.ok (.v (.bool neq))
  | .sl _ (_::_) _=>.ok (.v (.bool neq))
  |_=>.bad
 |_=>.bad
def unA(op:UnOp)(x:AV):Res:=
 match op,x with
 | .not,.v (.bool b)=>.ok (.v (.bool (!b)))
 | .neg,.v (.int k n)=>.ok (.v (.int k (k.wrap (0 - n))))
 | .xor,.v (.int k n)=>.ok (.v (.int k (k.wrap (BitVec.ofInt k.bits (if k.signed then -1 else k.max) ^^^ BitVec.ofInt k.bits n).toNat)))
 |_,_=>.bad
def iQ:List (List AV)→Option (List UInt8)
 |[]=>some []
 |[.v (.int .u8 n)]::rs=>match iQ rs with|some l=>some (UInt8.ofNat n.toNat::l)|none=>none
 |_=>none
inductive StrN(g:Bool)(p:Prop)(rows:List (List AV))(K:ByteArray→Prop):Prop
 |mk (l:List UInt8) (h:g=true→p∧iQ rows=some l) (hk:K ⟨l.toArray⟩):StrN g p rows K
def cB(s:ByteArray):List (List AV):=s.data.toList.map λ b=>[.v (.int .u8 b.toNat)]
def CL(C:Ctx)(src dst:TypeId)(x:AV):Res:=
 match C.ty src,C.ty dst,x with
 |some ⟨.int _,_,_,_,_,_⟩,some ⟨.int k,_,_,_,_,_⟩,.v (.int _ n)=>.ok (.v (.int k (k.wrap n)))
 |some ⟨.string,_,_,_,_,_⟩,some ⟨.string,_,_,_,_,_⟩,.v (.string s)=>.ok (.v (.string s))
 |_,_,_=>.bad
def MM(C:Ctx)(t:TypeId)(cs:List AV)(off:Nat):Option AV:=
 match C.ty t with
 |some ⟨_,sz,true,_,_,_⟩=>some (.agg (GM sz (EN off cs)))
 |some ⟨_,_,false,_,_,_⟩=>Lw cs off
 |none=>none
def GP(C:Ctx)(t:TypeId)(rs col:Nat)(row:List AV):Option AV:=
 match C.ty t with
 |some ⟨_,sz,true,_,_,_⟩=>
  match col,Nat.beq sz rs with
  |0,true=>some (.agg row)
  |_,_=>match Nat.beq (GM sz (EN col row)).length sz with|true=>some (.agg (GM sz (EN col row)))|false=>none
 |some ⟨_,_,false,_,_,_⟩=>Lw row col
 |none=>none
def Oq:List (Nat×TypeId)→Nat→Option (Nat×TypeId)
 |[],_=>none
 |x::_,0=>some x
 |_::xs,n+1=>Oq xs n
def GQ(C:Ctx)(place:Nat→Option (Nat×Nat))(cells:List AV):List (Nat×AV)→Option (List AV)
 |[]=>some cells
 |(i,x)::rest=>
  match place i,kL x with
  |some (off,sz),some cs=>match Nat.beq cs.length sz,Nat.ble (off+cs.length) cells.length with|true,true=>GQ C place (yV off cs cells) rest|_,_=>none
  |_,_=>none
def okO(x:Option AV):Res:=match x with|some x=>.ok x|none=>.bad
def lenA:AV→Option Nat
 | .v (.string s)=>some s.size
 | .sl _ rows _=>some rows.length
 | .osl _ _ len _=>some len
 |_=>none
def Xh:Option AV→Option (Option Int)
 |none=>some none
 |some (.v (.int _ n))=>some (some n)
 |_=>none
def CM(h:AH):AV→Option Blk
 | .osl b _ _ _=>h b
 |_=>none
def Bj(C:Ctx)(t:TypeId)(x:AV)(lo hi mx:Option AV)(blk:Option Blk):Res:=
 match lenA x,Xh lo,Xh hi,Xh mx with
 | some len,some lo,some hi,some mx=>
  match C.ty t with
  |some ⟨.string,_,_,_,_,_⟩=>
   match x,mx with
   | .v (.string s),none=>.need (0≤lo.getD 0∧lo.getD 0≤hi.getD len∧hi.getD len≤(len:Int)) (.v (.string (s.extract (lo.getD 0).toNat (hi.getD len).toNat)))
   |_,_=>.bad
  | some ⟨.slice e,_,_,_,_,_⟩=>
   match C.ty e with
   | some ei=>
    match x,mx,hi with
    | .sl rs rows clip,none,hi=>
     match Nat.beq rs ei.sz with
     |true=>.need (0≤lo.getD 0∧lo.getD 0≤hi.getD len∧hi.getD len≤(len:Int)) (.sl rs ((rows.take (hi.getD len).toNat).drop (lo.getD 0).toNat) (clip&&hi.isNone))
     |false=>.bad
    | .sl rs rows _,some m,some hi=>
     match Nat.beq rs ei.sz with
     |true=>.need (0≤lo.getD 0∧lo.getD 0≤hi∧hi=m∧hi≤(len:Int)) (.sl rs ((rows.take hi.toNat).drop (lo.getD 0).toNat) true)
     |false=>.bad
    | .osl s o _ clip,none,hi=>
     match blk with
     |some (.arr _ rs)=>
      match Nat.beq rs ei.sz with
      |true=>.need (0≤lo.getD 0∧lo.getD 0≤hi.getD len∧hi.getD len≤(len:Int)) (.osl s (o+(lo.getD 0).toNat) (hi.getD len - lo.getD 0).toNat (clip&&hi.isNone))
      |false=>.bad
     |_=>.bad
    | .osl s o _ _,some m,some hi=>
     match blk with
     |some (.arr _ rs)=>
      match Nat.beq rs ei.sz with
      |true=>.need (0≤lo.getD 0∧lo.getD 0≤hi∧hi=m∧hi≤(len:Int)) (.osl s (o+(lo.getD 0).toNat) (hi - lo.getD 0).toNat true)
      |false=>.bad
     |_=>.bad
    |_,_,_=>.bad
   |none=>.bad
  |_=>.bad
 |_,_,_,_=>.bad
def tV(C:Ctx)(h:AH)(t:TypeId)(x:AV)(lo hi mx:Option AV):Res:=Bj C t x lo hi mx (CM h x)
def mS(h:AH):AV→Option (Nat×List (List AV))
 | .v (.string s)=>some (1,cB s)
 | .sl rs rows _=>some (rs,rows)
 | .osl s lo len _=>match h s with|some (.arr rows rs)=>some (rs,(rows.drop lo).take len)|_=>none
 |_=>none
def wM(h:AH):AV→Prop
 | .osl s lo len _=>match h s with|some (.arr rows _)=>lo+len≤rows.length|_=>False
 |_=>True
def kW:Nat:=1000000
def RL(C:Ctx)(t:TypeId)(x:AV):Res:=
 match C.ty t,x with
 |some ⟨.string,_,_,_,_,_⟩,.v (.string s)=>.ok (.v (.int .i64 (s.size:Int)))
 |some ⟨.slice _,_,_,_,_,_⟩,.sl _ rows _=>.ok (.v (.int .i64 (rows.length:Int)))
 |some ⟨.slice _,_,_,_,_,_⟩,.osl _ _ len _=>.ok (.v (.int .i64 (len:Int)))
 |some ⟨.array n _,_,_,_,_,_⟩,_=>.ok (.v (.int .i64 (n:Int)))
 |_,_=>.bad
def MN:Kd→Bool
 | .slice _| .string=>true
 |_=>false
def RM(x y:AV):Res:=
 match x,y with
 | .v (.int k a),.v (.int k' b)=>match xM k k' with|true=>.ok (.v (.int k (if b<a then b else a)))|false=>.bad
 |_,_=>.bad
def RN(x y:AV):Res:=
 match x,y with
 | .v (.int k a),.v (.int k' b)=>match xM k k' with|true=>.ok (.v (.int k (if b>a then b else a)))|false=>.bad
 |_,_=>.bad
def DE(C:Ctx)(h:AH)(ts:List TypeId)(x y:AV):Res:=
 match ts with
 |[]=>.bad
 | t ::_=>
  match C.ty t with
  | some ⟨.slice e,_,_,_,_,_⟩=>
   match C.ty e,x with
   | some ei,.osl s0 lo len _=>
    match h s0,mS h y with
    |some (.arr rows rs),some (rc,c)=>
     match Nat.beq rs ei.sz,Nat.beq rc ei.sz with
     |true,true=>.fx (lo+len≤rows.length∧wM h y) (.v (.int .i64 (min c.length len:Nat))) (upd h s0 (some (.arr (rows.take lo++c.take (min c.length len)++rows.drop (lo+min c.length len)) rs)))
     |_,_=>.bad
    |_,_=>.bad
   |_,_=>.bad
  |_=>.bad
def qB(C:Ctx)(s:Nat)(ts:List TypeId)(x:AV)(rx ry:Option (Nat×List (List AV)))(blk:Option Blk)(px py:Prop)(h:AH):Res:=
 match ts with
 | [t,tx]=>match C.ty t,C.ty tx with
  | some ⟨.slice e,_,_,_,_,_⟩,some tk=>match C.ty e with
   | some ei=>
    match MN tk.kd,x,rx,ry with
    | true,.sl r0 _ true,some (ra,a),some (rc,c)=>match Nat.beq r0 0,Nat.beq ra ei.sz,Nat.beq rc ei.sz with
     |true,_,true=>.fx (a.length=0∧c.length≤kW∧0<c.length∧py) (.osl s 0 c.length false) (upd h s (some (.arr c rc)))
     |false,true,true=>(match c with
      |[]=>.need (px∧py) x
      |_::_=>.fx (a.length+c.length≤kW∧0<c.length∧px∧py) (.osl s 0 (a.length+c.length) false) (upd h s (some (.arr (a++c) ra))))
     |_,_,_=>.bad
    |true,.osl _ _ _ true,some (ra,a),some (rc,c)=>match Nat.beq ra ei.sz,Nat.beq rc ei.sz with
     |true,true=>.fx (a.length+c.length≤kW∧0<c.length∧px∧py) (.osl s 0 (a.length+c.length) false) (upd h s (some (.arr (a++c) ra)))
     |_,_=>.bad
    |true,.osl s0 lo len false,some (ra,a),some (rc,c)=>
     match blk,Nat.beq ra ei.sz,Nat.beq rc ei.sz with
     |some (.arr rows _),true,true=>.fx (a.length+c.length≤kW∧lo+len=rows.length∧py) (.osl s 0 (a.length+c.length) false) (upd (upd h s0 none) s (some (.arr (a++c) ra)))
     |_,_,_=>.bad
    |_,_,_,_=>.bad
   |none=>.bad
  |_,_=>.bad
 |_=>.bad
def bI(C:Ctx)(h:AH)(s:Nat)(b:Builtin)(ts:List TypeId)(args:List AV):Res:=
 match b,args with
 | .len,[x]=>match ts with|[t]=>RL C t x|_=>.bad
 | .min,[x,y]=>RM x y
 | .max,[x,y]=>RN x y
 | .append,[x,y]=>qB C s ts x (mS h x) (mS h y) (CM h x) (wM h x) (wM h y) h
 | .copy,[x,y]=>DE C h ts x y
 |_,_=>.bad
def Ab(C:Ctx)(t:TypeId):Option (List AV):=
 match C.ty t with
 |some i=>kL i.zero
 |none=>none
mutual
def eL:AV→Bool
 | .v _| .sl _ _ _| .dp _ _ _=>true
 | .agg cs=>eV cs
 | .tup cs=>eV cs
 | .clo _ a b=>match eV a with|true=>eV b|false=>false
 |_=>false
def eV:List AV→Bool
 |[]=>true
 |x::xs=>match eL x with|true=>eV xs|false=>false
end
def EO(sz:Nat):Nat→List (Nat×AV)→Option (List (List AV))
 |_,[]=>some []
 |k,(i,x)::rest=>
  match Nat.beq i k,kL x,EO sz (k+1) rest with
  |true,some cs,some rows=>match Nat.beq cs.length sz,eV cs with|true,true=>some (cs::rows)|_,_=>none
  |_,_,_=>none
def GR(c a b:AV):Res:=
 match c,a,b with
 | .v (.bool c),.v (.bool x),.v (.bool y)=>.ok (.v (.bool (cZ c x y)))
 | .v (.bool c),.opt g (.v (.bool x)),.v (.bool y)=>.need (c=true→g=true) (.v (.bool (cZ c x y)))
 | .v (.bool c),.v (.bool x),.opt g (.v (.bool y))=>.need (c=false→g=true) (.v (.bool (cZ c x y)))
 |_,_,_=>.bad
def sJ(C:Ctx)(h:AH)(t:TypeId)(a:AV):Res:=
 match a with
 | .ptr b c=>match h b with|some (.box cells)=>okO (GP C t cells.length c cells)|_=>.bad
 | .ptr2 b r c=>match h b with|some (.arr rows rs)=>.idx rows r (GP C t rs c)|some (.row cells)=>.idx (cells.map λ x=>[x]) r (GP C t 1 c)|_=>.bad
 | .dp rs c row=>okO (GP C t rs c row)
 |_=>.bad
def oE(C:Ctx)(t:TypeId)(f:Nat)(a:AV):Res:=
 match C.ty t with
 |some ⟨.struct fs,_,_,_,_,_⟩=>
  match Oq fs f,a with
  |some (off,_),.ptr b c=>.ok (.ptr b (c+off))
  |some (off,_),.ptr2 b r c=>.ok (.ptr2 b r (c+off))
  |some (off,_),.dp rs c row=>.ok (.dp rs (c+off) row)
  |_,_=>.bad
 |_=>.bad
def yW(C:Ctx)(t:TypeId)(f:Nat)(a:AV):Res:=
 match C.ty t with
 |some ⟨.struct fs,_,_,_,_,_⟩=>match Oq fs f,a with|some (off,ft),.agg cs=>okO (MM C ft cs off)|_,_=>.bad
 |_=>.bad
def pK(C:Ctx)(t:TypeId)(a i:AV)(blk:Option Blk):Res:=
 match C.ty t,i with
 | some ⟨.slice e,_,_,_,_,_⟩,.v (.int _ n)=>
  match C.ty e,a with
  |some ei,.sl rs rows _=>(match Nat.beq rs ei.sz with|true=>.idx rows n (λ row=>some (.dp rs 0 row))|false=>.bad)
  |some ei,.osl b lo len _=>(match blk with
   |some (.arr _ rs)=>(match Nat.beq rs ei.sz with|true=>.need (0≤n∧n<(len:Int)) (.ptr2 b (lo+n.toNat) 0)|false=>.bad)
   |some (.row _)=>(match Nat.beq 1 ei.sz with|true=>.need (0≤n∧n<(len:Int)) (.ptr2 b (lo+n.toNat) 0)|false=>.bad)
   |_=>.bad)
  |_,_=>.bad
 |some ⟨.array len e,_,_,_,_,_⟩,.v (.int _ n)=>
  match C.ty e,a with
  |some ei,.ptr b c=>.need (0≤n∧n<(len:Int)) (.ptr b (c+n.toNat * ei.sz))
  |some ei,.ptr2 b r c=>.need (0≤n∧n<(len:Int)) (.ptr2 b r (c+n.toNat * ei.sz))
  |some ei,.dp rs c row=>.need (0≤n∧n<(len:Int)) (.dp rs (c+n.toNat * ei.sz) row)
  |_,_=>.bad
 |_,_=>.bad
def jB(C:Ctx)(h:AH)(t:TypeId)(a i:AV):Res:=pK C t a i (CM h a)
def Bk(C:Ctx)(t:TypeId)(a i:AV):Res:=
 match C.ty t,a,i with
 |some ⟨.string,_,_,_,_,_⟩,.v (.string s),.v (.int _ n)=>.need (0≤n∧n<(s.size:Int)) (.v (.int .u8 (s.data.toList.getD n.toNat 0).toNat))
 |some ⟨.array len e,_,_,_,_,_⟩,.agg cs,.v (.int _ n)=>
  match C.ty e with
  |some ei=>match MM C e cs (n.toNat * ei.sz)with|some x=>.need (0≤n∧n<(len:Int)) x|none=>.bad
  |none=>.bad
 |_,_,_=>.bad
def rC(i:Nat)(a:AV):Res:=match a with| .tup vs=>okO (Lw vs i)|_=>.bad
def Bl(C:Ctx)(t:TypeId)(ps:List (Nat×AV)):Res:=
 match C.ty t with
 |some ⟨.struct fs,_,_,z,_,_⟩=>
  match kL z with
  |some zs=>okO ((GQ C (λ i=>match Oq fs i with|some (off,ft)=>(match C.ty ft with|some fi=>some (off,fi.sz)|none=>none)|none=>none) zs ps).map .agg)
  |none=>.bad
 |some ⟨.array _ e,_,_,z,_,_⟩=>
  match kL z,C.ty e with
  |some zs,some ei=>okO ((GQ C (λ i=>some (i * ei.sz,ei.sz)) zs ps).map .agg)
  |_,_=>.bad
 |_=>.bad
def RO(a:AV):Res:=
 match a with
 | .ptr b c=>.ok (.ptr b c)
 | .ptr2 b r c=>.ok (.ptr2 b r c)
 | .dp a b c=>.ok (.dp a b c)
 | .clo a b c=>.ok (.clo a b c)
 |_=>.bad
def EP(C:Ctx)(h:AH)(s:Nat)(src dst:TypeId)(x:AV):Res:=
 match C.ty src,C.ty dst with
 |some ⟨.string,_,_,_,_,_⟩,some ⟨.slice e,_,_,_,_,_⟩=>
  match x,C.ty e with
  | .v (.string b),some ⟨.int .u8,_,_,_,_,_⟩=>.fx (b.size≤kW) (.osl s 0 b.size false) (upd h s (some (.arr (cB b) 1)))
  |_,_=>.bad
 | some ⟨.slice e,_,_,_,_,_⟩,some ⟨.string,_,_,_,_,_⟩=>
  match x with
  | .v _=>.bad
  |x=>match C.ty e,mS h x with
   |some ⟨.int .u8,_,_,_,_,_⟩,some (_,rows)=>.str (wM h x) rows
   |_,_=>.bad
 |_,_=>CL C src dst x
def ID(C:Ctx)(h:AH)(s:Nat)(t:TypeId)(l c:AV):Res:=
 match C.ty t,l,c with
 | some ⟨.slice e,_,_,_,_,_⟩,.v (.int _ l),.v (.int _ c)=>
  match C.ty e with
  |some ei=>match kL ei.zero with
   |some z=>(match eV z with|true=>.fx (0≤l∧l≤c∧c≤kW) (.osl s 0 l.toNat false) (upd h s (some (.arr (List.replicate l.toNat z) z.length)))|false=>.bad)
   |none=>.bad
  |none=>.bad
 |_,_,_=>.bad
def opA(C:Ctx)(ev:Operand→AV)(h:AH)(s:Nat)(op:Op):Res:=
 match op with
 | .move x| .assign x=>.ok (ev x)
 | .pick c a b=>GR (ev c) (ev a) (ev b)
 | .alloc t=>match Ab C t with|some cs=>.fx True (.ptr s 0) (upd h s (some (.box cs)))|none=>.bad
 | .box _ x=>match kL (ev x)with|some cs=>.fx True (.ptr s 0) (upd h s (some (.box cs)))|none=>.bad
 | .build t parts=>Bl C t (parts.toList.map λ p=>(p.1,ev p.2))
 | .load t a=>sJ C h t (ev a)
 | .store t a x=>
  match C.ty t,kL (ev x)with
  | some ti,some cs=>
   match Nat.beq cs.length ti.sz with
   | true=>
    match ev a with
    | .ptr b c=>match h b with|some (.box cells)=>(match Nat.ble (c+cs.length) cells.length with|true=>.fx True .any (upd h b (some (.box (yV c cs cells))))|false=>.bad)|_=>.bad
    | .ptr2 b r c=>(match h b with
     |some (.arr rows rs)=>.idxfx rows r (λ row=>match Nat.ble (c+cs.length) row.length,eV cs with|true,true=>some (upd h b (some (.arr (rows.set r (yV c cs row)) rs)))|_,_=>none)
     |some (.row cells)=>.idxfx (cells.map λ x=>[x]) r (λ _=>match c,cs with|0,[x]=>some (upd h b (some (.row (cells.set r x))))|_,_=>none)
     |_=>.bad)
    |_=>.bad
   |false=>.bad
  |_,_=>.bad
 | .nilCheck x=>RO (ev x)
 | .binOp op t x y _=>(match UQ op y with|some neq=>Bi C neq t (ev x)|none=>RK C op t (ev x) (ev y))
 | .unOp op _ x=>unA op (ev x)
 | .convert src dst x=>EP C h s src dst (ev x)
 | .makeFunc (.func f) first caps=>.ok (.clo f (first.toList.map ev) (caps.toList.map ev))
 | .makeSlice t l c=>ID C h s t (ev l) (ev c)
 | .buildSlice t len parts=>
  match C.ty t with
  | some ⟨.slice e,_,_,_,_,_⟩=>
   match C.ty e with
   | some ei=>
    match EO ei.sz 0 (parts.toList.map λ p=>(p.1,ev p.2))with
    |some rows=>match Nat.beq rows.length len,Nat.ble (len * ei.sz) 16777216 with
     |true,true=>.ok (.sl ei.sz rows true)
     |_,_=>.bad
    |none=>.bad
   |none=>.bad
  |_=>.bad
 | .slice t x lo hi mx=>tV C h t (ev x) (lo.map ev) (hi.map ev) (mx.map ev)
 | .fieldAddr t x f=>oE C t f (ev x)
 | .field t x f=>yW C t f (ev x)
 | .indexAddr t x i=>jB C h t (ev x) (ev i)
 | .index t x i=>Bk C t (ev x) (ev i)
 | .extract x i=>rC i (ev x)
 | .call c=>
  match c.callee with
  | .builtin b=>bI C h s b c.argTypes.toList (c.args.toList.map ev)
  | .value f=>match ev f with
   | .clo f first caps=>.call f (first++c.args.toList.map ev++caps)
   |_=>.bad
  |_=>.bad
 |_=>.bad
def evA(C:Ctx)(t:Nat→AV):Operand→AV
 | .tmp i=>t i
 | .const x=>NM x
 | .global g=>match C.G g with|some cells=>.dp cells.length 0 cells|none=>.any
 | .func f=>.clo f [] []
def AE:AV→AV
 | .opt _ x=>x
 |x=>x
def Lx:AV→Option Bool
 | .opt g _=>some g
 |_=>none
def uO(t:Nat→AV):List Operand→Option Bool
 |[]=>none
 | .tmp i::rest=>match Lx (t i),uO t rest with
  |none,r=>r
  |some g,none=>some g
  |some g,some r=>some (g&&r)
 |_::rest=>uO t rest
def condsO(t:Nat→AV)(op:Op):Option Bool:=
 match op with
 | .pick c _ _=>uO t [c]
 |op=>uO t op.operands.toList
def Ko:Operand→Operand→Bool
 | .tmp i,.tmp j=>Nat.beq i j
 |_,_=>false
def evS(C:Ctx)(t:Nat→AV)(op:Op):Operand→AV:=
 match op with
 | .pick c _ _=>λ x=>match Ko c x with|true=>AE (evA C t x)|false=>evA C t x
 |_=>λ x=>AE (evA C t x)
def yX(x:AV)(pol:Bool):Option Bool:=
 match x with
 | .v (.bool b)=>some (match pol with|true=>b|false=> !b)
 | .opt a (.v (.bool b))=>some (a&&(match pol with|true=>b|false=> !b))
 |_=>none
mutual
def GS:AV→Bool
 | .osl _ _ _ _=>false
 | .ptr _ _=>false
 | .agg cs=>oP cs
 | .tup cs=>oP cs
 | .clo _ a b=>match oP a with|true=>oP b|false=>false
 |_=>true
def oP:List AV→Bool
 |[]=>true
 |x::xs=>match GS x with|true=>oP xs|false=>false
end
def Rg:List AV→List AV
 |[]=>[]
 |x::xs=>(match eL x with|true=>x|false=>.any)::Rg xs
mutual
def uP(h:AH):AV→AV
 | .osl s lo len clip=>match h s with|some (.arr rows rs)=>.sl rs ((rows.drop lo).take len) clip|_=>.any
 | .agg cs=>.agg (rA h cs)
 | .tup cs=>match oP cs with|true=>.tup cs|false=>.tup (rA h cs)
 | .ptr s c=>match h s with|some (.box cells)=>.dp cells.length c (Rg cells)|_=>.any
 | .clo f a b=>.clo f (rA h a) (rA h b)
 |x=>x
def rA(h:AH):List AV→List AV
 |[]=>[]
 |x::xs=>uP h x::rA h xs
end
mutual
def jS(h:AH):AV→Prop
 | .osl s lo len _=>match h s with|some (.arr rows _)=>lo+len≤rows.length|_=>False
 | .agg cs=>jX h cs
 | .tup cs=>match oP cs with|true=>True|false=>jX h cs
 | .clo _ a b=>jX h a∧jX h b
 |_=>True
def jX(h:AH):List AV→Prop
 |[]=>True
 |x::xs=>jS h x∧jX h xs
end
mutual
def BZ:AV→Bool
 | .v _=>true
 | .agg cs=>Ot cs
 | .tup cs=>Ot cs
 |_=>false
def Ot:List AV→Bool
 |[]=>true
 |x::xs=>match BZ x with|true=>Ot xs|false=>false
end
inductive CallN(C:Ctx)(R:FuncId→List AV→AV→Prop)(g:Bool)(h:AH)(f:FuncId)(args:List AV)(K:AV→Prop):Prop
 |mk (r:AV) (hc:eV (rA h args)=true) (hf:oP args=true∨(BZ r=true∧jX h args)) (hr:eL r=true) (hR:g=true→R f (rA h args) r) (hk:K r):CallN C R g h f args K
inductive HCallN(C:Ctx)(h:AH)(s:Nat)(f:FuncId)(args:List AV)(K:AV→AH→Prop):Prop
 |mk (Post:AV→AH→Prop) (hH:C.H f args h s Post) (hk:∀ r h',Post r h'→K r h'):HCallN C h s f args K
def node(C:Ctx)(R:FuncId→List AV→AV→Prop)(h:AH)(s:Nat)(r:Res)(K:AV→AH→Prop):Prop:=
 match r with
 | .bad=>False
 | .ok x=>K x h
 | .need p x=>Need true p (K x h)
 | .idx rows i f=>IdxN true rows i (λ row=>match f row with|some x=>K x h|none=>False)
 | .fx p x h'=>Need true p (K x h')
 | .idxfx rows i f=>IdxN true rows i (λ row=>match f row with|some h'=>K .any h'|none=>False)
 | .str p rows=>StrN true p rows (λ b=>K (.v (.string b)) h)
 | .call f args=>CallN C R true h f args (λ x=>K x h)∨HCallN C h s f args K
def CN(C:Ctx)(R:FuncId→List AV→AV→Prop)(h:AH)(g:Bool)(r:Res)(K:AV→AH→Prop):Prop:=
 match r with
 | .ok x=>K (.opt g x) h
 | .need p x=>Need g p (K (.opt g x) h)
 | .idx rows i f=>IdxN g rows i (λ row=>match f row with|some x=>K (.opt g x) h|none=>False)
 | .str p rows=>StrN g p rows (λ b=>K (.opt g (.v (.string b))) h)
 | .call f args=>CallN C R g h f args (λ x=>K (.opt g x) h)
 |_=>False
def MO(r:Res)(K:AV→AH→Prop):Prop:=
 match r with
 | .fx p x h'=>Need true p (K x h')
 |_=>False
def wB(C:Ctx)(R:FuncId→List AV→AV→Prop)(all:List Oper)(o:Oper)(s:Nat)(t:Nat→AV)(h:AH)(K:AV→AH→Prop):Prop:=
 match o.guard with
 |none=>node C R h s (opA C (evA C t) h s o.op) K
 | some (i,pol)=>
  match (all[i]?).bind (·.dst)with
  |none=>False
  | some d=>
   match yX (t d) pol with
   |none=>False
   |some g=>
    match condsO t o.op with
    |none=>CN C R h g (opA C (evA C t) h s o.op) K∨(g=true∧MO (opA C (evA C t) h s o.op) K)
    |some c=>Need g (c=true) (CN C R h g (opA C (evS C t o.op) h s o.op) K)
def kX(C:Ctx)(R:FuncId→List AV→AV→Prop)(all:List Oper):List Oper→Nat→ASt→(ASt→Prop)→Prop
 |[],j,st,K=>K {st with n:=st.n+j}
 |o::rest,j,st,K=>wB C R all o (st.n+j) st.t st.h (λ x h'=>kX C R all rest (j+1) {st with t:=yU st.t o.dst x,h:=h' } K)
inductive AEx where
 |normal|exit (id:Nat)|ret
mutual
def tY(σ:Nat→Nat):AV→AV
 | .ptr s c=>.ptr (σ s) c
 | .ptr2 s r c=>.ptr2 (σ s) r c
 | .osl s lo len clip=>.osl (σ s) lo len clip
 | .agg cs=>.agg (Au σ cs)
 | .tup cs=>.tup (Au σ cs)
 | .clo f a b=>.clo f (Au σ a) (Au σ b)
 | .opt g x=>.opt g (tY σ x)
 |x=>x
def Au(σ:Nat→Nat):List AV→List AV
 |[]=>[]
 |x::xs=>tY σ x::Au σ xs
end
mutual
def mI(n:Nat):AV→Bool
 | .ptr s _=>Nat.blt s n
 | .ptr2 s _ _=>Nat.blt s n
 | .osl s _ _ _=>Nat.blt s n
 | .agg cs=>mJ n cs
 | .tup cs=>mJ n cs
 | .clo _ a b=>match mJ n a with|true=>mJ n b|false=>false
 | .opt _ x=>mI n x
 |_=>true
def mJ(n:Nat):List AV→Bool
 |[]=>true
 |x::xs=>match mI n x with|true=>mJ n xs|false=>false
end
def CO(σ:Nat→Nat):Blk→Blk
 | .box cells=>.box (Au σ cells)
 | .arr rows rs=>.arr rows rs
 | .row cells=>.row (Au σ cells)
def qF(n:Nat):Blk→Bool
 | .box cells=>mJ n cells
 | .arr _ _=>true
 | .row cells=>mJ n cells
structure Weak(st st':ASt)(σ:Nat→Nat):Prop where
 t:∀ i,st'.t i=.any∨(st.t i=tY σ (st'.t i)∧mI st'.n (st'.t i)=true)
 h:∀ s blk,st'.h s=some blk→s<st'.n∧st.h (σ s)=some (CO σ blk)∧qF st'.n blk=true
 inj:∀ s s',st'.h s≠none→st'.h s'≠none→σ s=σ s'→s=s'
abbrev Fz:=Option (Nat×Nat×List (List AV))
inductive LeZ(fz:Fz):AV→AV→Prop
 |refl (a:AV):LeZ fz a a
 |any (a:AV):LeZ fz a .any
 |nil (rs:Nat) (c:Bool):LeZ fz (.sl 0 [] true) (.sl rs [] c)
 |emp (rs:Nat) (A:Option Addr) (k:Nat) (c:Bool) (hk:k≤maxLen) (hc:c=true→k=0):LeZ fz (.v (.slice A 0 k)) (.sl rs [] c)
 |clip (rs:Nat) (rows:List (List AV)):LeZ fz (.sl rs rows true) (.sl rs rows false)
 |oclip (s lo len:Nat):LeZ fz (.osl s lo len true) (.osl s lo len false)
 |frz (b rs lo len:Nat) (rows:List (List AV)) (c c':Bool) (h:fz=some (b,rs,rows)) (hl:lo+len≤rows.length) (hc:c'=true→c=true):LeZ fz (.osl b lo len c) (.sl rs ((rows.drop lo).take len) c')
 |agg (cs ds:List AV) (hl:cs.length=ds.length) (h:∀ (i:Nat) a d,cs[i]?=some a→ds[i]?=some d→LeZ fz a d):LeZ fz (.agg cs) (.agg ds)
 |tup (cs ds:List AV) (hl:cs.length=ds.length) (h:∀ (i:Nat) a d,cs[i]?=some a→ds[i]?=some d→LeZ fz a d):LeZ fz (.tup cs) (.tup ds)
inductive LeB(fz:Fz):Blk→Blk→Prop
 |refl (b:Blk):LeB fz b b
 |box (cs ds:List AV) (hl:cs.length=ds.length) (h:∀ (i:Nat) a d,cs[i]?=some a→ds[i]?=some d→LeZ fz a d):LeB fz (.box cs) (.box ds)
 |row (cs ds:List AV) (hl:cs.length=ds.length) (h:∀ (i:Nat) a d,cs[i]?=some a→ds[i]?=some d→LeZ fz a d):LeB fz (.row cs) (.row ds)
 |toRow (cells:List AV):LeB fz (.arr (cells.map λ x=>[x]) 1) (.row cells)
 |toArr (cells:List AV) (h:∀ c∈cells,eL c=true):LeB fz (.row cells) (.arr (cells.map λ x=>[x]) 1)
structure Ghost(st st':ASt)(fz:Fz):Prop where
 b:∀ x rs rows,fz=some (x,rs,rows)→st.h x=some (.arr rows rs)
 n:st'.n=st.n
 t:∀ i,LeZ fz (st.t i) (st'.t i)
 h:∀ s blk,st'.h s=some blk→(∀ x rs rows,fz=some (x,rs,rows)→s≠x)∧∃ blk0,st.h s=some blk0∧LeB fz blk0 blk
inductive Ghosts:ASt→ASt→Prop
 |refl (st:ASt):Ghosts st st
 |step {a b c:ASt} (fz:Fz) (h:Ghost a b fz) (k:Ghosts b c):Ghosts a c
inductive GhostN(st:ASt)(K:ASt→Prop):Prop
 |mk (st':ASt) (h:Ghosts st st') (k:K st'):GhostN st K
def keepB:Nat→(Nat→Nat)→Nat→Bool
 |0,_,_=>true
 |k+1,σ,n=>match Nat.beq (σ k) k,Nat.blt k n with|true,true=>keepB k σ n|_,_=>false
inductive WeakN(fr:Nat)(st:ASt)(K:ASt→Prop):Prop
 |mk (stw:ASt) (σ:Nat→Nat) (hw:Weak st stw σ) (hf:keepB fr σ stw.n=true) (k:K stw):WeakN fr st K
inductive LoopN(fr:Nat)(body:ASt→(AEx→ASt→Prop)→Prop)(st:ASt)(Q:AEx→ASt→Prop):Prop
 | mk (I:ASt→Prop) (μ:ASt→Nat) (st0:ASt) (σ:Nat→Nat) (hw:Weak st st0 σ) (hf:keepB fr σ st0.n=true) (h0:I st0)
   (round:∀ st',I st'→body st' (λ e st''=>match e with| .normal=>GhostN st'' (λ stg=>∃ stw σ,Weak stg stw σ∧keepB fr σ stw.n=true∧I stw∧μ stw<μ st')|e=>Q e st'')):LoopN fr body st Q
def forL{α:Type}(P:α→Prop):List α→Prop
 |[]=>True
 |x::l=>P x∧forL P l
def Xi(C:Ctx)(R:FuncId→List AV→AV→Prop)(ops:Array Oper)(next:Array Bool→ASt→Prop)(listed:Array Bool)(t:Nat→AV)(h:AH)(n i:Nat):Prop:=
 match ops[i]? with
 |some o=>wB C R ops.toList o (n+i) t h (λ x h'=>next (listed.setIfInBounds i true) ⟨yU t o.dst x,h',n⟩)
 |none=>False
def UR(C:Ctx)(R:FuncId→List AV→AV→Prop)(ops:Array Oper)(K:ASt→Prop):Nat→Array Bool→ASt→Prop
 |0,listed,st=>Region.ready .any ops listed=[]∧K {st with n:=st.n+ops.size}
 |fuel+1,listed,st=>Region.ready .any ops listed≠[]∧forL (Xi C R ops (UR C R ops K fuel) listed st.t st.h st.n) (Region.ready .any ops listed)
def YP(l:List Oper):Bool:=(l.any λ o=>match o.op with| .store _ _ _=>true|_=>false)&&l.any λ o=>(match o.op with| .load _ _=>true|_=>false)&&o.after.toList.any λ e=>match e.ground with| .gcOnly _=>true|_=>false
def pW:Op→Bool
 | .load _ _| .store _ _ _| .indexAddr _ _ _| .slice _ _ _ _ _| .convert _ _ _| .call _=>true
 |_=>false
def lM:Op→Bool
 | .store _ _ _=>true
 | .call ⟨.builtin .append,_,_⟩| .call ⟨.builtin .copy,_,_⟩=>true
 |_=>false
def Ou(acc:List Nat):List Edge→Nat→Nat
 |[],m=>m
 |e::es,m=>Ou acc es (match Region.binds .any e with|true=>m ||| 2 ^ e.on ||| acc.getD e.on 0|false=>m)
def xN:List Oper→List Nat→List Nat
 |[],acc=>acc
 |o::rest,acc=>xN rest (acc++[Ou acc o.after.toList 0])
def CP:List Operand→List Nat
 |[]=>[]
 | .tmp i::l=>i::CP l
 |_::l=>CP l
def pA(l:List Oper)(o:Oper):List Nat:=o.dst.toList++CP o.op.operands.toList++(match o.guard with|some (g,_)=>((l[g]?).bind (·.dst)).toList|none=>[])
def IE(ms:List Nat)(i j:Nat):Bool:=(ms.getD j 0).testBit i||(ms.getD i 0).testBit j
def IF(l :List Oper):Bool:=
  (List.range l.length).all λ j=>match l[j]? with
    |none=>true
    | some oj=>
      (oj.after.toList.all λ e=> !Region.binds .any e||Nat.blt e.on j)&&
      (List.range l.length).all λ i=>match l[i]? with
        |none=>true
        | some oi=>i==j||
          ((match oi.dst with|none=>true|some d=> !(pA l oj).contains d||IE (xN l []) i j)&&
           (!(lM oi.op&&pW oj.op)||IE (xN l []) i j))
def EQ(l:List Oper):Bool:=YP l|| !IF l
mutual
def jD:AV→List Nat
 | .ptr s _=>[s]
 | .ptr2 s _ _=>[s]
 | .osl s _ _ _=>[s]
 | .agg cs=>yI cs
 | .tup cs=>yI cs
 | .clo _ a b=>yI a++yI b
 | .opt _ x=>jD x
 |_=>[]
def yI:List AV→List Nat
 |[]=>[]
 |x::xs=>jD x++yI xs
end
def oQ(t:Nat→AV)(o:Oper):List Nat:=(CP o.op.operands.toList).flatMap λ i=>jD (t i)
def meets(a b:List Nat):Bool:=a.any λ x=>b.any λ y=>Nat.beq x y
def GU(l :List Oper)(tE:Nat→AV):Bool:=
  (List.range l.length).all λ j=>match l[j]? with
    |none=>true
    | some oj=>
      ((oj.after.toList.all λ e=> !Region.binds .any e||Nat.blt e.on j)&&
       (!pW oj.op||(l.drop j).all λ o=>match o.dst with|none=>true|some d=> !(CP oj.op.operands.toList).contains d))&&
      (List.range l.length).all λ i=>match l[i]? with
        |none=>true
        | some oi=>i==j||
          ((match oi.dst with|none=>true|some d=> !(pA l oj).contains d||IE (xN l []) i j)&&
           (!(lM oi.op&&pW oj.op&&meets (oQ tE oi) (oQ tE oj))||IE (xN l []) i j))
def fY(C:Ctx)(R:FuncId→List AV→AV→Prop):Code→ASt→(AEx→ASt→Prop)→Prop
 | .skip,st,Q=>Q .normal st
 | .label _,st,Q=>Q .normal st
 | .region _ ops dr,st,Q=>match dr&&EQ ops.toList with
  |true=>UR C.noH R ops (Q .normal) ops.size (Array.replicate ops.size false) st∨(C.lt=true∧kX C.noH R ops.toList ops.toList 0 st (λ st'=>GU ops.toList st'.t=true∧Q .normal st'))
  |false=>kX (C.noHif dr) R ops.toList ops.toList 0 st (Q .normal)
 | .seq a b,st,Q=>fY C R a st (λ e st'=>match e with| .normal=>fY C R b st' Q|e=>Q e st')∨fY C R a st (λ e st'=>match e with| .normal=>GhostN st' (λ st''=>fY C R b st'' Q)|e=>Q e st')∨fY C R a st (λ e st'=>match e with| .normal=>GhostN st' (λ st''=>WeakN C.fr st'' (λ stw=>fY C R b stw Q))|e=>Q e st')
 | .cond c x y,st,Q=>match evA C st.t c with| .v (.bool b)=>Branch b (fY C R x st Q) (fY C R y st Q)|_=>False
 | .block id b,st,Q=>fY C R b st (λ e st'=>match e with| .exit i=>(match Nat.beq i id with|true=>Q .normal st'|false=>Q (.exit i) st')|e=>Q e st')
 | .loop b,st,Q=>LoopN C.fr (fY C R b) st Q
 | .exit id,st,Q=>Q (.exit id) st
 | .ret,st,Q=>Q .ret st
 |_,_,_=>False
def resA(C:Ctx)(st:ASt):List ResultVar→Option (List AV)
 |[]=>some []
 | .tmp t::rest=>match resA C st rest with|some r=>some (st.t t::r)|none=>none
 | .cell a t::rest=>
  match st.t a,resA C st rest with
  | .ptr b c,some r=>match st.h b with|some (.box cells)=>(match GP C t cells.length c cells with|some x=>some (x::r)|none=>none)|_=>none
  |_,_=>none
def Ct:List AV→AV
 |[x]=>x
 |xs=>.tup xs
def argsT:List AV→Nat→AV
 |[],_=>.any
 |x::_,0=>x
 |_::xs,n+1=>argsT xs n
section
variable {C:Ctx}{R:FuncId→List AV→AV→Prop}{all rest:List Oper}{o:Oper}{j n:Nat}{t:Nat→AV}{h h':AH}{K:ASt→Prop}{Q:AEx→ASt→Prop}{x:AV}{d:Nat}
theorem Kq{n':Nat}(e:n+j=n')(k:K ⟨t,h,n'⟩):kX C R all [] j ⟨t,h,n⟩ K:=by subst e;exact k
theorem rOk(hg:o.guard=none)(hd:o.dst=some d)(hx:opA C (evA C t) h (n+j) o.op=.ok x)(k:kX C R all rest (j+1) ⟨upd t d x,h,n⟩ K):kX C R all (o::rest) j ⟨t,h,n⟩ K:=by
 simp only[kX,wB,hg,hx,node,hd,yU];exact k
theorem cV{p:Prop}(hg:o.guard=none)(hd:o.dst=some d)(hx:opA C (evA C t) h (n+j) o.op=.need p x)(hp:p)(k:kX C R all rest (j+1) ⟨upd t d x,h,n⟩ K):kX C R all (o::rest) j ⟨t,h,n⟩ K:=by
 simp only[kX,wB,hg,hx,node,hd,yU];exact .mk (λ _=>hp) k
theorem rFx{p:Prop}(hg:o.guard=none)(hd:o.dst=some d)(hx:opA C (evA C t) h (n+j) o.op=.fx p x h')(hp:p)(k:kX C R all rest (j+1) ⟨upd t d x,h',n⟩ K):kX C R all (o::rest) j ⟨t,h,n⟩ K:=by
 simp only[kX,wB,hg,hx,node,hd,yU];exact .mk (λ _=>hp) k
theorem Xj{p:Prop}(hg:o.guard=none)(hd:o.dst=none)(hx:opA C (evA C t) h (n+j) o.op=.fx p x h')(hp:p)(k:kX C R all rest (j+1) ⟨t,h',n⟩ K):kX C R all (o::rest) j ⟨t,h,n⟩ K:=by
 simp only[kX,wB,hg,hx,node,hd,yU];exact .mk (λ _=>hp) k
theorem fW{f:FuncId}{args:List AV}(Post:AV→AH→Prop)(hg:o.guard=none)(hd:o.dst=some d)(hx:opA C (evA C t) h (n+j) o.op=.call f args)(hH:C.H f args h (n+j) Post)(k:∀ x h',Post x h'→kX C R all rest (j+1) ⟨upd t d x,h',n⟩ K):kX C R all (o::rest) j ⟨t,h,n⟩ K:=by
 simp only[kX,wB,hg,hx,node,hd,yU];exact .inr (.mk Post hH k)
theorem YQ{f:FuncId}{args:List AV}(hg:o.guard=none)(hd:o.dst=some d)(hx:opA C (evA C t) h (n+j) o.op=.call f args)(hcl:eV (rA h args)=true)(hf:oP args=true∨(BZ x=true∧jX h args))(hr:eL x=true)(hc:R f (rA h args) x)(k:kX C R all rest (j+1) ⟨upd t d x,h,n⟩ K):kX C R all (o::rest) j ⟨t,h,n⟩ K:=by
 simp only[kX,wB,hg,hx,node,hd,yU];exact .inl (.mk x hcl hf hr (λ _=>hc) k)
theorem YR{p:Prop}{rows:List (List AV)}(l:List UInt8)(hg:o.guard=none)(hd:o.dst=some d)(hx:opA C (evA C t) h (n+j) o.op=.str p rows)(hp:p)(hl:iQ rows=some l)(k:kX C R all rest (j+1) ⟨upd t d (.v (.string ⟨l.toArray⟩)),h,n⟩ K):kX C R all (o::rest) j ⟨t,h,n⟩ K:=by
 simp only[kX,wB,hg,hx,node,hd,yU];exact .mk l (λ _=>⟨hp,hl⟩) k
theorem Ih{rows:List (List AV)}{i:Int}{f:List AV→Option AV}(row:List AV)(hg:o.guard=none)(hd:o.dst=some d)(hx:opA C (evA C t) h (n+j) o.op=.idx rows i f)(hi:0≤i∧rows[i.toNat]?=some row)(hf:f row=some x)(k:kX C R all rest (j+1) ⟨upd t d x,h,n⟩ K):kX C R all (o::rest) j ⟨t,h,n⟩ K:=by
 simp only[kX,wB,hg,hx,node,hd,yU];exact .mk row (λ _=>hi) (by rw[hf];exact k)
theorem nI{rows:List (List AV)}{i:Int}{f:List AV→Option AH}(row:List AV)(hg:o.guard=none)(hd:o.dst=none)(hx:opA C (evA C t) h (n+j) o.op=.idxfx rows i f)(hi:0≤i∧rows[i.toNat]?=some row)(hf:f row=some h')(k:kX C R all rest (j+1) ⟨t,h',n⟩ K):kX C R all (o::rest) j ⟨t,h,n⟩ K:=by
 simp only[kX,wB,hg,hx,node,hd,yU];exact .mk row (λ _=>hi) (by rw[hf];exact k)
theorem gOk{i e:Nat}{pol g:Bool}(hg:o.guard=some (i,pol))(he:(all[i]?).bind (·.dst)=some e)(hgv:yX (t e) pol=some g)(hc:condsO t o.op=none)(hd:o.dst=some d)(hx:opA C (evA C t) h (n+j) o.op=.ok x)(k:kX C R all rest (j+1) ⟨upd t d (.opt g x),h,n⟩ K):kX C R all (o::rest) j ⟨t,h,n⟩ K:=by
 simp only[kX,wB,hg,he,hgv,hc,hx,CN,hd,yU];exact .inl k
theorem WS{i e:Nat}{pol g c:Bool}(hg:o.guard=some (i,pol))(he:(all[i]?).bind (·.dst)=some e)(hgv:yX (t e) pol=some g)(hc:condsO t o.op=some c)(hs:g=true→c=true)(hd:o.dst=some d)(hx:opA C (evS C t o.op) h (n+j) o.op=.ok x)(k:kX C R all rest (j+1) ⟨upd t d (.opt g x),h,n⟩ K):kX C R all (o::rest) j ⟨t,h,n⟩ K:=by
 simp only[kX,wB,hg,he,hgv,hc,hx,CN,hd,yU];exact .mk hs k
theorem sB{p:Prop}{i e:Nat}{pol g c:Bool}(hg:o.guard=some (i,pol))(he:(all[i]?).bind (·.dst)=some e)(hgv:yX (t e) pol=some g)(hc:condsO t o.op=some c)(hs:g=true→c=true)(hd:o.dst=some d)(hx:opA C (evS C t o.op) h (n+j) o.op=.need p x)(hp:g=true→p)(k:kX C R all rest (j+1) ⟨upd t d (.opt g x),h,n⟩ K):kX C R all (o::rest) j ⟨t,h,n⟩ K:=by
 simp only[kX,wB,hg,he,hgv,hc,hx,CN,hd,yU];exact .mk hs (.mk hp k)
theorem kM{f:FuncId}{args:List AV}{i e:Nat}{pol g c:Bool}(hg:o.guard=some (i,pol))(he:(all[i]?).bind (·.dst)=some e)(hgv:yX (t e) pol=some g)(hc:condsO t o.op=some c)(hs:g=true→c=true)(hd:o.dst=some d)(hx:opA C (evS C t o.op) h (n+j) o.op=.call f args)(hcl:eV (rA h args)=true)(hf:oP args=true∨(BZ x=true∧jX h args))(hr:eL x=true)(hp:g=true→R f (rA h args) x)(k:kX C R all rest (j+1) ⟨upd t d (.opt g x),h,n⟩ K):kX C R all (o::rest) j ⟨t,h,n⟩ K:=by
 simp only[kX,wB,hg,he,hgv,hc,hx,CN,hd,yU];exact .mk hs (.mk x hcl hf hr hp k)
theorem IG{rows:List (List AV)}{q:Int}{f:List AV→Option AV}(row:List AV){i e:Nat}{pol g c:Bool}(hg:o.guard=some (i,pol))(he:(all[i]?).bind (·.dst)=some e)(hgv:yX (t e) pol=some g)(hc:condsO t o.op=some c)(hs:g=true→c=true)(hd:o.dst=some d)(hx:opA C (evS C t o.op) h (n+j) o.op=.idx rows q f)(hp:g=true→0≤q∧rows[q.toNat]?=some row)(hf:f row=some x)(k:kX C R all rest (j+1) ⟨upd t d (.opt g x),h,n⟩ K):kX C R all (o::rest) j ⟨t,h,n⟩ K:=by
 simp only[kX,wB,hg,he,hgv,hc,hx,CN,hd,yU];exact .mk hs (.mk row hp (by rw[hf];exact k))
theorem bW{a b:Code}{st:ASt}(k:fY C R a st (λ e st'=>match e with| .normal=>fY C R b st' Q|e=>Q e st')):fY C R (.seq a b) st Q:=.inl k
theorem ER{a b:Code}{st:ASt}(k:fY C R a st (λ e st'=>match e with| .normal=>GhostN st' (λ st''=>fY C R b st'' Q)|e=>Q e st')):fY C R (.seq a b) st Q:=.inr (.inl k)
theorem YS{κ:Type}(S:κ→ASt)(G:κ→Prop){a b:Code}{st:ASt}(ka:fY C R a st (λ e st'=>match e with| .normal=>GhostN st' (λ st''=>∃ k σ,Weak st'' (S k) σ∧keepB C.fr σ (S k).n=true∧G k)|e=>Q e st'))(kb:∀ k,G k→fY C R b (S k) Q)
  (mono:∀ (c:Code) (st:ASt) (Q Q':AEx→ASt→Prop),(∀ e st,Q e st→Q' e st)→fY C R c st Q→fY C R c st Q'):fY C R (.seq a b) st Q:=by
 refine .inr (.inr (mono a st _ _ (λ e st' q=>?_) ka))
 cases e with
 |normal=>obtain⟨st2,g,k,σ,h1,h2,h3⟩:=q;exact .mk st2 g (.mk (S k) σ h1 h2 (kb k h3))
 |exit i=>exact q
 |ret=>exact q
theorem bB{st:ASt}(k:Q .normal st):fY C R .skip st Q:=k
theorem JU{id:Nat}{ops:Array Oper}{l:List Oper}{dr:Bool}{st:ASt}(hl:ops.toList=l)(k:kX (C.noHif dr) R l l 0 st (Q .normal))(hd:(dr&&EQ l)=false:=by kernel_rfl):fY C R (.region id ops dr) st Q:=by
 subst hl;simp only[fY,hd];exact k
theorem ES{id:Nat}{ops:Array Oper}{l:List Oper}{dr:Bool}{st:ASt}(hl:ops.toList=l)(hlt:C.lt=true)(k:kX C.noH R l l 0 st (λ st'=>GU l st'.t=true∧Q .normal st'))(hd:(dr&&EQ l)=true:=by kernel_rfl):fY C R (.region id ops dr) st Q:=by
 subst hl;simp only[fY,hd];exact .inr ⟨hlt,k⟩
section
variable {ops:Array Oper}{next:Array Bool→ASt→Prop}{listed:Array Bool}{i:Nat}
end
theorem aW{c:Operand}{a b:Code}{v:Bool}(hv:evA C t c=.v (.bool v))(k1:v=true→fY C R a ⟨t,h,n⟩ Q)(k2:v=false→fY C R b ⟨t,h,n⟩ Q):fY C R (.cond c a b) ⟨t,h,n⟩ Q:=by
 simp only[fY,hv];exact .mk k1 k2
theorem bK{id:Nat}{b:Code}{st:ASt}(k:fY C R b st (λ e st'=>match e with| .exit i=>(match Nat.beq i id with|true=>Q .normal st'|false=>Q (.exit i) st')|e=>Q e st')):fY C R (.block id b) st Q:=k
theorem eE{id:Nat}{st:ASt}(k:Q (.exit id) st):fY C R (.exit id) st Q:=k
theorem cO{st:ASt}(k:Q .ret st):fY C R .ret st Q:=k
end
inductive Rep(S:Nat→Prop)(w:World):Bt→AV→Value→Prop
 |v {β:Bt} (x:Value):Rep S w β (.v x) x
 |agg {β:Bt} (cs:List AV) (vs:Array Value) (hl:cs.length=vs.size) (h1:∀ (i:Nat) u,vs[i]?=some u→u.oneCell'=true) (h:∀ (i:Nat) a u,cs[i]?=some a→vs[i]?=some u→Rep S w β a u):Rep S w β (.agg cs) (.agg vs)
 |tup {β:Bt} (cs:List AV) (vs:Array Value) (hl:cs.length=vs.size) (h:∀ (i:Nat) a u,cs[i]?=some a→vs[i]?=some u→Rep S w β a u):Rep S w β (.tup cs) (.tuple vs)
 | sl {β:Bt} (rs:Nat) (rows:List (List AV)) (clip:Bool) (A:Option Addr) (c b o:Nat) (u:Nat→Nat→Value) (hc:rows.length≤c) (hm:c≤maxLen) (hcl:clip=true→c=rows.length)
   (hrs:∀ row∈rows,row.length=rs) (hA:0<rows.length→A=some ⟨b,o,none⟩∧S b)
   (hw:∀ (i:Nat) row (j:Nat) a,rows[i]?=some row→row[j]?=some a→w.cell? ⟨b,o+i * rs+j,none⟩=some (u i j))
   (h1:∀ i j,(u i j).oneCell'=true)
   (hr:∀ (i:Nat) row (j:Nat) a,rows[i]?=some row→row[j]?=some a→Rep S w noB a (u i j)):Rep S w β (.sl rs rows clip) (.slice A rows.length c)
 | dp {β:Bt} (rs col:Nat) (row:List AV) (b o:Nat) (u:Nat→Value) (hrs:row.length=rs) (hb:S b) (hw:∀ (j:Nat) a,row[j]?=some a→w.cell? ⟨b,o+j,none⟩=some (u j))
   (h1:∀ j,(u j).oneCell'=true)
   (hr:∀ (j:Nat) a,row[j]?=some a→Rep S w noB a (u j)):Rep S w β (.dp rs col row) (.pointer (some ⟨b,o+col,none⟩))
 |ptr {β:Bt} (s col:Nat) (l:Loc) (hl:β s=some l):Rep S w β (.ptr s col) (.pointer (some ⟨l.blk,l.base+col,none⟩))
 |ptr2 {β:Bt} (s row col:Nat) (l:Loc) (hl:β s=some l):Rep S w β (.ptr2 s row col) (.pointer (some ⟨l.blk,l.base+row * l.rs+col,none⟩))
 | osl {β:Bt} (s lo len:Nat) (clip:Bool) (l:Loc) (A:Option Addr) (c:Nat) (hl:β s=some l) (hc:len≤c) (hm:c≤maxLen) (hcl:clip=true→c=len) (hA:0<c→A=some ⟨l.blk,l.base+lo * l.rs,none⟩)
   (cs:Array Value) (e:TypeId) (fr:Nat×Nat) (hb:w.heap[l.blk]?=some (.cells cs e fr)) (room:l.base+(lo+c) * l.rs≤cs.size):Rep S w β (.osl s lo len clip) (.slice A len c)
 | clo {β:Bt} (f:FuncId) (first caps:List AV) (vs us:Array Value) (hl:first.length=vs.size) (h:∀ (i:Nat) a u,first[i]?=some a→vs[i]?=some u→Rep S w β a u)
   (hl':caps.length=us.size) (h':∀ (i:Nat) a u,caps[i]?=some a→us[i]?=some u→Rep S w β a u):Rep S w β (.clo f first caps) (.func (.func f) vs us)
 |optT {β:Bt} (g:Bool) (a:AV) (x:Value) (hg:g=true) (h:Rep S w β a x):Rep S w β (.opt g a) x
 |optF {β:Bt} (g:Bool) (a:AV) (hg:g=false):Rep S w β (.opt g a) undef
 |any {β:Bt} (x:Value):Rep S w β .any x
theorem fQ{w:World}{b:Nat}{o:Obj}(h:w.heap[b]?=some o):b<w.heap.size:=by
 rcases al_Nat_lt_or_ge b w.heap.size with k|k
 ·exact k
 ·rw[iD k]at h;cases h
structure Evo(S:Nat→Prop)(w w':World):Prop where
 stable:∀ b,S b→w'.heap[b]?=w.heap[b]?
 shape:∀ (b:Nat) (cs:Array Value) (e:TypeId) (fr:Nat×Nat),w.heap[b]?=some (Obj.cells cs e fr)→∃ cs':Array Value,w'.heap[b]?=some (Obj.cells cs' e fr)∧cs'.size=cs.size
theorem Evo.refl(S:Nat→Prop)(w:World):Evo S w w:=⟨λ _ _=>rfl,λ _ cs _ _ h=>⟨cs,h,rfl⟩⟩
theorem Evo.trans{S S':Nat→Prop}{a b c:World}(h:Evo S a b)(hS:∀ x,S x→S' x)(k:Evo S' b c):Evo S a c:=
 ⟨λ x hx=>(k.stable x (hS x hx)).trans (h.stable x hx),λ x cs e fr hx=>by
  obtain⟨c1,h1,h2⟩:=h.shape x cs e fr hx;obtain⟨c2,h3,h4⟩:=k.shape x c1 e fr h1;exact⟨c2,h3,h4.trans h2⟩⟩
theorem Evo.of_kept{S:Nat→Prop}{w w':World}(h:∀ b,b<w.heap.size→w'.heap[b]?=w.heap[b]?)(hS:∀ b,S b→b<w.heap.size):Evo S w w':=
 ⟨λ b hb=>h b (hS b hb),λ b cs _ _ hb=>⟨cs,(h b (fQ hb)).trans hb,rfl⟩⟩
def Lv(β β':Bt):Prop:=∀ s l,β s=some l→β' s=some l
theorem Lv.refl(β:Bt):Lv β β:=λ _ _ h=>h
theorem Lv.trans{a b c:Bt}(h:Lv a b)(k:Lv b c):Lv a c:=λ s l x=>k s l (h s l x)
theorem tH{w w':World}{b o:Nat}(h:w'.heap[b]?=w.heap[b]?):w'.cell? ⟨b,o,none⟩=w.cell? ⟨b,o,none⟩:=by simp only[World.cell?,h]
theorem Rep.mono{S S':Nat→Prop}{w w':World}{β:Bt}{a:AV}{x:Value}(h:Rep S w β a x)(hS:∀ b,S b→S' b)(hE:Evo S w w'):∀ {β':Bt},Lv β β'→Rep S' w' β' a x:=by
 induction h with
 |v x=>intro β' _;exact .v x
 |agg cs vs hl h1 h ih=>intro β' hb;exact .agg cs vs hl h1 λ i a u h1 h2=>ih i a u h1 h2 hb
 |tup cs vs hl h ih=>intro β' hb;exact .tup cs vs hl λ i a u h1 h2=>ih i a u h1 h2 hb
 |sl rs rows clip A c b o u hc hm hcl hrs hA hw h1 hr ih=>
  intro β' _;refine .sl rs rows clip A c b o u hc hm hcl hrs (λ h0=>⟨(hA h0).1,hS _ (hA h0).2⟩) (λ i row j a h1 h2=>?_) h1 λ i row j a h1 h2=>ih i row j a h1 h2 (Lv.refl _);have h0:0<rows.length:=bM (aE i) (Dq.1 h1).1;rw[tH (hE.stable b (hA h0).2)]
  exact hw i row j a h1 h2
 |dp rs col row b o u hrs hb hw h1 hr ih=>
  intro β' _
  exact .dp rs col row b o u hrs (hS _ hb) (λ j a h1=>by rw[tH (hE.stable b hb)];exact hw j a h1) h1 λ j a h1=>ih j a h1 (Lv.refl _)
 |ptr s col l hl=>intro β' hb;exact .ptr s col l (hb _ _ hl)
 |ptr2 s row col l hl=>intro β' hb;exact .ptr2 s row col l (hb _ _ hl)
 |osl s lo len clip l A c hl hc hm hcl hA cs e fr hb room=>
  intro β' hβ;obtain⟨cs',h1,h2⟩:=hE.shape _ _ _ _ hb
  exact .osl s lo len clip l A c (hβ _ _ hl) hc hm hcl hA cs' e fr h1 (by rw[h2];exact room)
 |clo f first caps vs us hl h hl' h' ih ih'=>intro β' hb;exact .clo f first caps vs us hl (λ i a u h1 h2=>ih i a u h1 h2 hb) hl' λ i a u h1 h2=>ih' i a u h1 h2 hb
 |optT g a x hg h ih=>intro β' hb;exact .optT g a x hg (ih hb)
 |optF g a hg=>intro β' _;exact .optF g a hg
 |any x=>intro β' _;exact .any x
def RepL(S:Nat→Prop)(w:World)(β:Bt)(cs:List AV)(vs:List Value):Prop:=cs.length=vs.length∧∀ (i:Nat) a u,cs[i]?=some a→vs[i]?=some u→Rep S w β a u
theorem RepL.nil(S:Nat→Prop)(w:World)(β:Bt):RepL S w β [] []:=⟨rfl,λ i a u h=>by simp at h⟩
theorem RepL.cons{S:Nat→Prop}{w:World}{β:Bt}{a:AV}{u:Value}{cs:List AV}{vs:List Value}(h:Rep S w β a u)(k:RepL S w β cs vs):RepL S w β (a::cs) (u::vs):=
 ⟨by simp[k.1],λ i a' u' h1 h2=>by
  cases i with
  |zero=>simp at h1 h2;subst h1 h2;exact h
  |succ i=>simp at h1 h2;exact k.2 i a' u' h1 h2⟩
def At(S:Nat→Prop)(w:World)(β:Bt)(l:Loc)(cs:Array Value):Blk→Prop
 | .box cells=>∀ (j:Nat) a,cells[j]?=some a→∃ u,cs[l.base+j]?=some u∧u.oneCell'=true∧Rep S w β a u
 | .arr rows rs=>l.rs=rs∧(∀ row∈rows,row.length=rs)∧∀ (i:Nat) row (j:Nat) a,rows[i]?=some row→row[j]?=some a→∃ u,cs[l.base+i * rs+j]?=some u∧u.oneCell'=true∧Rep S w noB a u
 | .row cells=>l.rs=1∧∀ (j:Nat) a,cells[j]?=some a→∃ u,cs[l.base+j]?=some u∧u.oneCell'=true∧Rep S w β a u
structure SimH(B:Nat)(S:Nat→Prop)(w:World)(β:Bt)(h:AH):Prop where
 own:∀ s blk,h s=some blk→∃ l cs e fr,β s=some l∧w.heap[l.blk]?=some (.cells cs e fr)∧(∀ o,o<cs.size→(decide (fr.1≤o)&&decide (o<fr.2))=false)∧B≤l.blk∧ ¬ S l.blk∧At S w β l cs blk
 inj:∀ s s' l l',h s≠none→h s'≠none→β s=some l→β s'=some l'→l.blk=l'.blk→s=s'
 lt:∀ b,S b→b<w.heap.size
 big:B≤w.heap.size
theorem At.mono{S S':Nat→Prop}{w w':World}{β β':Bt}{l:Loc}{cs:Array Value}{blk:Blk}(h:At S w β l cs blk)(hS:∀ b,S b→S' b)(hE:Evo S w w')(hb:Lv β β'):At S' w' β' l cs blk:=by
 cases blk with
 |box cells=>exact λ j a h1=>let ⟨u,h2,h4,h3⟩:=h j a h1;⟨u,h2,h4,h3.mono hS hE hb⟩
 |arr rows rs=>exact⟨h.1,h.2.1,λ i row j a h1 h2=>let ⟨u,h3,h5,h4⟩:=h.2.2 i row j a h1 h2;⟨u,h3,h5,h4.mono hS hE (Lv.refl _)⟩⟩
 |row cells=>exact⟨h.1,λ j a h1=>let ⟨u,h2,h4,h3⟩:=h.2 j a h1;⟨u,h2,h4,h3.mono hS hE hb⟩⟩
theorem gK{w:World}{b:Nat}{cs:Array Value}{e:TypeId}{fr:Nat×Nat}(h:w.heap[b]?=some (.cells cs e fr))(o:Nat):w.cell? ⟨b,o,none⟩=cs[o]? :=by simp[World.cell?,h]
theorem uN{w:World}{b:Nat}{cs:Array Value}{e:TypeId}{fr:Nat×Nat}(h:w.heap[b]?=some (.cells cs e fr))(hf:∀ o,o<cs.size→(decide (fr.1≤o)&&decide (o<fr.2))=false)(o:Nat)(ho:o<cs.size):w.frozen? ⟨b,o,none⟩=false:=by
 simp only[World.frozen?,h];exact hf o ho
structure StepK(B:Nat)(S:Nat→Prop)(w:World)(β:Bt)(s:Nat)(S':Nat→Prop)(w':World)(β':Bt):Prop where
 hS:∀ b,S b→S' b
 hE:Evo S w w'
 hB:Below B w w'
 hle:Lv β β'
 hdom:∀ x l,β' x=some l→β x=some l∨(x=s∧(w.heap.size≤l.blk∨∃ y k,β y=some k∧k.blk=l.blk))
 hN:∀ b,S' b→S b∨(B≤b∧(w.heap.size≤b∨∃ y k,β y=some k∧k.blk=b))
 hO:∀ b,b<w.heap.size→(∀ y k,β y=some k→k.blk≠b)→w'.heap[b]?=w.heap[b]?
structure Inv(fr:Nat) where
 p:(Nat→Prop)→World→Bt→Prop
 mono:∀ {B:Nat} {S:Nat→Prop} {w:World} {β:Bt} {s:Nat} {S':Nat→Prop} {w':World} {β':Bt},p S w β→StepK B S w β s S' w' β'→p S' w' β'
 weak:∀ {S:Nat→Prop} {w:World} {β:Bt} {σ:Nat→Nat} {n:Nat},p S w β→keepB fr σ n=true→p S w (λ s=>if s<n then β (σ s)else none)
 frz:∀ {S:Nat→Prop} {w:World} {β:Bt} {x:Nat} {l:Loc},p S w β→β x=some l→p (λ b=>S b∨b=l.blk) w β
 heap:∀ {S:Nat→Prop} {w w':World} {β:Bt},p S w β→w'.heap=w.heap→p S w' β
def Inv.any(fr:Nat):Inv fr:=⟨λ _ _ _=>True,λ _ _=>trivial,λ _ _=>trivial,λ _ _=>trivial,λ _ _=>trivial⟩
def ZX(G:Nat→Option (List AV))(S:Nat→Prop)(w:World):Prop:=∀ g cells,G g=some cells→Rep S w noB (.dp cells.length 0 cells) (.pointer (some ⟨g,0,none⟩))
def pV(P:Program)(G:Nat→Option (List AV))(f:FuncId)(args:List AV)(h:AH)(s:Nat)(Post:AV→AH→Prop):Prop:=
 (∃ fn,P.funcs[f]?=some fn∧fn.body.isSome=true∧(fn.name== "runtime.NumGoroutine")=false)∧
 ∀ (B:Nat) (S:Nat→Prop) (w:World) (β:Bt) (vs:List Value),SimH B S w β h→(∀ x l,β x=some l→x<s)→ZX G S w→RepL S w β args vs→
  Calls P f vs.toArray w λ e w'=>∃ v S' β' r h',Post r h'∧e=.returned v∧Rep S' w' β' r v∧SimH B S' w' β' h'∧StepK B S w β s S' w' β'
structure CellL(S:Nat→Prop)(w:World)(β:Bt)(cs:List AV)(vs:List Value):Prop where
 rep:RepL S w β cs vs
 one:∀ (i:Nat) u,vs[i]?=some u→u.oneCell'=true
theorem GC:∀ (l:List AV) (n:Nat),Lw l n=l[n]?
 |[],n=>by simp[Lw]
 |x::l,0=>by simp[Lw]
 |x::l,n+1=>by simp[Lw,GC l n]
theorem GD:∀ (n:Nat) (l:List AV),GM n l=l.take n
 |0,l=>by simp[GM]
 |n+1,[]=>by simp[GM]
 |n+1,x::l=>by simp[GM,GD n l]
theorem GE:∀ (n:Nat) (l:List AV),EN n l=l.drop n
 |0,l=>by simp[EN]
 |n+1,[]=>by simp[EN]
 |n+1,x::l=>by simp[EN,GE n l]
theorem GF:∀ (l:List (Nat×TypeId)) (n:Nat),Oq l n=l[n]?
 |[],n=>by simp[Oq]
 |x::l,0=>by simp[Oq]
 |x::l,n+1=>by simp[Oq,GF l n]
theorem uM:∀ (n:Nat) (cs l:List AV),n+cs.length≤l.length→(yV n cs l).length=l.length
 |0,[],l,_=>by simp[yV]
 |0,c::cs,x::l,h=>by simp[yV,uM 0 cs l (by simp at h;omega)]
 |0,c::cs,[],h=>by simp at h
 |n+1,cs,x::l,h=>by simp[yV,uM n cs l (by simp at h;omega)]
 |n+1,cs,[],h=>by simp at h
theorem Be:∀ (n:Nat) (cs l:List AV) (j:Nat),n+cs.length≤l.length→(yV n cs l)[j]?=if n≤j∧j<n+cs.length then cs[j - n]? else l[j]?
 |0,[],l,j,_=>by simp[yV]
 |0,c::cs,x::l,0,h=>by simp[yV]
 |0,c::cs,x::l,j+1,h=>by
  simp[yV,Be 0 cs l j (by simp at h;omega)]
 |0,c::cs,[],j,h=>by simp at h
 |n+1,cs,x::l,0,h=>by simp[yV]
 |n+1,cs,x::l,j+1,h=>by
  simp only[yV,dE,Be n cs l j (by simp at h;omega)];have:j+1 - (n+1)=j - n:=by omega
  rw[this];by_cases hc:n≤j∧j<n+cs.length
  ·rw[if_pos hc,if_pos (by omega)]
  ·rw[if_neg hc,if_neg (by omega)]
 |n+1,cs,[],j,h=>by simp at h
def eqV:CK→Value→Value→Option Bool
 | .i,.int k a,.int k' b=>match xM k k' with|true=>some (a==b)|false=>none
 | .b,.bool a,.bool b=>some (a==b)
 | .s,.string a,.string b=>some (a==b)
 |_,_,_=>none
def eqVL:List CK→List Value→List Value→Option Bool
 |[],[],[]=>some true
 |k::ks,x::xs,y::ys=>match eqV k x y,eqVL ks xs ys with|some a,some b=>some (a&&b)|_,_=>none
 |_,_,_=>none
def Xa(P:Program)(t:TypeId)(ks:List CK):Prop:=∀ (xs ys:Array Value) (b:Bool) (x y:Operand) (w:World),eqVL ks xs.toList ys.toList=some b→
 (do eqGuard .eql t x y (.agg xs) (.agg ys);binOp .eql t (.agg xs) (.agg ys):Sem Value).run P w=.ok (.bool b) w∧
 (do eqGuard .neq t x y (.agg xs) (.agg ys);binOp .neq t (.agg xs) (.agg ys):Sem Value).run P w=.ok (.bool (!b)) w
structure TyOk(P:Program)(t:TypeId)(i:TI):Prop where
 info:∃ inf z,P.info? t=some inf∧inf.size=i.sz∧inf.bytes=i.bytes∧inf.zero=some z∧i.zero=NM z∧z.cells.size=i.sz∧0<i.sz∧i.bytes≤1000
 one:∀ inf z,P.info? t=some inf→inf.zero=some z→∀ (k:Nat) u,z.cells[k]?=some u→u.oneCell'=true
 ag:∃ d,P.underlying t=some d∧d.isRow=i.ag
 kd:match i.kd with
  | .bool=>P.underlying t=some .bool
  | .int k=>P.underlying t=some (.int k)
  | .string=>P.underlying t=some .string
  | .slice e=>P.underlying t=some (.slice e)
  | .array n e=>P.underlying t=some (.array n e)
  | .struct fs=>∃ fields,P.underlying t=some (.struct fields)∧fields.toList.map (λ f=>(f.offset,f.type))=fs∧∀ f∈fields.toList,∃ inf,P.info? f.type=some inf∧inf.size≠0
  |_=>True
 eq:i.eq≠[]→Xa P t i.eq
structure CtxOk(C:Ctx):Prop where
 ty:∀ t i,C.ty t=some i→TyOk C.P t i
 mixed:C.P.follows .mixedOrders=true
 hH:∀ f args h s Post,C.H f args h s Post→pV C.P C.G f args h s Post
def Yld(P:Program)(S:Nat→Prop)(w:World)(β:Bt)(x:AV)(r:Sem Value):Prop:=∃ v,r.run P w=.ok v w∧Rep S w β x v
def qZ(P:Program)(S:Nat→Prop)(w:World)(β:Bt)(r:Sem Value):Res→Prop
 | .bad=>True
 | .ok x=>Yld P S w β x r
 | .need p x=>p→Yld P S w β x r
 | .idx rows i f=>∀ row x,0≤i→rows[i.toNat]?=some row→f row=some x→Yld P S w β x r
 | .str p rows=>∀ l,p→iQ rows=some l→Yld P S w β (.v (.string ⟨l.toArray⟩)) r
 |_=>False
section
variable {C:Ctx}{S:Nat→Prop}{w:World}{β:Bt}
theorem Ok:Rep S w β (.sl 0 [] true) (.slice none 0 0):=
 .sl 0 [] true none 0 0 0 (λ _ _=>.bool false) (aC _) (aE _) (λ _=>rfl) (by simp) (by simp) (by simp) (λ _ _=>rfl) (by simp)
theorem RB(x:Value):Rep S w β (Xg x) x:=by
 unfold Xg;split
 ·exact Ok
 ·exact .v _
theorem Bf:∀ (l:List Value),WR l=true→∀ (i:Nat) u,l[i]?=some u→u.oneCell'=true
 |[],_,i,u,h=>by simp at h
 | v::l,h,i,u,hi=>by
  simp only[WR]at h;split at h
  ·rename_i hv
   cases i with
   |zero=>simp at hi;subst hi;exact hv
   |succ i=>exact Bf l h i u (by simpa using hi)
  ·cases h
theorem GG(x:Value):Rep S w β (NM x) x:=by
 unfold NM;split
 ·exact Ok
 ·split
  ·rename_i cs h;refine .agg _ _ (by simp) (λ i u hu=>Bf _ h i u (by simpa using hu)) λ i a u h1 h2=>?_;simp only[aZ,bG,h2,dG,Option.some.injEq]at h1;subst h1;exact RB _
  ·exact .any _
 ·exact .v _
theorem uE{a:AV}{v:Value}{cs:List AV}(h:Rep S w β a v)(hc:kL a=some cs):CellL S w β cs v.cells.toList:=by
 have one:∀ (a:AV) (v:Value),Rep S w β a v→v.cells= #[v]→v.oneCell'=true→CellL S w β [a] v.cells.toList:=λ a v h e h1=>by
  rw[e];exact⟨RepL.cons h (RepL.nil _ _ _),λ i u hu=>by
   cases i with
   |zero=>simp at hu;subst hu;exact h1
   |succ i=>simp at hu⟩
 cases h with
 | v=>
  cases v<;>simp only[kL]at hc<;>first
   |(cases hc;done)
   |(injection hc with hc;subst hc;exact one _ _ (.v _) rfl rfl)
 |agg ds vs hl h1 h=>
  simp only[kL]at hc;injection hc with hc;subst hc
  exact⟨⟨by simpa [Value.cells]using hl,λ i a u h1 h2=>h i a u h1 (by simpa [Value.cells]using h2)⟩,λ i u hu=>h1 i u (by simpa [Value.cells]using hu)⟩
 |tup ds vs hl h=>simp[kL]at hc
 |sl rs rows clip A c b o u hc' hm hcl hrs hA hw h1 hr=>
  simp only[kL]at hc;injection hc with hc;subst hc
  exact one _ _ (.sl rs rows clip A c b o u hc' hm hcl hrs hA hw h1 hr) rfl rfl
 |dp rs col row b o u hrs hb hw h1 hr=>
  simp only[kL]at hc;injection hc with hc;subst hc
  exact one _ _ (.dp rs col row b o u hrs hb hw h1 hr) rfl rfl
 |ptr s col l hl=>simp only[kL]at hc;injection hc with hc;subst hc;exact one _ _ (.ptr s col l hl) rfl rfl
 |ptr2 s row col l hl=>simp only[kL]at hc;injection hc with hc;subst hc;exact one _ _ (.ptr2 s row col l hl) rfl rfl
 |osl s lo len clip l A c hl hc' hm hcl hA ds e fr hb room=>
  simp only[kL]at hc;injection hc with hc;subst hc
  exact one _ _ (.osl s lo len clip l A c hl hc' hm hcl hA ds e fr hb room) rfl rfl
 |clo f first caps vs us hl h hl' h'=>
  simp only[kL]at hc;injection hc with hc;subst hc
  exact one _ _ (.clo f first caps vs us hl h hl' h') rfl rfl
 |optT g a x hg h=>simp[kL]at hc
 |optF g a hg=>simp[kL]at hc
 |any x=>simp[kL]at hc
theorem tW{b:Bool}{v:Value}(h:Rep S w β (.v (.bool b)) v):v=.bool b:=by cases h;rfl
theorem lK{x v:Value}(h:Rep S w β (.v x) v):v=x:=by cases h;rfl
theorem GI{g:Bool}{a:AV}{v:Value}(h:Rep S w β (.opt g a) v)(hg:g=true):Rep S w β a v:=by
 cases h with
 |optT _ _ _ _ h=>exact h
 |optF _ _ h=>rw[hg]at h;cases h
theorem UL{P:Program}{ac aa ab:AV}{vc va vb:Value}(hc:Rep S w β ac vc)(ha:Rep S w β aa va)(hb:Rep S w β ab vb):
  qZ P S w β (do pure (if←asBool vc then va else vb))
   (GR ac aa ab):=by
 unfold GR;split
 ·rename_i c x y;cases tW hc;cases tW ha;cases tW hb
  refine⟨_,rfl,?_⟩;cases c<;>exact .v _
 ·rename_i c g x y;cases tW hc;cases tW hb
  intro hg
  cases c with
  |true=>cases tW (GI ha (hg rfl));exact⟨_,rfl,.v _⟩
  |false=>exact⟨_,rfl,.v _⟩
 ·rename_i c x g y;cases tW hc;cases tW ha
  intro hg
  cases c with
  |false=>cases tW (GI hb (hg rfl));exact⟨_,rfl,.v _⟩
  |true=>exact⟨_,rfl,.v _⟩
 ·trivial
theorem RC{P:Program}(op:BinOp)(t:TypeId)(k:IntKind)(a b:Int)(h:DD op=false):qZ P S w β (binOp op t (.int k a) (.int k b)) (GN op k a b):=by
 cases op<;>simp only[DD,Bool.true_eq_false]at h<;>simp only[GN,qZ,binOp,ne_eq,not_true_eq_false,iG,Op.intArith,Op.intBits,Op.intCmp]<;>first
  |exact⟨_,rfl,.v _⟩
  |(intro hb;simp only[Op.intDiv,hb,iG];exact⟨_,rfl,.v _⟩)
  |trivial
theorem UM{P:Program}(op:BinOp)(t:TypeId)(k k':IntKind)(a b:Int)(h:DD op=true):qZ P S w β (binOp op t (.int k a) (.int k' b)) (RJ op k a b):=by
 cases op<;>simp only[DD,bU]at h<;>simp only[RJ,qZ,binOp]<;>(intro hb;simp only[Op.shift,if_neg (Int.not_lt.2 hb)];exact⟨_,rfl,.v _⟩)
theorem DB{a b:IntKind}(h:xM a b=true):a=b:=by cases a<;>cases b<;>first|rfl|(simp[xM]at h)
theorem Ol{P:Program}(op:BinOp)(t:TypeId)(a b:Bool)(ht:P.underlying t=some .bool):qZ P S w β (binOp op t (.bool a) (.bool b)) (Bh op a b):=by
 have he:(Op.equal t (.bool a) (.bool b)).run P w=.ok (a==b) w:=by
  unfold Op.equal;rw[show Op.maxDepth=9999+1 from rfl,Op.equalIn];simp only[Sem.run_bind,run_underlying ht,Result.andThen_ok,Sem.run_pure]
 cases op<;>simp only[Bh,qZ,binOp]<;>exact⟨_,by simp only[Sem.run_bind,he,Result.andThen_ok,Sem.run_pure],.v _⟩
theorem RD{P:Program}(op:BinOp)(t:TypeId)(a b:ByteArray):qZ P S w β (binOp op t (.string a) (.string b)) (GO op a b):=by
 cases op<;>simp only[GO,qZ,binOp,Op.stringOp]<;>first
  |exact⟨_,rfl,.v _⟩
  |(intro hb;rw[if_neg (Int.not_lt.2 hb)];exact⟨_,rfl,.v _⟩)
theorem UN{k:CK}{a b:AV}{u v:Value}{r:Bool}(ha:Rep S w β a u)(hb:Rep S w β b v)(h:eqS k a b=some r):eqV k u v=some r:=by
 unfold eqS at h;split at h
 ·cases lK ha;cases lK hb;exact h
 ·cases lK ha;cases lK hb;exact h
 ·cases lK ha;cases lK hb;exact h
 ·cases h
theorem GJ:∀ (ks:List CK) (xs ys:List AV) (us vs:List Value) (r:Bool),RepL S w β xs us→RepL S w β ys vs→eqL ks xs ys=some r→eqVL ks us vs=some r
 |[],[],[],us,vs,r,hx,hy,h=>by
  have h1:us=[]:=aX (by simpa using hx.1.symm);have h2:vs=[]:=aX (by simpa using hy.1.symm);subst h1;subst h2
  exact h
 | k::ks,x::xs,y::ys,us,vs,r,hx,hy,h=>by
  match us,vs,hx,hy with
  |[],_,hx,_=>simp[RepL]at hx
  |_::_,[],_,hy=>simp[RepL]at hy
  | u::us,v::vs,hx,hy=>
   simp only[eqL]at h;split at h
   ·rename_i a b h1 h2;have e1:=UN (hx.2 0 x u rfl rfl) (hy.2 0 y v rfl rfl) h1;have e2:=GJ ks xs ys us vs b ⟨by simpa using hx.1,λ i a' u' p q=>hx.2 (i+1) a' u' (by simpa using p) (by simpa using q)⟩ ⟨by simpa using hy.1,λ i a' u' p q=>hy.2 (i+1) a' u' (by simpa using p) (by simpa using q)⟩ h2;simp only[eqVL,e1,e2];exact h
   ·cases h
 |[],_::_,_,_,_,_,_,_,h=>by simp[eqL]at h
 |[],[],_::_,_,_,_,_,_,h=>by simp[eqL]at h
 |_::_,[],_,_,_,_,_,_,h=>by simp[eqL]at h
 |_::_,_::_,[],_,_,_,_,_,h=>by simp[eqL]at h
theorem Xb(hC:CtxOk C)(op:BinOp)(t:TypeId)(x y:Operand){ax ay:AV}{vx vy:Value}(hx:Rep S w β ax vx)(hy:Rep S w β ay vy):
  qZ C.P S w β (do eqGuard op t x y vx vy;binOp op t vx vy) (RK C op t ax ay):=by
 have plain:∀ (r:Res) (vx vy:Value),(eqGuard op t x y vx vy).run C.P w=.ok () w→qZ C.P S w β (binOp op t vx vy) r→qZ C.P S w β (do eqGuard op t x y vx vy;binOp op t vx vy) r:=by
  intro r vx vy hg hr;have key:∀ z,Yld C.P S w β z (binOp op t vx vy)→Yld C.P S w β z (do eqGuard op t x y vx vy;binOp op t vx vy):=by
   rintro z ⟨v,h1,h2⟩;exact⟨v,by simp only[Sem.run_bind,hg,Result.andThen_ok,h1],h2⟩
  cases r<;>simp only[qZ]at hr⊢
  ·exact key _ hr
  ·exact λ hp=>key _ (hr hp)
  ·exact λ row z h0 h1 h2=>key _ (hr row z h0 h1 h2)
  ·exact λ l hp h0=>key _ (hr l hp h0)
 unfold RK;split
 ·rename_i k a k' b;cases lK hx;cases lK hy
  have hg:(eqGuard op t x y (.int k a) (.int k' b)).run C.P w=.ok () w:=by unfold eqGuard;cases op<;>rfl
  split
  ·rename_i hs;exact plain _ _ _ hg (UM op t k k' a b hs)
  ·rename_i hs;split
   ·rename_i hk;obtain rfl:=DB hk;exact plain _ _ _ hg (RC op t k a b hs)
   ·trivial
 ·rename_i a b;cases lK hx;cases lK hy
  split
  ·rename_i hty;have hT:=(hC.ty t _ hty).kd;exact plain _ _ _ (by unfold eqGuard;cases op<;>rfl) (Ol op t a b hT)
  ·trivial
 ·rename_i a b;cases lK hx;cases lK hy
  exact plain _ _ _ (by unfold eqGuard;cases op<;>rfl) (RD op t a b)
 ·rename_i xs ys;split
  ·rename_i hty;have hT:=(hC.ty t _ hty).eq (by simp)
   cases hx with
   |agg _ us hl h1 h=>
   cases hy with
   |agg _ vs hl' h1' h'=>
   have rx:RepL S w β xs us.toList:=⟨by simpa using hl,λ i a u p q=>h i a u p (by simpa using q)⟩;have ry:RepL S w β ys vs.toList:=⟨by simpa using hl',λ i a u p q=>h' i a u p (by simpa using q)⟩;split
   ·rename_i b hb;exact⟨_,(hT us vs b x y w (GJ _ _ _ _ _ _ rx ry hb)).1,.v _⟩
   ·rename_i b hb;exact⟨_,(hT us vs b x y w (GJ _ _ _ _ _ _ rx ry hb)).2,.v _⟩
   ·trivial
  ·trivial
 ·trivial
theorem AD(P:Program)(w:World)(n:Nat)(t:TypeId)(e:TypeId)(ht:P.underlying t=some (.slice e))(a:Option Addr)(l c:Nat):(Op.equalIn (n+1) t (.slice a l c) (.slice none 0 0)).run P w=.ok (a.isNone) w:=by
 have hu:(underlying t).run P w=.ok (.slice e) w:=by
  unfold underlying;rw[Sem.run_bind];show (match P.underlying t with|some d=>(pure d:Sem TypeDesc)|none=>stuck "no such type").run P w=_;rw[ht];rfl
 cases a<;>simp only[Op.equalIn,Sem.run_bind,hu,Result.andThen_ok]<;>rfl
theorem Xc(hC:CtxOk C)(op:BinOp)(t:TypeId)(x y:Operand){neq:Bool}{ax:AV}{vx vy:Value}(hn:UQ op y=some neq)(hvy:∀ v,y=.const v→vy=v)(hx:Rep S w β ax vx):
  qZ C.P S w β (do eqGuard op t x y vx vy;binOp op t vx vy) (Bi C neq t ax):=by
 have key:∀ (e:TypeId) (A:Option Addr) (l c:Nat),C.P.underlying t=some (.slice e)→vx=.slice A l c→(do eqGuard op t x y vx vy;binOp op t vx vy:Sem Value).run C.P w=.ok (.bool (A.isNone != neq)) w:=by
  intro e A l c hT hv;subst hv;have e1:(Op.equal t (.slice A l c) (.slice none 0 0)).run C.P w=.ok A.isNone w:=AD C.P w 9999 t e hT A l c;unfold UQ at hn;split at hn
  ·injection hn with hn;subst hn;obtain rfl:=hvy _ rfl;have hg:(eqGuard .eql t x (.const (.slice none 0 0)) (.slice A l c) (.slice none 0 0)).run C.P w=.ok () w:=by unfold eqGuard;rfl
   simp only[Sem.run_bind,hg,Result.andThen_ok,binOp,e1,Sem.run_pure];cases A<;>rfl
  ·injection hn with hn;subst hn;obtain rfl:=hvy _ rfl;have hg:(eqGuard .neq t x (.const (.slice none 0 0)) (.slice A l c) (.slice none 0 0)).run C.P w=.ok () w:=by unfold eqGuard;rfl
   simp only[Sem.run_bind,hg,Result.andThen_ok,binOp,e1,Sem.run_pure];cases A<;>rfl
  ·cases hn
 unfold Bi;split
 ·rename_i hty;have hT:=(hC.ty t _ hty).kd;split
  ·cases lK hx;exact⟨_,key _ _ _ _ hT rfl,by cases neq<;>exact .v _⟩
  ·cases lK hx;exact⟨_,key _ _ _ _ hT rfl,by cases neq<;>exact .v _⟩
  ·cases hx with
   |sl rs rows clip A c b o u hc hm hcl hrs hA hw h1 hr=>
    obtain⟨rfl, -⟩:=hA (by simp);exact⟨_,key _ _ _ _ hT rfl,by cases neq<;>exact .v _⟩
  ·trivial
 ·trivial
theorem YO{P:Program}(op:UnOp){ax:AV}{vx:Value}(hx:Rep S w β ax vx):qZ P S w β (Op.unary op vx) (unA op ax):=by
 unfold unA;split
 ·cases lK hx;exact⟨_,rfl,.v _⟩
 ·cases lK hx;exact⟨_,rfl,.v _⟩
 ·cases lK hx;exact⟨_,rfl,.v _⟩
 ·trivial
theorem UO(hC:CtxOk C)(src dst:TypeId){ax:AV}{vx:Value}(hx:Rep S w β ax vx):qZ C.P S w β (convert src dst vx) (CL C src dst ax):=by
 unfold CL;split
 ·rename_i h1 h2;cases lK hx
  have e1:=(hC.ty _ _ h1).kd;have e2:=(hC.ty _ _ h2).kd;exact⟨_,by simp only[convert,Sem.run_bind,run_underlying e1,run_underlying e2,Result.andThen_ok];rfl,.v _⟩
 ·rename_i h1 h2;cases lK hx
  have e1:=(hC.ty _ _ h1).kd;have e2:=(hC.ty _ _ h2).kd;exact⟨_,by simp only[convert,Sem.run_bind,run_underlying e1,run_underlying e2,Result.andThen_ok];rfl,.v _⟩
 ·trivial
theorem Xd{P:Program}(ts:Array TypeId)(ty:TypeId){x y:AV}{vx vy:Value}(hx:Rep S w β x vx)(hy:Rep S w β y vy):qZ P S w β (Builtin.min_ ts ty #[vx,vy]) (RM x y):=by
 unfold RM;split
 ·cases lK hx;cases lK hy;split
  ·exact⟨_,rfl,.v _⟩
  ·trivial
 ·trivial
theorem Xe{P:Program}(ts:Array TypeId)(ty:TypeId){x y:AV}{vx vy:Value}(hx:Rep S w β x vx)(hy:Rep S w β y vy):qZ P S w β (Builtin.max_ ts ty #[vx,vy]) (RN x y):=by
 unfold RN;split
 ·cases lK hx;cases lK hy;split
  ·exact⟨_,rfl,.v _⟩
  ·trivial
 ·trivial
theorem fX:∀ (cs:List AV),eV cs=true→∀ (i:Nat) a,cs[i]?=some a→eL a=true
 |[],_,i,a,h=>by simp at h
 | x::xs,hc,i,a,hi=>by
  simp only[eV]at hc;split at hc
  ·rename_i hx
   cases i with
   |zero=>simp at hi;subst hi;exact hx
   |succ i=>exact fX xs hc i a (by simpa using hi)
  ·cases hc
theorem lP{a:AV}{v:Value}(hr:Rep S w β a v):eL a=true→∀ β',Rep S w β' a v:=by
 induction hr with
 |v x=>intro _ β';exact .v x
 |agg cs vs hl h1 h ih=>intro hc β';exact .agg cs vs hl h1 λ i a u p q=>ih i a u p q (fX cs (by simpa [eL]using hc) i a p) β'
 |tup cs vs hl h ih=>intro hc β';exact .tup cs vs hl λ i a u p q=>ih i a u p q (fX cs (by simpa [eL]using hc) i a p) β'
 |sl rs rows clip A c b o u hc hm hcl hrs hA hw h1 hr ih=>intro _ β';exact .sl rs rows clip A c b o u hc hm hcl hrs hA hw h1 hr
 |dp rs col row b o u hrs hb hw h1 hr ih=>intro _ β';exact .dp rs col row b o u hrs hb hw h1 hr
 | clo f first caps vs us hl h hl' h' ih ih'=>
  intro hc β';simp only[eL]at hc;split at hc
  ·rename_i hf;exact .clo f first caps vs us hl (λ i a u p q=>ih i a u p q (fX _ hf i a p) β') hl' λ i a u p q=>ih' i a u p q (fX _ hc i a p) β'
  ·cases hc
 |ptr=>intro hc;simp[eL]at hc
 |ptr2=>intro hc;simp[eL]at hc
 |osl=>intro hc;simp[eL]at hc
 |optT=>intro hc;simp[eL]at hc
 |optF=>intro hc;simp[eL]at hc
 |any=>intro hc;simp[eL]at hc
end
end Go.Proofs.YtlhofpglndhfaaaGreatDoor
namespace Go.Proofs.YtlhofpglndhfaaaGreatDoor
open Go.RowKit
section
variable {C:Ctx}{S:Nat→Prop}{w:World}{β:Bt}{B:Nat}{h:AH}
theorem Cs{b:Nat}:∀ (seg:List AV) (o:Nat),(∀ (j:Nat) a,seg[j]?=some a→∃ u,w.cell? ⟨b,o+j,none⟩=some u∧u.oneCell'=true∧Rep S w β a u)→
  ∃ vs:List Value,vs.length=seg.length∧w.rangeAt b o vs∧CellL S w β seg vs
 |[],o,_=>⟨[],rfl,λ j v hv=>by simp at hv,⟨RepL.nil _ _ _,λ i u hu=>by simp at hu⟩⟩
 | a::seg,o,H=>by
  obtain⟨u,h1,h2,h3⟩:=H 0 a rfl;obtain⟨vs,e1,e2,e3⟩:=Cs seg (o+1) λ j a' hj=>by
   obtain⟨u',k1,k2⟩:=H (j+1) a' (by simpa using hj);exact⟨u',by rw[←k1];congr 2;omega,k2⟩
  refine⟨u::vs,by simp[e1],λ j v hv=>?_,⟨RepL.cons h3 e3.rep,λ i u' hu=>?_⟩⟩
  ·cases j with
   |zero=>simp at hv;subst hv;exact h1
   |succ j=>rw[show o+(j+1)=(o+1)+j by omega];exact e2 j v (by simpa using hv)
  ·cases i with
   |zero=>simp at hu;subst hu;exact h2
   |succ i=>exact e3.one i u' (by simpa using hu)
theorem CellL.agg{cs:List AV}{vs:List Value}(h:CellL S w β cs vs):Rep S w β (.agg cs) (.agg vs.toArray):=
 .agg cs _ (by simpa using h.rep.1) (λ i u hu=>h.one i u (by simpa using hu)) λ i a u h1 h2=>h.rep.2 i a u h1 (by simpa using h2)
def RE(S:Nat→Prop)(w:World)(β:Bt)(b o:Nat)(row:List AV):Prop:=∀ (j:Nat) a,row[j]?=some a→∃ u,w.cell? ⟨b,o+j,none⟩=some u∧u.oneCell'=true∧Rep S w β a u
theorem Bg(hC:CtxOk C){t:TypeId}{rs c b o:Nat}{row:List AV}{x:AV}(hrow:RE S w β b o row)(hrs:row.length=rs)(hx:GP C t rs c row=some x):
  Yld C.P S w β x (loadVar t ⟨b,o+c,none⟩):=by
 have agg:∀ (sz:Nat) (seg:List AV) (kd:Kd) (z:AV) (by_:Nat) (eq:List CK),C.ty t=some ⟨kd,sz,true,z,by_,eq⟩→seg.length=sz→(∀ (j:Nat) a,seg[j]?=some a→∃ u,w.cell? ⟨b,o+c+j,none⟩=some u∧u.oneCell'=true∧Rep S w β a u)→
   Yld C.P S w β (.agg seg) (loadVar t ⟨b,o+c,none⟩):=by
  intro sz seg kd z by_ eq ht hl H;have T:=hC.ty t _ ht;obtain⟨vs,e1,e2,e3⟩:=Cs seg (o+c) H;obtain⟨d,hd,hr⟩:=T.ag;obtain⟨inf,z,hi,hsz,_⟩:=T.info;exact⟨_,run_loadVar_mid w b (o+c) t vs d e2 hd hr (by rw[hi,e1,hl];simpa using hsz),e3.agg⟩
 unfold GP at hx;split at hx
 ·rename_i kd sz z by_ eq ht;split at hx
  ·rename_i hs;have hs':=aK hs;injection hx with hx;subst hx;exact agg sz row _ _ _ _ ht (by rw[hrs,hs']) (λ j a hj=>by have:=hrow j a hj;simpa using this)
  ·split at hx
   ·rename_i hl;injection hx with hx;subst hx;refine agg sz _ _ _ _ _ ht (aK hl) λ j a hj=>?_;rw[GD,GE,cP]at hj;split at hj
    ·rw[cJ]at hj;obtain⟨u,k1,k2⟩:=hrow _ _ hj;exact⟨u,by rw[←k1];congr 2;omega,k2⟩
    ·cases hj
   ·cases hx
 ·rename_i kd sz z by_ eq ht;have T:=hC.ty t _ ht;rw[GC]at hx;obtain⟨u,k1,k2,k3⟩:=hrow _ _ hx;obtain⟨d,hd,hr⟩:=T.ag;have hagg:(isAgg t).run C.P w=.ok false w:=by
   unfold isAgg;rw[Sem.run_bind,run_underlying hd w];cases d<;>first|rfl|(simp[TypeDesc.isRow]at hr)
  refine⟨u,?_,k3⟩;simp only[loadVar,Sem.run_bind,hagg,Result.andThen_ok,bU,iG,run_load,k1]
 ·cases hx
theorem Om(H:SimH B S w β h){s:Nat}{cells:List AV}(hs:h s=some (.box cells)):∃ l cs e fr,β s=some l∧w.heap[l.blk]?=some (.cells cs e fr)∧RE S w β l.blk l.base cells:=by
 obtain⟨l,cs,e,fr,h1,h2,_,_,_,h3⟩:=H.own s _ hs;exact⟨l,cs,e,fr,h1,h2,λ j a hj=>let ⟨u,k1,k2⟩:=h3 j a hj;⟨u,by rw[gK h2];exact k1,k2⟩⟩
theorem On(H:SimH B S w β h){s:Nat}{cells:List AV}(hs:h s=some (.row cells)):∃ l cs e fr,β s=some l∧w.heap[l.blk]?=some (.cells cs e fr)∧l.rs=1∧RE S w β l.blk l.base cells:=by
 obtain⟨l,cs,e,fr,h1,h2,_,_,_,h3⟩:=H.own s _ hs;exact⟨l,cs,e,fr,h1,h2,h3.1,λ j a hj=>let ⟨u,k1,k2⟩:=h3.2 j a hj;⟨u,by rw[gK h2];exact k1,k2⟩⟩
theorem Kn(H:SimH B S w β h){s:Nat}{rows:List (List AV)}{rs:Nat}(hs:h s=some (.arr rows rs)):∃ l cs e fr,β s=some l∧w.heap[l.blk]?=some (.cells cs e fr)∧l.rs=rs∧(∀ row∈rows,row.length=rs)∧∀ (i:Nat) row,rows[i]?=some row→RE S w noB l.blk (l.base+i * rs) row:=by
 obtain⟨l,cs,e,fr,h1,h2,_,_,_,h3⟩:=H.own s _ hs;exact⟨l,cs,e,fr,h1,h2,h3.1,h3.2.1,λ i row hi j a hj=>let ⟨u,k1,k2⟩:=h3.2.2 i row j a hi hj;⟨u,by rw[gK h2];exact k1,k2⟩⟩
theorem Fw{P:Program}{x:Option AV}{r:Sem Value}(h:∀ y,x=some y→Yld P S w β y r):qZ P S w β r (okO x):=by
 cases x with
 |none=>trivial
 |some y=>exact h y rfl
theorem zZ{P:Program}{t:TypeId}{a:Addr}{x:AV}(h:Yld P S w β x (loadVar t a)):Yld P S w β x (Instr.loadAt t (.pointer (some a))):=h
theorem UP(hC:CtxOk C)(H:SimH B S w β h)(t:TypeId){a:AV}{v:Value}(ha:Rep S w β a v):
  qZ C.P S w β (Instr.loadAt t v)
   (sJ C h t a):=by
 unfold sJ;split
 ·rename_i b c;split
  ·rename_i cells hb;obtain⟨l,cs,e,fr,h1,h2,h3⟩:=Om H hb
   cases ha with
   |ptr _ _ l' hl=>
   obtain rfl:l'=l:=by rw[hl]at h1;exact Option.some.inj h1
   exact Fw λ y hy=>zZ (Bg hC h3 rfl hy)
  ·trivial
 ·rename_i b r c;split
  ·rename_i rows rs hb;obtain⟨l,cs,e,fr,h1,h2,h3,h4,h5⟩:=Kn H hb
   cases ha with
   |ptr2 _ _ _ l' hl=>
   obtain rfl:l'=l:=by rw[hl]at h1;exact Option.some.inj h1
   subst h3;intro row x h0 hrow hx;exact zZ (Bg hC (λ j a hj=>let ⟨u,q1,q2,q3⟩:=h5 r row (by simpa using hrow) j a hj;⟨u,q1,q2,q3.mono (λ _ h=>h) (Evo.refl _ _) (λ s l x=>by cases x)⟩) (h4 row (aB hrow)) hx)
  ·rename_i cells hb;obtain⟨l,cs,e,fr,h1,h2,h3,h4⟩:=On H hb
   cases ha with
   |ptr2 _ _ _ l' hl=>
   obtain rfl:l'=l:=by rw[hl]at h1;exact Option.some.inj h1
   intro row x h0 hrow hx;have hrow:(cells.map λ x=>[x])[r]?=some row:=by simpa using hrow
   rw[aZ]at hrow;obtain⟨y,hy,rfl⟩:=Fg.1 hrow;refine zZ (Bg hC (b:=l'.blk) (o:=l'.base+r * l'.rs) (row:=[y]) (λ j a hj=>?_) rfl hx)
   cases j with
   |zero=>
    simp only[cK,Option.some.injEq]at hj;subst hj;rw[h3,iP]
    exact h4 r y hy
   |succ j=>simp at hj
  ·trivial
 ·rename_i rs c row
  cases ha with
  |dp _ _ _ b o u hrs hb hw h1 hr=>
  refine Fw λ y hy=>zZ (Bg hC (λ j a hj=>⟨u j,hw j a hj,h1 j,(hr j a hj).mono (λ _ x=>x) (Evo.refl _ _) (λ s l x=>by cases x)⟩) hrs hy)
 ·trivial
theorem Oo(hC:CtxOk C){t:TypeId}{cs:List AV}{vs:Array Value}{off:Nat}{x:AV}(hl:cs.length=vs.size)(h1:∀ (i:Nat) u,vs[i]?=some u→u.oneCell'=true)(hr:∀ (i:Nat) a u,cs[i]?=some a→vs[i]?=some u→Rep S w β a u)
  (hx:MM C t cs off=some x):Yld C.P S w β x (part t vs off):=by
 unfold MM at hx;split at hx
 ·rename_i kd sz z by_ eq ht;have T:=hC.ty t _ ht;obtain⟨d,hd,hrow⟩:=T.ag;obtain⟨inf,z,hi,hsz,_⟩:=T.info;have hagg:(isAgg t).run C.P w=.ok true w:=by
   unfold isAgg;rw[Sem.run_bind,run_underlying hd w];cases d<;>first|rfl|(simp[TypeDesc.isRow]at hrow)
  injection hx with hx;subst hx;refine⟨.agg (vs.extract off (off+sz)),by simp only[part,Sem.run_bind,hagg,Result.andThen_ok,kV,sizeOf,typeInfo,program,Sem.run,hi,Sem.run_pure,hsz],?_⟩;rw[GD,GE];refine .agg _ _ (by simp[hl];omega) (λ i u hu=>?_) λ i a u p q=>?_
  ·rw[mH]at hu;split at hu
   ·exact h1 _ _ hu
   ·cases hu
  ·rw[mH]at q;rw[cP]at p;split at p
   ·rw[cJ]at p;split at q
    ·exact hr _ _ _ p q
    ·cases q
   ·cases p
 ·rename_i kd sz z by_ eq ht;have T:=hC.ty t _ ht;obtain⟨d,hd,hrow⟩:=T.ag;have hagg:(isAgg t).run C.P w=.ok false w:=by
   unfold isAgg;rw[Sem.run_bind,run_underlying hd w];cases d<;>first|rfl|(simp[TypeDesc.isRow]at hrow)
  rw[GC]at hx;have hlt:off<vs.size:=by rw[←hl];exact (Dq.1 hx).1
  refine⟨vs[off],by simp only[part,Sem.run_bind,hagg,Result.andThen_ok,bU,iG,aS hlt,Sem.run_pure],hr off x _ hx (aS hlt)⟩
 ·cases hx
theorem RF(hC:CtxOk C)(t:TypeId)(f:Nat){a:AV}{v:Value}(ha:Rep S w β a v):
  qZ C.P S w β (Instr.field t v f)
   (yW C t f a):=by
 unfold yW;split
 ·rename_i fs sz ag z by_ eq ht;obtain⟨fields,hu,hfs,_⟩:=(hC.ty t _ ht).kd;split
  ·rename_i off ft cs hf
   cases ha with
   |agg _ vs hl h1 hr=>
   rw[GF, ←hfs,aZ]at hf;obtain⟨fd,hfd,hfe⟩:=Fg.1 hf;injection hfe with e1 e2;subst e1;subst e2;refine Fw λ y hy=>?_;obtain⟨v,p1,p2⟩:=Oo hC hl h1 hr hy;refine⟨v,?_,p2⟩;simp only[Instr.field,Sem.run_bind,run_underlying hu,Result.andThen_ok];rw[show fields[f]?=some fd by simpa using hfd];simpa [asAgg]using p1
  ·trivial
 ·trivial
theorem EM{P:Program}{f:Field}{inf:TypeInfo}(hi:P.info? f.type=some inf)(hs:inf.size≠0)(a:Addr):(fieldPlace a f).run P w=.ok (a.add f.offset) w:=by
 simp only[fieldPlace,Sem.run_bind,sizeOf,typeInfo,program,Sem.run,hi,Sem.run_pure,Result.andThen_ok,if_neg hs]
theorem Iy(hC:CtxOk C)(t:TypeId)(f:Nat){a:AV}{v:Value}(ha:Rep S w β a v):
  qZ C.P S w β (Instr.fieldAt t v f)
   (oE C t f a):=by
 unfold oE;split
 ·rename_i fs sz ag z by_ eq ht;obtain⟨fields,hu,hfs,hnz⟩:=(hC.ty t _ ht).kd;have key:∀ (off:Nat) (ft:TypeId) (a:Addr),Oq fs f=some (off,ft)→(Instr.fieldAt t (.pointer (some a)) f).run C.P w=.ok (.pointer (some (a.add off))) w:=by
   intro off ft a hf;rw[GF, ←hfs,aZ]at hf;obtain⟨fd,hfd,hfe⟩:=Fg.1 hf;injection hfe with e1 e2;subst e1;subst e2;obtain⟨inf,hi,hs⟩:=hnz fd (aB hfd);simp only[Instr.fieldAt,Sem.run_bind,run_underlying hu,Result.andThen_ok];rw[show fields[f]?=some fd by simpa using hfd];simp only[Instr.sureAddr,Sem.run_pure,Sem.run_bind,Result.andThen_ok,EM hi hs]
  split
  ·rename_i off ft b c hf
   cases ha with
   |ptr _ _ l hl=>exact⟨_,key off ft _ hf,by rw[Addr.add_mid,dT];exact .ptr b (c+off) l hl⟩
  ·rename_i off ft b r c hf
   cases ha with
   |ptr2 _ _ _ l hl=>exact⟨_,key off ft _ hf,by rw[Addr.add_mid,dT];exact .ptr2 b r (c+off) l hl⟩
  ·rename_i off ft rs c row hf
   cases ha with
   |dp _ _ _ b o u hrs hb hw h1 hr=>exact⟨_,key off ft _ hf,by rw[Addr.add_mid,dT];exact .dp rs (c+off) row b o u hrs hb hw h1 hr⟩
  ·trivial
 ·trivial
end
end Go.Proofs.YtlhofpglndhfaaaGreatDoor
namespace Go.Proofs.YtlhofpglndhfaaaGreatDoor
open Go.RowKit
section
variable {C:Ctx}{S:Nat→Prop}{w:World}{β:Bt}{B:Nat}{h:AH}
theorem Xf(hC:CtxOk C)(t ty:TypeId){a:AV}{v:Value}(ha:Rep S w β a v):qZ C.P S w β (Builtin.len_ #[t] ty #[v]) (RL C t a):=by
 unfold RL;split
 ·rename_i ht;cases lK ha
  have hu:=(hC.ty t _ ht).kd;exact⟨_,by simp[Builtin.len_,run_underlying hu,goInt],.v _⟩
 ·rename_i ht;have hu:=(hC.ty t _ ht).kd
  cases ha with
  |sl=>exact⟨_,by simp[Builtin.len_,run_underlying hu,goInt],.v _⟩
 ·rename_i ht;have hu:=(hC.ty t _ ht).kd
  cases ha with
  |osl=>exact⟨_,by simp[Builtin.len_,run_underlying hu,goInt],.v _⟩
 ·rename_i ht;have hu:=(hC.ty t _ ht).kd;exact⟨_,by simp[Builtin.len_,run_underlying hu,goInt],.v _⟩
 ·trivial
theorem Aa(hC:CtxOk C){e:TypeId}{ei:TI}(he:C.ty e=some ei)(w:World):(sizeOf e).run C.P w=.ok ei.sz w:=by
 obtain⟨inf,z,hi,hsz,_⟩:=(hC.ty e _ he).info;simp only[sizeOf,typeInfo,program,Sem.run_bind,Sem.run,hi,Sem.run_pure,Result.andThen_ok,hsz]
theorem Iz(hC:CtxOk C)(H:SimH B S w β h)(t:TypeId){a i:AV}{v u:Value}(ha:Rep S w β a v)(hi:Rep S w β i u):
  qZ C.P S w β (Instr.indexAt t v u)
   (jB C h t a i):=by
 unfold jB pK;split
 ·rename_i e sz ag z by_ eq k n ht;cases lK hi
  have hu:=(hC.ty t _ ht).kd;have key:∀ (ei:TI) (A:Addr) (len c:Nat),C.ty e=some ei→0≤n→n<(len:Int)→(Instr.indexAt t (.slice (some A) len c) (.int k n)).run C.P w=.ok (.pointer (some (A.add (n.toNat * ei.sz)))) w:=by
   intro ei A len c he h0 h1;simp[Instr.indexAt,asIntOf,run_underlying hu,h0,h1,Aa hC he]
  split
  ·rename_i ei rs rows clip he;split
   ·rename_i hrs';have hrs':=aK hrs';intro row x h0 hrow hx;injection hx with hx;subst hx
    cases ha with
    |sl _ _ _ A c b o u hc hm hcl hrs hA hw h1 hr=>
    have hlt:n.toNat<rows.length:=(Dq.1 hrow).1;obtain⟨hA1,hA2⟩:=hA (by omega);subst hA1;refine⟨_,key ei _ _ _ he h0 (by omega),?_⟩;rw[Addr.add_mid, ←hrs'];exact .dp rs 0 row b (o+n.toNat * rs) (λ j=>u n.toNat j) (hrs row (aB hrow)) hA2 (λ j a hj=>hw _ _ _ _ hrow hj) (λ j=>h1 _ _) λ j a hj=>hr _ _ _ _ hrow hj
   ·trivial
  ·rename_i ei b lo len clip he;split
   ·rename_i rows rs hb;split
    ·rename_i hrs';have hrs':=aK hrs';rintro ⟨h0,h1⟩;obtain⟨l,cs,e',fr,k1,k2,k3,k4,k5⟩:=Kn H (s:=b) hb
     cases ha with
     |osl _ _ _ _ l' A c hl hc hm hcl hA ds e'' fr' hb' room=>
     obtain rfl:l'=l:=by rw[hl]at k1;exact Option.some.inj k1
     have hA1:=hA (by omega);subst hA1;refine⟨_,key ei _ _ _ he h0 h1,?_⟩;rw[Addr.add_mid, ←hrs', ←k3,dT, ←cC];exact .ptr2 b (lo+n.toNat) 0 l' hl
    ·trivial
   ·rename_i cells hb;split
    ·rename_i hrs';have hrs':=aK hrs';rintro ⟨h0,h1⟩;obtain⟨l,cs,e',fr,k1,k2,k3,k4⟩:=On H (s:=b) hb
     cases ha with
     |osl _ _ _ _ l' A c hl hc hm hcl hA ds e'' fr' hb' room=>
     obtain rfl:l'=l:=by rw[hl]at k1;exact Option.some.inj k1
     have hA1:=hA (by omega);subst hA1;refine⟨_,key ei _ _ _ he h0 h1,?_⟩;rw[Addr.add_mid, ←hrs', ←k3,dT, ←cC];exact .ptr2 b (lo+n.toNat) 0 l' hl
    ·trivial
   ·trivial
  ·trivial
 ·rename_i len e sz ag z by_ eq k n ht;cases lK hi
  have hu:=(hC.ty t _ ht).kd;have key:∀ (ei:TI) (A:Addr),C.ty e=some ei→0≤n→n<(len:Int)→(Instr.indexAt t (.pointer (some A)) (.int k n)).run C.P w=.ok (.pointer (some (A.add (n.toNat * ei.sz)))) w:=by
   intro ei A he h0 h1;simp[Instr.indexAt,asIntOf,run_underlying hu,h0,h1,Aa hC he,Instr.sureAddr]
  split
  ·rename_i ei b c he;rintro ⟨h0,h1⟩
   cases ha with
   |ptr _ _ l hl=>exact⟨_,key ei _ he h0 h1,by rw[Addr.add_mid,dT];exact .ptr b _ l hl⟩
  ·rename_i ei b r c he;rintro ⟨h0,h1⟩
   cases ha with
   |ptr2 _ _ _ l hl=>exact⟨_,key ei _ he h0 h1,by rw[Addr.add_mid,dT];exact .ptr2 b r _ l hl⟩
  ·rename_i ei rs c row he;rintro ⟨h0,h1⟩
   cases ha with
   |dp _ _ _ b o u hrs hb hw h1' hr=>exact⟨_,key ei _ he h0 h1,by rw[Addr.add_mid,dT];exact .dp rs _ row b o u hrs hb hw h1' hr⟩
  ·trivial
 ·trivial
theorem RG(hC:CtxOk C)(t:TypeId){a i:AV}{v u:Value}(ha:Rep S w β a v)(hi:Rep S w β i u):
  qZ C.P S w β (Instr.index t v u)
   (Bk C t a i):=by
 unfold Bk;split
 ·rename_i sz ag z by_ eq s k n ht;cases lK ha;cases lK hi
  have hu:=(hC.ty t _ ht).kd;rintro ⟨h0,h1⟩;have hlt:n.toNat<s.size:=by omega
  refine⟨_,?_,.v _⟩;have e1:s[n.toNat]?=some (s.data.toList.getD n.toNat 0):=by
   have hl:n.toNat<s.data.toList.length:=by simpa using hlt
   rw[getElem?_pos s n.toNat hlt];congr 1;rw[bJ,aA hl,gF];rfl
  simp only[Instr.index,asIntOf,Sem.run_bind,Sem.run_pure,Result.andThen_ok,run_underlying hu,if_pos h0,e1]
 ·rename_i len e sz ag z by_ eq cs k n ht;cases lK hi
  have hu:=(hC.ty t _ ht).kd;split
  ·rename_i ei he;split
   ·rename_i x hx;rintro ⟨h0,h1⟩
    cases ha with
    |agg _ vs hl h1' hr=>
    obtain⟨r,p1,p2⟩:=Oo hC hl h1' hr hx;exact⟨r,by simp only[Instr.index,asIntOf,Sem.run_bind,Sem.run_pure,Result.andThen_ok,run_underlying hu,if_pos (And.intro h0 h1),Aa hC he,p1],p2⟩
   ·trivial
  ·trivial
 ·trivial
theorem ML{P:Program}(i:Nat){a:AV}{v:Value}(ha:Rep S w β a v):
  qZ P S w β (Instr.extract v i) (rC i a):=by
 unfold rC;split
 ·rename_i vs
  cases ha with
  |tup _ us hl hr=>
  refine Fw λ y hy=>?_;rw[GC]at hy;have hlt:i<us.size:=by rw[←hl];exact (Dq.1 hy).1
  exact⟨us[i],by simp only[Instr.extract,aS hlt,Sem.run_pure],hr i y _ hy (aS hlt)⟩
 ·trivial
theorem GK{x:Option AV}{v:Option Value}{r:Option Int}(hx:∀ a,x=some a→∃ u,v=some u∧Rep S w β a u)(hn:x=none→v=none)(hr:Xh x=some r):
  (r=none∧v=none)∨∃ k n,r=some n∧v=some (.int k n):=by
 unfold Xh at hr;split at hr
 ·injection hr with hr;exact .inl ⟨hr.symm,hn rfl⟩
 ·obtain⟨u,h1,h2⟩:=hx _ rfl;injection hr with hr;cases lK h2
  exact .inr ⟨_,_,hr.symm,h1⟩
 ·cases hr
theorem wL{P:Program}(isS:Bool)(len cap:Nat)(lo hi mx:Option Value)(l h:Int)(m:Nat)(hl:(lo=none∧l=0)∨∃ k,lo=some (.int k l))
  (hh:(hi=none∧mx=none∧h=len)∨∃ k,hi=some (.int k h)) (hm:(mx=none∧m=cap)∨∃ k,mx=some (.int k (m:Int))) (h0:0≤l) (h1:l≤h) (h2:h≤m) (h3:m≤cap):
  (Instr.sliceBounds isS len cap lo hi mx).run P w=.ok (l.toNat,h.toNat,m) w:=by
 have bd:∀ (k:IntKind) (i:Int) (y:Nat) (code:BoundsCode),0≤i→i≤y→(Instr.sliceBound (.int k i) y code).run P w=.ok i.toNat w:=λ k i y code p q=>by
  simp only[Instr.sliceBound,asIntOf,Sem.run_bind,Sem.run_pure,Result.andThen_ok,if_pos (And.intro p q)]
 rcases hm with ⟨rfl,rfl⟩|⟨km,rfl⟩
 ·rcases hh with ⟨rfl,_,rfl⟩|⟨kh,rfl⟩
  ·rcases hl with ⟨rfl,rfl⟩|⟨kl,rfl⟩
   ·simp[Instr.sliceBounds]
   ·simp[Instr.sliceBounds,bd kl l _ _ h0 h1]
  ·rcases hl with ⟨rfl,rfl⟩|⟨kl,rfl⟩
   ·simp[Instr.sliceBounds,bd kh h _ _ (by omega) h2]
   ·simp[Instr.sliceBounds,bd kh h _ _ (by omega) h2,bd kl l _ _ h0 (by omega:l≤(h.toNat:Int))]
 ·rcases hh with ⟨_,h',_⟩|⟨kh,rfl⟩
  ·cases h'
  ·rcases hl with ⟨rfl,rfl⟩|⟨kl,rfl⟩
   ·simp[Instr.sliceBounds,bd km (m:Int) cap _ (by omega) (by omega),bd kh h m _ (by omega) h2]
   ·simp[Instr.sliceBounds,bd km (m:Int) cap _ (by omega) (by omega),bd kh h m _ (by omega) h2,bd kl l _ _ h0 (by omega:l≤(h.toNat:Int))]
theorem RH(hC:CtxOk C)(H:SimH B S w β h)(t:TypeId){a:AV}{v:Value}{lo hi mx:Option AV}{vlo vhi vmx:Option Value}(ha:Rep S w β a v)
  (hlo:∀ a,lo=some a→∃ u,vlo=some u∧Rep S w β a u) (hlo':lo=none→vlo=none) (hhi:∀ a,hi=some a→∃ u,vhi=some u∧Rep S w β a u) (hhi':hi=none→vhi=none)
  (hmx:∀ a,mx=some a→∃ u,vmx=some u∧Rep S w β a u) (hmx':mx=none→vmx=none):
  qZ C.P S w β (Instr.sliceAt t v vlo vhi vmx) (tV C h t a lo hi mx):=by
 unfold tV Bj;split
 ·rename_i len l0 h0 m0 hlen hl0 hh0 hm0;have L:=GK hlo hlo' hl0;have U:=GK hhi hhi' hh0;have M:=GK hmx hmx' hm0;clear hlo hlo' hhi hhi' hmx hmx' hl0 hh0 hm0;have hL:(vlo=none∧l0.getD 0=0)∨∃ k,vlo=some (.int k (l0.getD 0)):=by
   rcases L with ⟨rfl,rfl⟩|⟨k,n,rfl,rfl⟩
   ·exact .inl ⟨rfl,rfl⟩
   ·exact .inr ⟨k,rfl⟩
  have hU:∀ vm,vm=none→(vhi=none∧vm=(none:Option Value)∧h0.getD (len:Int)=len)∨∃ k,vhi=some (.int k (h0.getD len)):=by
   intro vm hvm;rcases U with ⟨rfl,rfl⟩|⟨k,n,rfl,rfl⟩
   ·exact .inl ⟨rfl,hvm,rfl⟩
   ·exact .inr ⟨k,rfl⟩
  split
  ·rename_i ht;have hu:=(hC.ty t _ ht).kd;split
   ·rename_i s;cases lK ha
    have hl:s.size=len:=by simpa [lenA]using hlen
    have hM:vmx=none:=by rcases M with ⟨_,h⟩|⟨_,_,h,_⟩<;>first|exact h|cases h
    subst hM;rintro ⟨p0,p1,p2⟩;have hb:=wL (P:=C.P) (w:=w) false len len vlo vhi none _ _ len hL (hU none rfl) (.inl ⟨rfl,rfl⟩) p0 p1 p2 (aC _);refine⟨_,?_,.v _⟩;simp only[Instr.sliceAt,Sem.run_bind,run_underlying hu,Result.andThen_ok,Instr.slice,hl,Option.isSome_none,bU,iG,Sem.run_pure,hb]
   ·trivial
  ·rename_i e sz ag z by_ eq ht;have hu:=(hC.ty t _ ht).kd;split
   ·rename_i ei he;have run:∀ (A:Option Addr) (n c m:Nat) (vhi vmx:Option Value) (l h:Int),(Instr.sliceBounds true n c vlo vhi vmx).run C.P w=.ok (l.toNat,h.toNat,m) w→
      (Instr.sliceAt t (.slice A n c) vlo vhi vmx).run C.P w=.ok (.slice (if m=l.toNat then A else A.map (·.add (l.toNat * ei.sz))) (h.toNat - l.toNat) (m - l.toNat)) w:=by
     intro A n c m vhi vmx l h hb;simp only[Instr.sliceAt,Sem.run_bind,run_underlying hu,Result.andThen_ok,Instr.slice,hb,Aa hC he,Sem.run_pure]
    have known:∀ (rs:Nat) (rows:List (List AV)) (clip clip':Bool) (v:Value) (l hh:Int) (m':Option Nat) (vhi vmx:Option Value),Rep S w β (.sl rs rows clip) v→rs=ei.sz→0≤l→l≤hh→hh≤(rows.length:Int)→
      ((vlo=none∧l=0)∨∃ k,vlo=some (.int k l))→((vhi=none∧vmx=none∧hh=(rows.length:Int))∨∃ k,vhi=some (.int k hh))→
      ((m'=none∧vmx=none)∨(∃ k,m'=some hh.toNat∧vmx=some (.int k hh)))→(clip'=true→(m'=none→clip=true∧hh=(rows.length:Int)))→
      Yld C.P S w β (.sl rs ((rows.take hh.toNat).drop l.toNat) clip') (Instr.sliceAt t v vlo vhi vmx):=by
     intro rs rows clip clip' v l hh m' vhi vmx hr hrs p0 p1 p2 hl hhi hm hcl'
     cases hr with
     |sl _ _ _ A c b o u hc hmx hcl hrs' hA hw h1 hr'=>
     have hlen:((rows.take hh.toNat).drop l.toNat).length=hh.toNat - l.toNat:=by
      rw[aY,aN];omega
     have fin:∀ m:Nat,hh≤(m:Int)→m≤c→(clip'=true→(m:Int)=hh)→(Instr.sliceBounds true rows.length c vlo vhi vmx).run C.P w=.ok (l.toNat,hh.toNat,m) w→
       Yld C.P S w β (.sl rs ((rows.take hh.toNat).drop l.toNat) clip') (Instr.sliceAt t (.slice A rows.length c) vlo vhi vmx):=by
      intro m q1 q2 q3 hb;refine⟨_,run A _ c m vhi vmx l hh hb,?_⟩;rw[←hlen];refine .sl rs _ clip' _ (m - l.toNat) b (o+l.toNat * rs) (λ i j=>u (i+l.toNat) j) (by rw[hlen];omega) (by omega) (λ q=>by have:=q3 q;rw[hlen];omega) (λ row hrow=>hrs' row (cL (eR hrow)))
       (λ hpos=>?_) (λ i row j a hi hj=>?_) (λ i j=>h1 _ _) λ i row j a hi hj=>?_
      ·rw[hlen]at hpos;obtain⟨hA1,hA2⟩:=hA (by omega);refine⟨?_,hA2⟩;rw[if_neg (by omega),hA1,dG,Addr.add_mid,hrs]
      ·rw[cJ,cP]at hi;split at hi
       ·have:=hw _ _ _ _ hi hj;rw[←iE i]at this;rw[←this];congr 2;rw[cC];omega
       ·cases hi
      ·rw[cJ,cP]at hi;split at hi
       ·have:=hr' _ _ _ _ hi hj
        rwa [←iE i]at this
       ·cases hi
     rcases hm with ⟨rfl,rfl⟩|⟨k,rfl,rfl⟩
     ·refine fin c (by omega) (aC _) (λ q=>?_) (wL true _ c vlo vhi none l hh c hl hhi (.inl ⟨rfl,rfl⟩) p0 p1 (by omega) (aC _));obtain⟨q1,q2⟩:=hcl' q rfl;rw[hcl q1];omega
     ·have eh:((hh.toNat:Nat):Int)=hh:=oM (by omega);refine fin hh.toNat (by omega) (by omega) (λ _=>eh) (wL true _ c vlo vhi _ l hh hh.toNat hl hhi (.inr ⟨k,by rw[eh]⟩) p0 p1 (by omega) (by omega))
    have own:∀ (s lo len rs:Nat) (rows:List (List AV)) (clip clip':Bool) (v:Value) (l hh:Int) (m':Option Nat) (vhi vmx:Option Value),Rep S w β (.osl s lo len clip) v→h s=some (.arr rows rs)→rs=ei.sz→0≤l→l≤hh→hh≤(len:Int)→
      ((vlo=none∧l=0)∨∃ k,vlo=some (.int k l))→((vhi=none∧vmx=none∧hh=(len:Int))∨∃ k,vhi=some (.int k hh))→
      ((m'=none∧vmx=none)∨(∃ k,m'=some hh.toNat∧vmx=some (.int k hh)))→(clip'=true→(m'=none→clip=true∧hh=(len:Int)))→
      Yld C.P S w β (.osl s (lo+l.toNat) (hh - l).toNat clip') (Instr.sliceAt t v vlo vhi vmx):=by
     intro s lo len rs rows clip clip' v l hh m' vhi vmx hr hs hrs p0 p1 p2 hl hhi hm hcl';obtain⟨l',cs',e',fr',k1,k2,k3,k4,k5⟩:=Kn H hs
     cases hr with
     |osl _ _ _ _ l1 A c hl1 hc hmx hcl hA cs e1 fr hb room=>
     obtain rfl:l1=l':=by rw[hl1]at k1;exact Option.some.inj k1
     have fin:∀ m:Nat,hh≤(m:Int)→m≤c→(clip'=true→(m:Int)=hh)→(Instr.sliceBounds true len c vlo vhi vmx).run C.P w=.ok (l.toNat,hh.toNat,m) w→
       Yld C.P S w β (.osl s (lo+l.toNat) (hh - l).toNat clip') (Instr.sliceAt t (.slice A len c) vlo vhi vmx):=by
      intro m q1 q2 q3 hb;refine⟨_,run A _ c m vhi vmx l hh hb,?_⟩;rw[show hh.toNat - l.toNat=(hh - l).toNat by omega];refine .osl s _ _ clip' l1 _ (m - l.toNat) hl1 (by omega) (by omega) (λ q=>by have:=q3 q;omega) (λ hpos=>?_) cs e1 fr (by assumption) ?_
      ·rw[if_neg (by omega),hA (by omega),dG,Addr.add_mid, ←hrs,k3,dT, ←cC]
      ·refine aM (oL (eD _ ?_) _) room;omega
     rcases hm with ⟨rfl,rfl⟩|⟨k,rfl,rfl⟩
     ·refine fin c (by omega) (aC _) (λ q=>?_) (wL true _ c vlo vhi none l hh c hl hhi (.inl ⟨rfl,rfl⟩) p0 p1 (by omega) (aC _));obtain⟨q1,q2⟩:=hcl' q rfl;rw[hcl q1];omega
     ·have eh:((hh.toNat:Nat):Int)=hh:=oM (by omega);refine fin hh.toNat (by omega) (by omega) (λ _=>eh) (wL true _ c vlo vhi _ l hh hh.toNat hl hhi (.inr ⟨k,by rw[eh]⟩) p0 p1 (by omega) (by omega))
    split
    ·rename_i rs rows clip;split
     ·rename_i hrs;rintro ⟨p0,p1,p2⟩;have hlen':rows.length=len:=by simpa [lenA]using hlen
      have hM:vmx=none:=by rcases M with ⟨_,h⟩|⟨_,_,h,_⟩<;>first|exact h|cases h
      subst hM;refine known rs rows clip _ v _ _ none vhi none ha (aK hrs) p0 p1 (by rw[hlen'];exact p2) hL (by rw[hlen'];exact hU none rfl) (.inl ⟨rfl,rfl⟩) (λ q _=>?_);simp only[aI,iM]at q;rw[q.2,hlen'];exact⟨q.1,rfl⟩
     ·trivial
    ·rename_i rs rows clip m hi;split
     ·rename_i hrs;rintro ⟨p0,p1,p2,p3⟩;subst p2;have hlen':rows.length=len:=by simpa [lenA]using hlen
      rcases M with ⟨h,_⟩|⟨km,n,hm,hv⟩
      ·cases h
      injection hm with hm;subst hm;rcases U with ⟨h,_⟩|⟨kh,n',hn,hv'⟩
      ·cases h
      injection hn with hn;subst hn;exact known rs rows clip true v _ _ (some hi.toNat) vhi vmx ha (aK hrs) p0 p1 (by rw[hlen'];exact p3) hL (.inr ⟨kh,hv'⟩) (.inr ⟨km,rfl,hv⟩) (λ _ q=>by cases q)
     ·trivial
    ·rename_i s o n clip;split
     ·rename_i rows rs hs;split
      ·rename_i hrs;rintro ⟨p0,p1,p2⟩;have hlen':n=len:=by simpa [lenA]using hlen
       have hM:vmx=none:=by rcases M with ⟨_,h⟩|⟨_,_,h,_⟩<;>first|exact h|cases h
       subst hM;subst hlen';refine own s o n rs rows clip _ v _ _ none vhi none ha hs (aK hrs) p0 p1 p2 hL (hU none rfl) (.inl ⟨rfl,rfl⟩) (λ q _=>?_);simp only[aI,iM]at q;rw[q.2];exact⟨q.1,rfl⟩
      ·trivial
     ·trivial
    ·rename_i s o n clip m hi;split
     ·rename_i rows rs hs;split
      ·rename_i hrs;rintro ⟨p0,p1,p2,p3⟩;subst p2;have hlen':n=len:=by simpa [lenA]using hlen
       subst hlen';rcases M with ⟨h,_⟩|⟨km,n',hm,hv⟩
       ·cases h
       injection hm with hm;subst hm;rcases U with ⟨h,_⟩|⟨kh,n'',hn,hv'⟩
       ·cases h
       injection hn with hn;subst hn;exact own s o n rs rows clip true v _ _ (some hi.toNat) vhi vmx ha hs (aK hrs) p0 p1 p3 hL (.inr ⟨kh,hv'⟩) (.inr ⟨km,rfl,hv⟩) (λ _ q=>by cases q)
      ·trivial
     ·trivial
    ·trivial
   ·trivial
  ·trivial
 ·trivial
end
end Go.Proofs.YtlhofpglndhfaaaGreatDoor
namespace Go.Proofs.YtlhofpglndhfaaaGreatDoor
open Go.RowKit
section
variable {C:Ctx}{S:Nat→Prop}{w:World}{β:Bt}{B:Nat}{h:AH}
theorem IB(off:Nat):∀ (l:List Value) (s:Nat) (cells:Array Value),off+s+l.length≤cells.size→
  ((l.zipIdx s).foldl (λ (cs:Array Value) (p:Value×Nat)=>cs.setIfInBounds (off+p.2) p.1) cells).size=cells.size∧
  ∀ k,((l.zipIdx s).foldl (λ (cs:Array Value) (p:Value×Nat)=>cs.setIfInBounds (off+p.2) p.1) cells)[k]?=if off+s≤k∧k<off+s+l.length then l[k - (off+s)]? else cells[k]?
 |[],s,cells,_=>by
  refine⟨rfl,λ k=>?_⟩;simp only[List.zipIdx_nil,List.foldl_nil,cU,iV]
  rw[if_neg (by omega)]
 | x::l,s,cells,hl=>by
  simp only[bN]at hl;obtain⟨h1,h2⟩:=IB off l (s+1) (cells.setIfInBounds (off+s) x) (by simp;omega);simp only[List.zipIdx_cons,oX];refine⟨by rw[h1];simp,λ k=>?_⟩;rw[h2 k];simp only[bN];by_cases hk:k=off+s
  ·subst hk;rw[if_neg (by omega),if_pos (by omega),fF,cK,cX (by omega)]
  ·by_cases hk2:off+(s+1)≤k∧k<off+(s+1)+l.length
   ·rw[if_pos hk2,if_pos (by omega),show k - (off+s)=(k - (off+(s+1)))+1 by omega,dE]
   ·rw[if_neg hk2,if_neg (by omega),cW (by omega)]
def DC(S:Nat→Prop)(w:World)(β:Bt):List (Nat×AV)→List (Nat×Value)→Prop
 |[],[]=>True
 |(i,a)::ps,(j,v)::qs=>i=j∧Rep S w β a v∧DC S w β ps qs
 |_,_=>False
theorem GL{pa pv:Nat→Option (Nat×Nat)}(hp:∀ i x,pa i=some x→pv i=some x):∀ (ps:List (Nat×AV)) (qs:List (Nat×Value)) (cells r:List AV) (vs:Array Value),DC S w β ps qs→CellL S w β cells vs.toList→
  GQ C pa cells ps=some r→∃ vr,Instr.fill pv vs qs=some vr∧CellL S w β r vr.toList
 |[],[],cells,r,vs,_,hc,hr=>by simp only[GQ]at hr;injection hr with hr;subst hr;exact⟨vs,rfl,hc⟩
 |[],_::_,_,_,_,hq,_,_=>hq.elim
 |(i,a)::ps,[],_,_,_,hq,_,_=>hq.elim
 | (i, a)::ps,(j,v)::qs,cells,r,vs,hq,hc,hr=>by
  obtain⟨rfl,ha,hrest⟩:=hq;simp only[GQ]at hr;split at hr
  ·rename_i off sz cs hpl hca;have hcs:=uE ha hca;split at hr
   ·rename_i e1 e2;have e1:=aK e1;have e2:=aO e2;have n1:v.cells.size=sz:=by rw[←e1,hcs.rep.1];simp
    have n2:vs.size=cells.length:=by rw[hc.rep.1];simp
    obtain⟨f1,f2⟩:=IB off v.cells.toList 0 vs (by simp only[dP,iV,n1,n2];omega);have hnew:CellL S w β (yV off cs cells) ((v.cells.toList.zipIdx 0).foldl (λ (cs:Array Value) (p:Value×Nat)=>cs.setIfInBounds (off+p.2) p.1) vs).toList:=by
     refine⟨⟨(uM _ _ _ e2).trans (n2.symm.trans (f1.symm.trans (dP).symm)),λ k a' u hk hu=>?_⟩,λ k u hu=>?_⟩
     ·rw[bG,f2 k]at hu;rw[Be _ _ _ _ e2]at hk;simp only[iV,dP,n1]at hu;rw[e1]at hk;split at hk
      ·rename_i hcond;rw[if_pos hcond]at hu;exact hcs.rep.2 _ _ _ hk hu
      ·rename_i hcond;rw[if_neg hcond]at hu;exact hc.rep.2 _ _ _ hk (by simpa using hu)
     ·rw[bG,f2 k]at hu;split at hu
      ·exact hcs.one _ _ hu
      ·exact hc.one _ _ (by simpa using hu)
    obtain⟨vr,g1,g2⟩:=GL hp ps qs _ r _ hrest hnew hr;refine⟨vr,?_,g2⟩;simp only[Instr.fill,hp _ _ hpl];rw[if_neg (by simp[n1,n2];omega)];have:v.cells.zipIdx.foldl (λ (cs:Array Value) (x:Value×Nat)=>match x with|(c,j)=>cs.setIfInBounds (off+j) c) vs=(v.cells.toList.zipIdx 0).foldl (λ (cs:Array Value) (p:Value×Nat)=>cs.setIfInBounds (off+p.2) p.1) vs:=by
     rw[←Array.foldl_toList,Array.toList_zipIdx]
    rw[←this]at g1;exact g1
   ·cases hr
  ·cases hr
theorem IC{P:Program}:∀ (fs:List Field),(∀ f∈fs,∃ inf,P.info? f.type=some inf∧inf.size≠0)→∃ ps,fs.mapM (λ (f:Field)=>(P.info? f.type).map λ i=>(f.offset,i.size))=some ps∧
  ∀ i:Nat,ps[i]?=(fs[i]?).bind λ (f:Field)=>(P.info? f.type).map λ i=>(f.offset,i.size)
 |[],_=>⟨[],rfl,λ i=>by simp⟩
 |f::fs,hf=>by
  obtain⟨ps,h1,h2⟩:=IC fs λ g hg=>hf g (bF _ hg);obtain⟨inf,hi,_⟩:=hf f (bD);refine⟨(f.offset,inf.size)::ps,by simp[sX,hi,h1],λ i=>?_⟩
  cases i with
  |zero=>simp[hi]
  |succ i=>simpa using h2 i
theorem BX(hC:CtxOk C){t:TypeId}{i:TI}(ht:C.ty t=some i){zs:List AV}(hz:kL i.zero=some zs):∃ inf z,C.P.info? t=some inf∧inf.size=i.sz∧inf.zero=some z∧CellL S w β zs z.cells.toList∧z.cells.size=i.sz∧inf.bytes=i.bytes∧0<i.sz∧i.bytes≤1000:=by
 obtain⟨inf,z,h1,h2,h3,h4,h5,h6,h7,h8⟩:=(hC.ty t _ ht).info;rw[h5]at hz;exact⟨inf,z,h1,h2,h4,uE (GG z) hz,h6,h3,h7,h8⟩
theorem RI(hC:CtxOk C)(t:TypeId)(ps:List (Nat×AV))(qs:Array (Nat×Value))(hq:DC S w β ps qs.toList):
  qZ C.P S w β (Instr.build t qs)
   (Bl C t ps):=by
 unfold Bl;split
 ·rename_i fs sz ag z by_ eq ht;obtain⟨fields,hu,hfs,hnz⟩:=(hC.ty t _ ht).kd;split
  ·rename_i zs hzs;obtain⟨inf,zv,i1,i2,i3,i4,_⟩:=BX (S:=S) (w:=w) (β:=β) hC ht hzs;refine Fw λ y hy=>?_;obtain⟨r,hr,hry⟩:=Fg.1 hy;subst hry;obtain⟨places,hpl,hpi⟩:=IC fields.toList hnz;have hpp:∀ i x,(match Oq fs i with|some (off,ft)=>(match C.ty ft with|some fi=>some (off,fi.sz)|none=>none)|none=>none)=some x→places.toArray[i]?=some x:=by
    intro i x hx;split at hx
    ·rename_i off ft hn;split at hx
     ·rename_i fi hfi;injection hx with hx;subst hx;rw[GF, ←hfs,aZ]at hn;obtain⟨fd,hfd,hfe⟩:=Fg.1 hn;injection hfe with e1 e2;subst e1;subst e2;obtain⟨inf',z',j1,j2,_⟩:=(hC.ty _ _ hfi).info;simp only[eK,hpi,hfd,Option.bind_some,j1,dG,j2]
     ·cases hx
    ·cases hx
   obtain⟨vr,g1,g2⟩:=GL (pv:=(places.toArray[·]?)) hpp _ _ _ _ _ hq i4 hr;exact⟨_,run_build w t qs vr (by simp only[Program.built,i1,hu,i3,hpl];exact g1),by simpa using g2.agg⟩
  ·trivial
 ·rename_i n e sz ag z by_ eq ht;have hu:C.P.underlying t=some (.array n e):=(hC.ty t _ ht).kd;split
  ·rename_i zs ei hzs he;obtain⟨inf,zv,i1,i2,i3,i4,_⟩:=BX (S:=S) (w:=w) (β:=β) hC ht hzs;obtain⟨inf',z',j1,j2,_⟩:=(hC.ty _ _ he).info;refine Fw λ y hy=>?_;obtain⟨r,hr,hry⟩:=Fg.1 hy;subst hry;obtain⟨vr,g1,g2⟩:=GL (pv:=λ i=>some (i * inf'.size,inf'.size)) (λ i x hx=>by rw[j2];exact hx) _ _ _ _ _ hq i4 hr;exact⟨_,run_build w t qs vr (by simp only[Program.built,i1,hu,i3,j1];exact g1),by simpa using g2.agg⟩
  ·trivial
 ·trivial
end
end Go.Proofs.YtlhofpglndhfaaaGreatDoor
