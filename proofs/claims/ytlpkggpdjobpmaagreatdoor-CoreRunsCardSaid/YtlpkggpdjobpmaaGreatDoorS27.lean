/- Lemmas. -/
import Derived.WalkKit
import Derived.Orders
import Derived.KernelRfl
import Derived.Deep.MidRow
import Derived.Deep.AppendSrc
import Derived.Laws.MakeOwn
import Derived.Great.BuildSlice
import Derived.Test.YtlpkggpdjobpmaaGreatDoorS1
import Derived.Test.YtlpkggpdjobpmaaGreatDoorS2
set_option linter.all false
namespace Go.Proofs.YtlpkggpdjobpmaaGreatDoor
open Go.RowKit
inductive AV where
 |v (x:Value)
 |agg (cs:List AV)
 |tup (cs:List AV)
 |sl (rs:Nat) (rows:List (List AV)) (clip:Bool)
 |dp (rs col:Nat) (row:List AV)
 |ptr (s col:Nat)
 |ptr2 (s row col:Nat)
 |osl (s lo len:Nat) (clip:Bool)
 |clo (f:FuncId) (first caps:List AV)
 |opt (g:Bool) (x:AV)
 |any
inductive Blk where
 |box (cells:List AV)
 |arr (rows:List (List AV)) (rs:Nat)
 |row (cells:List AV)
abbrev AH:=Nat->Option Blk
structure Loc where
 blk:Nat
 base:Nat
 rs:Nat
abbrev Bt:=Nat->Option Loc
def noB:Bt:=λ_=>none
structure ASt where
 t:Nat->AV
 h:AH
 n:Nat
inductive Kd where
 |bool|int (k:IntKind)|string|slice (e:TypeId)|array (n:Nat) (e:TypeId)|struct (fs:List (Nat×TypeId))|pointer|func|other
inductive CK where
 |b|i|s
structure TI where
 kd:Kd
 sz:Nat
 ag:Bool
 zero:AV
 bytes:Nat
 eq:List CK
structure Ctx where
 P:Program
 ty:TypeId->Option TI
 G:Nat->Option (List AV)
 df:List Deferred:=[]
 lt:Bool:=false
 H:FuncId->List AV->AH->Nat->(AV->AH->Prop)->Prop:=λ_ _ _ _ _=>False
 fr:Nat:=0
@[reducible] def Ctx.noH(C:Ctx):Ctx:={C with H:=λ _ _ _ _ _=>False}
@[reducible] def Ctx.noHif(dr:Bool)(C:Ctx):Ctx:=match dr with|true=>C.noH|false=>C
inductive Need(g:Bool)(p K:Prop):Prop
 |mk (hp:g=true->p) (hk:K):Need g p K
inductive Branch(b:Bool)(X Y:Prop):Prop
 |mk (h1:b=true->X) (h2:b=false->Y):Branch b X Y
inductive IdxN(g:Bool)(rows:List (List AV))(i:Int)(K:List AV->Prop):Prop
 |mk (row:List AV) (h:g=true->0<=i∧rows[i.toNat]?=some row) (hk:K row):IdxN g rows i K
def upd{α:Type}(f:Nat->α)(i:Nat)(x:α):Nat->α:=λj=>match Nat.beq j i with|true=>x|false=>f j
def Aa(f:Nat->AV)(i:Option Nat)(x:AV):Nat->AV:=match i with|some i=>upd f i x|none=>f
def Lg:List AV->Nat->Option AV
 |[],_=>none
 |x::_,0=>some x
 |_::xs,n+1=>Lg xs n
def HD:Nat->List AV->List AV
 |0,_=>[]
 |_+1,[]=>[]
 |n+1,x::xs=>x::HD n xs
def FK:Nat->List AV->List AV
 |0,xs=>xs
 |_+1,[]=>[]
 |n+1,_::xs=>FK n xs
def zS:Nat->List AV->List AV->List AV
 |0,[],xs=>xs
 |0,c::cs,_::xs=>c::zS 0 cs xs
 |0,_::_,[]=>[]
 |n+1,cs,x::xs=>x::zS n cs xs
 |_+1,_,[]=>[]
def Za:Value->AV
 | .slice none 0 0=>.sl 0 [] true
 |x=>.v x
def YJ:List Value->Bool
 |[]=>true
 |v::vs=>match v.oneCell' with|true=>YJ vs|false=>false
def Pq:Value->AV
 | .slice none 0 0=>.sl 0 [] true
 | .agg cs=>match YJ cs.toList with|true=>.agg (cs.toList.map Za)|false=>.any
 |x=>.v x
def kN:AV->Option (List AV)
 | .agg cs=>some cs
 | .v (.agg _)| .v (.tuple _)=>none
 | .v x=>some [.v x]
 | .sl a b c=>some [.sl a b c]
 | .dp a b c=>some [.dp a b c]
 | .ptr a b=>some [.ptr a b]
 | .ptr2 a b c=>some [.ptr2 a b c]
 | .osl a b c d=>some [.osl a b c d]
 | .clo a b c=>some [.clo a b c]
 |_=>none
inductive Res where
 |bad
 |ok (x:AV)
 |need (p:Prop) (x:AV)
 |idx (rows:List (List AV)) (i:Int) (f:List AV->Option AV)
 |fx (p:Prop) (x:AV) (h:AH)
 |idxfx (rows:List (List AV)) (i:Int) (f:List AV->Option AH)
 |str (p:Prop) (rows:List (List AV))
 |call (f:FuncId) (args:List AV)
def cE(c x y:Bool):Bool:=match c with|true=>x|false=>y
def HE(op:BinOp)(k:IntKind)(a b:Int):Res:=
 match op with
 | .add=>.ok (.v (.int k (k.wrap (a+b))))
 | .sub=>.ok (.v (.int k (k.wrap (a-b))))
 | .mul=>.ok (.v (.int k (k.wrap (a*b))))
 | .quo=>.need (b≠0) (.v (.int k (k.wrap (a.tdiv b))))
 | .rem=>.need (b≠0) (.v (.int k (a.tmod b)))
 | .and=>.ok (.v (.int k (k.wrap (BitVec.ofInt k.bits a&&&BitVec.ofInt k.bits b).toNat)))
 | .or=>.ok (.v (.int k (k.wrap (BitVec.ofInt k.bits a ||| BitVec.ofInt k.bits b).toNat)))
 | .xor=>.ok (.v (.int k (k.wrap (BitVec.ofInt k.bits a^^^BitVec.ofInt k.bits b).toNat)))
 | .andNot=>.ok (.v (.int k (k.wrap (BitVec.ofInt k.bits a &&& ~~~ BitVec.ofInt k.bits b).toNat)))
 | .eql=>.ok (.v (.bool (a==b)))
 | .neq=>.ok (.v (.bool (a != b)))
 | .lss=>.ok (.v (.bool (decide (a<b))))
 | .leq=>.ok (.v (.bool (decide (a<=b))))
 | .gtr=>.ok (.v (.bool (decide (a>b))))
 | .geq=>.ok (.v (.bool (decide (a>=b))))
 |_=>.bad
def Ty(op:BinOp)(k:IntKind)(a b:Int):Res:=
 match op with
 | .shl=>.need (0<=b) (.v (.int k (k.wrap (a*2 ^ (min b.toNat k.bits)))))
 | .shr=>.need (0<=b) (.v (.int k (a.fdiv (2 ^ (min b.toNat k.bits)))))
 |_=>.bad
def BT(op:BinOp)(a b:Bool):Res:=
 match op with
 | .eql=>.ok (.v (.bool (a==b)))
 | .neq=>.ok (.v (.bool (!(a==b))))
 |_=>.bad
def HG(op:BinOp)(x y:ByteArray):Res:=
 match op with
 | .add=>.need (((x.size+y.size:Nat):Int)<=IntKind.i64.max) (.v (.string (x++y)))
 | .eql=>.ok (.v (.bool (x.toList==y.toList)))
 | .neq=>.ok (.v (.bool (!(x.toList==y.toList))))
 |_=>.bad
def yU:IntKind->IntKind->Bool
 | .i8,.i8| .i16,.i16| .i32,.i32| .i64,.i64| .u8,.u8| .u16,.u16| .u32,.u32| .u64,.u64=>true
 |_,_=>false
def eqS:CK->AV->AV->Option Bool
 | .i,.v (.int k a),.v (.int k' b)=>match yU k k' with|true=>some (a==b)|false=>none
 | .b,.v (.bool a),.v (.bool b)=>some (a==b)
 | .s,.v (.string a),.v (.string b)=>some (a==b)
 |_,_,_=>none
def eqL:List CK->List AV->List AV->Option Bool
 |[],[],[]=>some true
 |k::ks,x::xs,y::ys=>match eqS k x y,eqL ks xs ys with|some a,some b=>some (a&&b)|_,_=>none
 |_,_,_=>none
def EA:BinOp->Bool
 | .shl| .shr=>true
 |_=>false
def Tz(C:Ctx)(op:BinOp)(t:TypeId)(x y:AV):Res:=
 match x,y with
 | .v (.int k a),.v (.int k' b)=>
  match EA op with
  |true=>Ty op k a b
  |false=>match yU k k' with|true=>HE op k a b|false=>.bad
 | .v (.bool a),.v (.bool b)=>match C.ty t with|some ⟨.bool,_,_,_,_,_⟩=>BT op a b|_=>.bad
 | .v (.string a),.v (.string b)=>HG op a b
 | .agg xs,.agg ys=>
  match C.ty t with
  |some ⟨_,_,_,_,_,k::ks⟩=>
   match op,eqL (k::ks) xs ys with
   | .eql,some b=>.ok (.v (.bool b))
   | .neq,some b=>.ok (.v (.bool (!b)))
   |_,_=>.bad
  |_=>.bad
 |_,_=>.bad
def Ww:BinOp->Operand->Option Bool
 | .eql,.const (.slice none 0 0)=>some false
 | .neq,.const (.slice none 0 0)=>some true
 |_,_=>none
def BU(C:Ctx)(neq:Bool)(t:TypeId)(x:AV):Res:=
 match C.ty t with
 |some ⟨.slice _,_,_,_,_,_⟩=>
  match x with
  | .v (.slice none _ _)=>.ok (.v (.bool (!neq)))
  | .v (.slice (some _) _ _)=>.ok (.v (.bool neq))
  | .sl _ (_::_) _=>.ok (.v (.bool neq))
  |_=>.bad
 |_=>.bad
def unA(op:UnOp)(x:AV):Res:=
 match op,x with
 | .not,.v (.bool b)=>.ok (.v (.bool (!b)))
 | .neg,.v (.int k n)=>.ok (.v (.int k (k.wrap (0-n))))
 | .xor,.v (.int k n)=>.ok (.v (.int k (k.wrap (BitVec.ofInt k.bits (if k.signed then -1 else k.max)^^^BitVec.ofInt k.bits n).toNat)))
 |_,_=>.bad
def gU:List (List AV)->Option (List UInt8)
 |[]=>some []
 |[.v (.int .u8 n)]::rs=>match gU rs with|some l=>some (UInt8.ofNat n.toNat::l)|none=>none
 |_=>none
inductive StrN(g:Bool)(p:Prop)(rows:List (List AV))(K:ByteArray->Prop):Prop
 |mk (l:List UInt8) (h:g=true->p∧gU rows=some l) (hk:K ⟨l.toArray⟩):StrN g p rows K
def aS(s:ByteArray):List (List AV):=s.data.toList.map λb=>[.v (.int .u8 b.toNat)]
def DF(C:Ctx)(src dst:TypeId)(x:AV):Res:=
 match C.ty src,C.ty dst,x with
 |some ⟨.int _,_,_,_,_,_⟩,some ⟨.int k,_,_,_,_,_⟩,.v (.int _ n)=>.ok (.v (.int k (k.wrap n)))
 |some ⟨.string,_,_,_,_,_⟩,some ⟨.string,_,_,_,_,_⟩,.v (.string s)=>.ok (.v (.string s))
 |_,_,_=>.bad
def Ot(C:Ctx)(t:TypeId)(cs:List AV)(off:Nat):Option AV:=
 match C.ty t with
 |some ⟨_,sz,true,_,_,_⟩=>some (.agg (HD sz (FK off cs)))
 |some ⟨_,_,false,_,_,_⟩=>Lg cs off
 |none=>none
def HI(C:Ctx)(t:TypeId)(rs col:Nat)(row:List AV):Option AV:=
 match C.ty t with
 |some ⟨_,sz,true,_,_,_⟩=>
  match col,Nat.beq sz rs with
  |0,true=>some (.agg row)
  |_,_=>match Nat.beq (HD sz (FK col row)).length sz with|true=>some (.agg (HD sz (FK col row)))|false=>none
 |some ⟨_,_,false,_,_,_⟩=>Lg row col
 |none=>none
def PU:List (Nat×TypeId)->Nat->Option (Nat×TypeId)
 |[],_=>none
 |x::_,0=>some x
 |_::xs,n+1=>PU xs n
def HJ(C:Ctx)(place:Nat->Option (Nat×Nat))(cells:List AV):List (Nat×AV)->Option (List AV)
 |[]=>some cells
 |(i,x)::rest=>
  match place i,kN x with
  |some (off,sz),some cs=>match Nat.beq cs.length sz,Nat.ble (off+cs.length) cells.length with|true,true=>HJ C place (zS off cs cells) rest|_,_=>none
  |_,_=>none
def okO(x:Option AV):Res:=match x with|some x=>.ok x|none=>.bad
def lenA:AV->Option Nat
 | .v (.string s)=>some s.size
 | .sl _ rows _=>some rows.length
 | .osl _ _ len _=>some len
 |_=>none
def Zb:Option AV->Option (Option Int)
 |none=>some none
 |some (.v (.int _ n))=>some (some n)
 |_=>none
def DG(h:AH):AV->Option Blk
 | .osl b _ _ _=>h b
 |_=>none
def BV(C:Ctx)(t:TypeId)(x:AV)(lo hi mx:Option AV)(blk:Option Blk):Res:=
 match lenA x,Zb lo,Zb hi,Zb mx with
 | some len,some lo,some hi,some mx=>
  match C.ty t with
  |some ⟨.string,_,_,_,_,_⟩=>
   match x,mx with
   | .v (.string s),none=>.need (0<=lo.getD 0∧lo.getD 0<=hi.getD len∧hi.getD len<=(len:Int)) (.v (.string (s.extract (lo.getD 0).toNat (hi.getD len).toNat)))
   |_,_=>.bad
  | some ⟨.slice e,_,_,_,_,_⟩=>
   match C.ty e with
   | some ei=>
    match x,mx,hi with
    | .sl rs rows clip,none,hi=>
     match Nat.beq rs ei.sz with
     |true=>.need (0<=lo.getD 0∧lo.getD 0<=hi.getD len∧hi.getD len<=(len:Int)) (.sl rs ((rows.take (hi.getD len).toNat).drop (lo.getD 0).toNat) (clip&&hi.isNone))
     |false=>.bad
    | .sl rs rows _,some m,some hi=>
     match Nat.beq rs ei.sz with
     |true=>.need (0<=lo.getD 0∧lo.getD 0<=hi∧hi=m∧hi<=(len:Int)) (.sl rs ((rows.take hi.toNat).drop (lo.getD 0).toNat) true)
     |false=>.bad
    | .osl s o _ clip,none,hi=>
     match blk with
     |some (.arr _ rs)=>
      match Nat.beq rs ei.sz with
      |true=>.need (0<=lo.getD 0∧lo.getD 0<=hi.getD len∧hi.getD len<=(len:Int)) (.osl s (o+(lo.getD 0).toNat) (hi.getD len-lo.getD 0).toNat (clip&&hi.isNone))
      |false=>.bad
     |_=>.bad
    | .osl s o _ _,some m,some hi=>
     match blk with
     |some (.arr _ rs)=>
      match Nat.beq rs ei.sz with
      |true=>.need (0<=lo.getD 0∧lo.getD 0<=hi∧hi=m∧hi<=(len:Int)) (.osl s (o+(lo.getD 0).toNat) (hi-lo.getD 0).toNat true)
      |false=>.bad
     |_=>.bad
    |_,_,_=>.bad
   |none=>.bad
  |_=>.bad
 |_,_,_,_=>.bad
def uQ(C:Ctx)(h:AH)(t:TypeId)(x:AV)(lo hi mx:Option AV):Res:=BV C t x lo hi mx (DG h x)
def mY(h:AH):AV->Option (Nat×List (List AV))
 | .v (.string s)=>some (1,aS s)
 | .sl rs rows _=>some (rs,rows)
 | .osl s lo len _=>match h s with|some (.arr rows rs)=>some (rs,(rows.drop lo).take len)|_=>none
 |_=>none
def xV(h:AH):AV->Prop
 | .osl s lo len _=>match h s with|some (.arr rows _)=>lo+len<=rows.length|_=>False
 |_=>True
def jH:Nat:=1000000
def TA(C:Ctx)(t:TypeId)(x:AV):Res:=
 match C.ty t,x with
 |some ⟨.string,_,_,_,_,_⟩,.v (.string s)=>.ok (.v (.int .i64 (s.size:Int)))
 |some ⟨.slice _,_,_,_,_,_⟩,.sl _ rows _=>.ok (.v (.int .i64 (rows.length:Int)))
 |some ⟨.slice _,_,_,_,_,_⟩,.osl _ _ len _=>.ok (.v (.int .i64 (len:Int)))
 |some ⟨.array n _,_,_,_,_,_⟩,_=>.ok (.v (.int .i64 (n:Int)))
 |_,_=>.bad
def Ou:Kd->Bool
 | .slice _| .string=>true
 |_=>false
def TB(x y:AV):Res:=
 match x,y with
 | .v (.int k a),.v (.int k' b)=>match yU k k' with|true=>.ok (.v (.int k (if b<a then b else a)))|false=>.bad
 |_,_=>.bad
def TC(x y:AV):Res:=
 match x,y with
 | .v (.int k a),.v (.int k' b)=>match yU k k' with|true=>.ok (.v (.int k (if b>a then b else a)))|false=>.bad
 |_,_=>.bad
def EB(C:Ctx)(h:AH)(ts:List TypeId)(x y:AV):Res:=
 match ts with
 |[]=>.bad
 | t ::_=>
  match C.ty t with
  | some ⟨.slice e,_,_,_,_,_⟩=>
   match C.ty e,x with
   | some ei,.osl s0 lo len _=>
    match h s0,mY h y with
    |some (.arr rows rs),some (rc,c)=>
     match Nat.beq rs ei.sz,Nat.beq rc ei.sz with
     |true,true=>.fx (lo+len<=rows.length∧xV h y) (.v (.int .i64 (min c.length len:Nat))) (upd h s0 (some (.arr (rows.take lo++c.take (min c.length len)++rows.drop (lo+min c.length len)) rs)))
     |_,_=>.bad
    |_,_=>.bad
   |_,_=>.bad
  |_=>.bad
def qG(C:Ctx)(s:Nat)(ts:List TypeId)(x:AV)(rx ry:Option (Nat×List (List AV)))(blk:Option Blk)(px py:Prop)(h:AH):Res:=
 match ts with
 | [t,tx]=>match C.ty t,C.ty tx with
  | some ⟨.slice e,_,_,_,_,_⟩,some tk=>match C.ty e with
   | some ei=>
    match Ou tk.kd,x,rx,ry with
    | true,.sl r0 _ true,some (ra,a),some (rc,c)=>match Nat.beq r0 0,Nat.beq ra ei.sz,Nat.beq rc ei.sz with
     |true,_,true=>.fx (a.length=0∧c.length<=jH∧0<c.length∧py) (.osl s 0 c.length false) (upd h s (some (.arr c rc)))
     |false,true,true=>(match c with
      |[]=>.need (px∧py) x
      |_::_=>.fx (a.length+c.length<=jH∧0<c.length∧px∧py) (.osl s 0 (a.length+c.length) false) (upd h s (some (.arr (a++c) ra))))
     |_,_,_=>.bad
    |true,.osl _ _ _ true,some (ra,a),some (rc,c)=>match Nat.beq ra ei.sz,Nat.beq rc ei.sz with
     |true,true=>.fx (a.length+c.length<=jH∧0<c.length∧px∧py) (.osl s 0 (a.length+c.length) false) (upd h s (some (.arr (a++c) ra)))
     |_,_=>.bad
    |true,.osl s0 lo len false,some (ra,a),some (rc,c)=>
     match blk,Nat.beq ra ei.sz,Nat.beq rc ei.sz with
     |some (.arr rows _),true,true=>.fx (a.length+c.length<=jH∧lo+len=rows.length∧py) (.osl s 0 (a.length+c.length) false) (upd (upd h s0 none) s (some (.arr (a++c) ra)))
     |_,_,_=>.bad
    |_,_,_,_=>.bad
   |none=>.bad
  |_,_=>.bad
 |_=>.bad
def bR(C:Ctx)(h:AH)(s:Nat)(b:Builtin)(ts:List TypeId)(args:List AV):Res:=
 match b,args with
 | .len,[x]=>match ts with|[t]=>TA C t x|_=>.bad
 | .min,[x,y]=>TB x y
 | .max,[x,y]=>TC x y
 | .append,[x,y]=>qG C s ts x (mY h x) (mY h y) (DG h x) (xV h x) (xV h y) h
 | .copy,[x,y]=>EB C h ts x y
 |_,_=>.bad
def AL(C:Ctx)(t:TypeId):Option (List AV):=
 match C.ty t with
 |some i=>kN i.zero
 |none=>none
mutual
def eP:AV->Bool
 | .v _| .sl _ _ _| .dp _ _ _=>true
 | .agg cs=>eW cs
 | .tup cs=>eW cs
 | .clo _ a b=>match eW a with|true=>eW b|false=>false
 |_=>false
def eW:List AV->Bool
 |[]=>true
 |x::xs=>match eP x with|true=>eW xs|false=>false
end
def FL(sz:Nat):Nat->List (Nat×AV)->Option (List (List AV))
 |_,[]=>some []
 |k,(i,x)::rest=>
  match Nat.beq i k,kN x,FL sz (k+1) rest with
  |true,some cs,some rows=>match Nat.beq cs.length sz,eW cs with|true,true=>some (cs::rows)|_,_=>none
  |_,_,_=>none
def HL(c a b:AV):Res:=
 match c,a,b with
 | .v (.bool c),.v (.bool x),.v (.bool y)=>.ok (.v (.bool (cE c x y)))
 | .v (.bool c),.opt g (.v (.bool x)),.v (.bool y)=>.need (c=true->g=true) (.v (.bool (cE c x y)))
 | .v (.bool c),.v (.bool x),.opt g (.v (.bool y))=>.need (c=false->g=true) (.v (.bool (cE c x y)))
 |_,_,_=>.bad
def tG(C:Ctx)(h:AH)(t:TypeId)(a:AV):Res:=
 match a with
 | .ptr b c=>match h b with|some (.box cells)=>okO (HI C t cells.length c cells)|_=>.bad
 | .ptr2 b r c=>match h b with|some (.arr rows rs)=>.idx rows r (HI C t rs c)|some (.row cells)=>.idx (cells.map λx=>[x]) r (HI C t 1 c)|_=>.bad
 | .dp rs c row=>okO (HI C t rs c row)
 |_=>.bad
def oJ(C:Ctx)(t:TypeId)(f:Nat)(a:AV):Res:=
 match C.ty t with
 |some ⟨.struct fs,_,_,_,_,_⟩=>
  match PU fs f,a with
  |some (off,_),.ptr b c=>.ok (.ptr b (c+off))
  |some (off,_),.ptr2 b r c=>.ok (.ptr2 b r (c+off))
  |some (off,_),.dp rs c row=>.ok (.dp rs (c+off) row)
  |_,_=>.bad
 |_=>.bad
def Ab(C:Ctx)(t:TypeId)(f:Nat)(a:AV):Res:=
 match C.ty t with
 |some ⟨.struct fs,_,_,_,_,_⟩=>match PU fs f,a with|some (off,ft),.agg cs=>okO (Ot C ft cs off)|_,_=>.bad
 |_=>.bad
def pN(C:Ctx)(t:TypeId)(a i:AV)(blk:Option Blk):Res:=
 match C.ty t,i with
 | some ⟨.slice e,_,_,_,_,_⟩,.v (.int _ n)=>
  match C.ty e,a with
  |some ei,.sl rs rows _=>(match Nat.beq rs ei.sz with|true=>.idx rows n (λrow=>some (.dp rs 0 row))|false=>.bad)
  |some ei,.osl b lo len _=>(match blk with
   |some (.arr _ rs)=>(match Nat.beq rs ei.sz with|true=>.need (0<=n∧n<(len:Int)) (.ptr2 b (lo+n.toNat) 0)|false=>.bad)
   |some (.row _)=>(match Nat.beq 1 ei.sz with|true=>.need (0<=n∧n<(len:Int)) (.ptr2 b (lo+n.toNat) 0)|false=>.bad)
   |_=>.bad)
  |_,_=>.bad
 |some ⟨.array len e,_,_,_,_,_⟩,.v (.int _ n)=>
  match C.ty e,a with
  |some ei,.ptr b c=>.need (0<=n∧n<(len:Int)) (.ptr b (c+n.toNat*ei.sz))
  |some ei,.ptr2 b r c=>.need (0<=n∧n<(len:Int)) (.ptr2 b r (c+n.toNat*ei.sz))
  |some ei,.dp rs c row=>.need (0<=n∧n<(len:Int)) (.dp rs (c+n.toNat*ei.sz) row)
  |_,_=>.bad
 |_,_=>.bad
def iW(C:Ctx)(h:AH)(t:TypeId)(a i:AV):Res:=pN C t a i (DG h a)
def BW(C:Ctx)(t:TypeId)(a i:AV):Res:=
 match C.ty t,a,i with
 |some ⟨.string,_,_,_,_,_⟩,.v (.string s),.v (.int _ n)=>.need (0<=n∧n<(s.size:Int)) (.v (.int .u8 (s.data.toList.getD n.toNat 0).toNat))
 |some ⟨.array len e,_,_,_,_,_⟩,.agg cs,.v (.int _ n)=>
  match C.ty e with
  |some ei=>match Ot C e cs (n.toNat*ei.sz)with|some x=>.need (0<=n∧n<(len:Int)) x|none=>.bad
  |none=>.bad
 |_,_,_=>.bad
def rY(i:Nat)(a:AV):Res:=match a with| .tup vs=>okO (Lg vs i)|_=>.bad
def BX(C:Ctx)(t:TypeId)(ps:List (Nat×AV)):Res:=
 match C.ty t with
 |some ⟨.struct fs,_,_,z,_,_⟩=>
  match kN z with
  |some zs=>okO ((HJ C (λi=>match PU fs i with|some (off,ft)=>(match C.ty ft with|some fi=>some (off,fi.sz)|none=>none)|none=>none) zs ps).map .agg)
  |none=>.bad
 |some ⟨.array _ e,_,_,z,_,_⟩=>
  match kN z,C.ty e with
  |some zs,some ei=>okO ((HJ C (λi=>some (i*ei.sz,ei.sz)) zs ps).map .agg)
  |_,_=>.bad
 |_=>.bad
def TD(a:AV):Res:=
 match a with
 | .ptr b c=>.ok (.ptr b c)
 | .ptr2 b r c=>.ok (.ptr2 b r c)
 | .dp a b c=>.ok (.dp a b c)
 | .clo a b c=>.ok (.clo a b c)
 |_=>.bad
def FM(C:Ctx)(h:AH)(s:Nat)(src dst:TypeId)(x:AV):Res:=
 match C.ty src,C.ty dst with
 |some ⟨.string,_,_,_,_,_⟩,some ⟨.slice e,_,_,_,_,_⟩=>
  match x,C.ty e with
  | .v (.string b),some ⟨.int .u8,_,_,_,_,_⟩=>.fx (b.size<=jH) (.osl s 0 b.size false) (upd h s (some (.arr (aS b) 1)))
  |_,_=>.bad
 | some ⟨.slice e,_,_,_,_,_⟩,some ⟨.string,_,_,_,_,_⟩=>
  match x with
  | .v _=>.bad
  |x=>match C.ty e,mY h x with
   |some ⟨.int .u8,_,_,_,_,_⟩,some (_,rows)=>.str (xV h x) rows
   |_,_=>.bad
 |_,_=>DF C src dst x
def JM(C:Ctx)(h:AH)(s:Nat)(t:TypeId)(l c:AV):Res:=
 match C.ty t,l,c with
 | some ⟨.slice e,_,_,_,_,_⟩,.v (.int _ l),.v (.int _ c)=>
  match C.ty e with
  |some ei=>match kN ei.zero with
   |some z=>(match eW z with|true=>.fx (0<=l∧l<=c∧c<=jH) (.osl s 0 l.toNat false) (upd h s (some (.arr (List.replicate l.toNat z) z.length)))|false=>.bad)
   |none=>.bad
  |none=>.bad
 |_,_,_=>.bad
def opA(C:Ctx)(ev:Operand->AV)(h:AH)(s:Nat)(op:Op):Res:=
 match op with
 | .move x| .assign x=>.ok (ev x)
 | .pick c a b=>HL (ev c) (ev a) (ev b)
 | .alloc t=>match AL C t with|some cs=>.fx True (.ptr s 0) (upd h s (some (.box cs)))|none=>.bad
 | .box _ x=>match kN (ev x)with|some cs=>.fx True (.ptr s 0) (upd h s (some (.box cs)))|none=>.bad
 | .build t parts=>BX C t (parts.toList.map λp=>(p.1,ev p.2))
 | .load t a=>tG C h t (ev a)
 | .store t a x=>
  match C.ty t,kN (ev x)with
  | some ti,some cs=>
   match Nat.beq cs.length ti.sz with
   | true=>
    match ev a with
    | .ptr b c=>match h b with|some (.box cells)=>(match Nat.ble (c+cs.length) cells.length with|true=>.fx True .any (upd h b (some (.box (zS c cs cells))))|false=>.bad)|_=>.bad
    | .ptr2 b r c=>(match h b with
     |some (.arr rows rs)=>.idxfx rows r (λrow=>match Nat.ble (c+cs.length) row.length,eW cs with|true,true=>some (upd h b (some (.arr (rows.set r (zS c cs row)) rs)))|_,_=>none)
     |some (.row cells)=>.idxfx (cells.map λx=>[x]) r (λ_=>match c,cs with|0,[x]=>some (upd h b (some (.row (cells.set r x))))|_,_=>none)
     |_=>.bad)
    |_=>.bad
   |false=>.bad
  |_,_=>.bad
 | .nilCheck x=>TD (ev x)
 | .binOp op t x y _=>(match Ww op y with|some neq=>BU C neq t (ev x)|none=>Tz C op t (ev x) (ev y))
 | .unOp op _ x=>unA op (ev x)
 | .convert src dst x=>FM C h s src dst (ev x)
 | .makeFunc (.func f) first caps=>.ok (.clo f (first.toList.map ev) (caps.toList.map ev))
 | .makeSlice t l c=>JM C h s t (ev l) (ev c)
 | .buildSlice t len parts=>
  match C.ty t with
  | some ⟨.slice e,_,_,_,_,_⟩=>
   match C.ty e with
   | some ei=>
    match FL ei.sz 0 (parts.toList.map λp=>(p.1,ev p.2))with
    |some rows=>match Nat.beq rows.length len,Nat.ble (len*ei.sz) 16777216 with
     |true,true=>.ok (.sl ei.sz rows true)
     |_,_=>.bad
    |none=>.bad
   |none=>.bad
  |_=>.bad
 | .slice t x lo hi mx=>uQ C h t (ev x) (lo.map ev) (hi.map ev) (mx.map ev)
 | .fieldAddr t x f=>oJ C t f (ev x)
 | .field t x f=>Ab C t f (ev x)
 | .indexAddr t x i=>iW C h t (ev x) (ev i)
 | .index t x i=>BW C t (ev x) (ev i)
 | .extract x i=>rY i (ev x)
 | .call c=>
  match c.callee with
  | .builtin b=>bR C h s b c.argTypes.toList (c.args.toList.map ev)
  | .value f=>match ev f with
   | .clo f first caps=>.call f (first++c.args.toList.map ev++caps)
   |_=>.bad
  |_=>.bad
 |_=>.bad
def evA(C:Ctx)(t:Nat->AV):Operand->AV
 | .tmp i=>t i
 | .const x=>Pq x
 | .global g=>match C.G g with|some cells=>.dp cells.length 0 cells|none=>.any
 | .func f=>.clo f [] []
def Bz:AV->AV
 | .opt _ x=>x
 |x=>x
def MF:AV->Option Bool
 | .opt g _=>some g
 |_=>none
def vQ(t:Nat->AV):List Operand->Option Bool
 |[]=>none
 | .tmp i::rest=>match MF (t i),vQ t rest with
  |none,r=>r
  |some g,none=>some g
  |some g,some r=>some (g&&r)
 |_::rest=>vQ t rest
def condsO(t:Nat->AV)(op:Op):Option Bool:=
 match op with
 | .pick c _ _=>vQ t [c]
 |op=>vQ t op.operands.toList
def Lz:Operand->Operand->Bool
 | .tmp i,.tmp j=>Nat.beq i j
 |_,_=>false
def evS(C:Ctx)(t:Nat->AV)(op:Op):Operand->AV:=
 match op with
 | .pick c _ _=>λx=>match Lz c x with|true=>Bz (evA C t x)|false=>evA C t x
 |_=>λx=>Bz (evA C t x)
def Ad(x:AV)(pol:Bool):Option Bool:=
 match x with
 | .v (.bool b)=>some (match pol with|true=>b|false=> !b)
 | .opt a (.v (.bool b))=>some (a&&(match pol with|true=>b|false=> !b))
 |_=>none
mutual
def HP:AV->Bool
 | .osl _ _ _ _=>false
 | .ptr _ _=>false
 | .agg cs=>oU cs
 | .tup cs=>oU cs
 | .clo _ a b=>match oU a with|true=>oU b|false=>false
 |_=>true
def oU:List AV->Bool
 |[]=>true
 |x::xs=>match HP x with|true=>oU xs|false=>false
end
def SU:List AV->List AV
 |[]=>[]
 |x::xs=>(match eP x with|true=>x|false=>.any)::SU xs
mutual
def vR(h:AH):AV->AV
 | .osl s lo len clip=>match h s with|some (.arr rows rs)=>.sl rs ((rows.drop lo).take len) clip|_=>.any
 | .agg cs=>.agg (rO h cs)
 | .tup cs=>match oU cs with|true=>.tup cs|false=>.tup (rO h cs)
 | .ptr s c=>match h s with|some (.box cells)=>.dp cells.length c (SU cells)|_=>.any
 | .clo f a b=>.clo f (rO h a) (rO h b)
 |x=>x
def rO(h:AH):List AV->List AV
 |[]=>[]
 |x::xs=>vR h x::rO h xs
end
mutual
def jU(h:AH):AV->Prop
 | .osl s lo len _=>match h s with|some (.arr rows _)=>lo+len<=rows.length|_=>False
 | .agg cs=>jV h cs
 | .tup cs=>match oU cs with|true=>True|false=>jV h cs
 | .clo _ a b=>jV h a∧jV h b
 |_=>True
def jV(h:AH):List AV->Prop
 |[]=>True
 |x::xs=>jU h x∧jV h xs
end
mutual
def CQ:AV->Bool
 | .v _=>true
 | .agg cs=>PV cs
 | .tup cs=>PV cs
 |_=>false
def PV:List AV->Bool
 |[]=>true
 |x::xs=>match CQ x with|true=>PV xs|false=>false
end
inductive CallN(C:Ctx)(R:FuncId->List AV->AV->Prop)(g:Bool)(h:AH)(f:FuncId)(args:List AV)(K:AV->Prop):Prop
 |mk (r:AV) (hc:eW (rO h args)=true) (hf:oU args=true∨(CQ r=true∧jV h args)) (hr:eP r=true) (hR:g=true->R f (rO h args) r) (hk:K r):CallN C R g h f args K
inductive HCallN(C:Ctx)(h:AH)(s:Nat)(f:FuncId)(args:List AV)(K:AV->AH->Prop):Prop
 |mk (Post:AV->AH->Prop) (hH:C.H f args h s Post) (hk:∀r h',Post r h'->K r h'):HCallN C h s f args K
def node(C:Ctx)(R:FuncId->List AV->AV->Prop)(h:AH)(s:Nat)(r:Res)(K:AV->AH->Prop):Prop:=
 match r with
 | .bad=>False
 | .ok x=>K x h
 | .need p x=>Need true p (K x h)
 | .idx rows i f=>IdxN true rows i (λrow=>match f row with|some x=>K x h|none=>False)
 | .fx p x h'=>Need true p (K x h')
 | .idxfx rows i f=>IdxN true rows i (λrow=>match f row with|some h'=>K .any h'|none=>False)
 | .str p rows=>StrN true p rows (λb=>K (.v (.string b)) h)
 | .call f args=>CallN C R true h f args (λx=>K x h)∨HCallN C h s f args K
def DH(C:Ctx)(R:FuncId->List AV->AV->Prop)(h:AH)(g:Bool)(r:Res)(K:AV->AH->Prop):Prop:=
 match r with
 | .ok x=>K (.opt g x) h
 | .need p x=>Need g p (K (.opt g x) h)
 | .idx rows i f=>IdxN g rows i (λrow=>match f row with|some x=>K (.opt g x) h|none=>False)
 | .str p rows=>StrN g p rows (λb=>K (.opt g (.v (.string b))) h)
 | .call f args=>CallN C R g h f args (λx=>K (.opt g x) h)
 |_=>False
def Ov(r:Res)(K:AV->AH->Prop):Prop:=
 match r with
 | .fx p x h'=>Need true p (K x h')
 |_=>False
def xG(C:Ctx)(R:FuncId->List AV->AV->Prop)(all:List Oper)(o:Oper)(s:Nat)(t:Nat->AV)(h:AH)(K:AV->AH->Prop):Prop:=
 match o.guard with
 |none=>node C R h s (opA C (evA C t) h s o.op) K
 | some (i,pol)=>
  match(all[i]?).bind (·.dst)with
  |none=>False
  | some d=>
   match Ad (t d) pol with
   |none=>False
   |some g=>
    match condsO t o.op with
    |none=>DH C R h g (opA C (evA C t) h s o.op) K∨(g=true∧Ov (opA C (evA C t) h s o.op) K)
    |some c=>Need g (c=true) (DH C R h g (opA C (evS C t o.op) h s o.op) K)
def jS(C:Ctx)(R:FuncId->List AV->AV->Prop)(all:List Oper):List Oper->Nat->ASt->(ASt->Prop)->Prop
 |[],j,st,K=>K {st with n:=st.n+j}
 |o::rest,j,st,K=>xG C R all o (st.n+j) st.t st.h (λx h'=>jS C R all rest (j+1) {st with t:=Aa st.t o.dst x,h:=h' } K)
inductive AEx where
 |normal|exit (id:Nat)|ret
mutual
def uW(σ:Nat->Nat):AV->AV
 | .ptr s c=>.ptr (σ s) c
 | .ptr2 s r c=>.ptr2 (σ s) r c
 | .osl s lo len clip=>.osl (σ s) lo len clip
 | .agg cs=>.agg (Bg σ cs)
 | .tup cs=>.tup (Bg σ cs)
 | .clo f a b=>.clo f (Bg σ a) (Bg σ b)
 | .opt g x=>.opt g (uW σ x)
 |x=>x
def Bg(σ:Nat->Nat):List AV->List AV
 |[]=>[]
 |x::xs=>uW σ x::Bg σ xs
end
mutual
def mR(n:Nat):AV->Bool
 | .ptr s _=>Nat.blt s n
 | .ptr2 s _ _=>Nat.blt s n
 | .osl s _ _ _=>Nat.blt s n
 | .agg cs=>mS n cs
 | .tup cs=>mS n cs
 | .clo _ a b=>match mS n a with|true=>mS n b|false=>false
 | .opt _ x=>mR n x
 |_=>true
def mS(n:Nat):List AV->Bool
 |[]=>true
 |x::xs=>match mR n x with|true=>mS n xs|false=>false
end
def DI(σ:Nat->Nat):Blk->Blk
 | .box cells=>.box (Bg σ cells)
 | .arr rows rs=>.arr rows rs
 | .row cells=>.row (Bg σ cells)
def qM(n:Nat):Blk->Bool
 | .box cells=>mS n cells
 | .arr _ _=>true
 | .row cells=>mS n cells
structure Weak(st st':ASt)(σ:Nat->Nat):Prop where
 t:∀i,st'.t i=.any∨(st.t i=uW σ (st'.t i)∧mR st'.n (st'.t i)=true)
 h:∀s blk,st'.h s=some blk->s<st'.n∧st.h (σ s)=some (DI σ blk)∧qM st'.n blk=true
 inj:∀s s',st'.h s≠none->st'.h s'≠none->σ s=σ s'->s=s'
abbrev Fz:=Option (Nat×Nat×List (List AV))
inductive LeZ(fz:Fz):AV->AV->Prop
 |refl (a:AV):LeZ fz a a
 |any (a:AV):LeZ fz a .any
 |nil (rs:Nat) (c:Bool):LeZ fz (.sl 0 [] true) (.sl rs [] c)
 |emp (rs:Nat) (A:Option Addr) (k:Nat) (c:Bool) (hk:k<=maxLen) (hc:c=true->k=0):LeZ fz (.v (.slice A 0 k)) (.sl rs [] c)
 |clip (rs:Nat) (rows:List (List AV)):LeZ fz (.sl rs rows true) (.sl rs rows false)
 |oclip (s lo len:Nat):LeZ fz (.osl s lo len true) (.osl s lo len false)
 |frz (b rs lo len:Nat) (rows:List (List AV)) (c c':Bool) (h:fz=some (b,rs,rows)) (hl:lo+len<=rows.length) (hc:c'=true->c=true):LeZ fz (.osl b lo len c) (.sl rs ((rows.drop lo).take len) c')
 |agg (cs ds:List AV) (hl:cs.length=ds.length) (h:∀(i:Nat) a d,cs[i]?=some a->ds[i]?=some d->LeZ fz a d):LeZ fz (.agg cs) (.agg ds)
 |tup (cs ds:List AV) (hl:cs.length=ds.length) (h:∀(i:Nat) a d,cs[i]?=some a->ds[i]?=some d->LeZ fz a d):LeZ fz (.tup cs) (.tup ds)
inductive LeB(fz:Fz):Blk->Blk->Prop
 |refl (b:Blk):LeB fz b b
 |box (cs ds:List AV) (hl:cs.length=ds.length) (h:∀(i:Nat) a d,cs[i]?=some a->ds[i]?=some d->LeZ fz a d):LeB fz (.box cs) (.box ds)
 |row (cs ds:List AV) (hl:cs.length=ds.length) (h:∀(i:Nat) a d,cs[i]?=some a->ds[i]?=some d->LeZ fz a d):LeB fz (.row cs) (.row ds)
 |toRow (cells:List AV):LeB fz (.arr (cells.map λx=>[x]) 1) (.row cells)
 |toArr (cells:List AV) (h:∀c∈cells,eP c=true):LeB fz (.row cells) (.arr (cells.map λx=>[x]) 1)
structure Ghost(st st':ASt)(fz:Fz):Prop where
 b:∀x rs rows,fz=some (x,rs,rows)->st.h x=some (.arr rows rs)
 n:st'.n=st.n
 t:∀i,LeZ fz (st.t i) (st'.t i)
 h:∀s blk,st'.h s=some blk->(∀x rs rows,fz=some (x,rs,rows)->s≠x)∧∃blk0,st.h s=some blk0∧LeB fz blk0 blk
inductive Ghosts:ASt->ASt->Prop
 |refl (st:ASt):Ghosts st st
 |step {a b c:ASt} (fz:Fz) (h:Ghost a b fz) (k:Ghosts b c):Ghosts a c
inductive GhostN(st:ASt)(K:ASt->Prop):Prop
 |mk (st':ASt) (h:Ghosts st st') (k:K st'):GhostN st K
def keepB:Nat->(Nat->Nat)->Nat->Bool
 |0,_,_=>true
 |k+1,σ,n=>match Nat.beq (σ k) k,Nat.blt k n with|true,true=>keepB k σ n|_,_=>false
inductive WeakN(fr:Nat)(st:ASt)(K:ASt->Prop):Prop
 |mk (stw:ASt) (σ:Nat->Nat) (hw:Weak st stw σ) (hf:keepB fr σ stw.n=true) (k:K stw):WeakN fr st K
inductive LoopN(fr:Nat)(body:ASt->(AEx->ASt->Prop)->Prop)(st:ASt)(Q:AEx->ASt->Prop):Prop
 | mk (I:ASt->Prop) (μ:ASt->Nat) (st0:ASt) (σ:Nat->Nat) (hw:Weak st st0 σ) (hf:keepB fr σ st0.n=true) (h0:I st0)
   (round:∀st',I st'->body st' (λe st''=>match e with| .normal=>GhostN st'' (λstg=>∃stw σ,Weak stg stw σ∧keepB fr σ stw.n=true∧I stw∧μ stw<μ st')|e=>Q e st'')):LoopN fr body st Q
def forL{α:Type}(P:α->Prop):List α->Prop
 |[]=>True
 |x::l=>P x∧forL P l
def Zc(C:Ctx)(R:FuncId->List AV->AV->Prop)(ops:Array Oper)(next:Array Bool->ASt->Prop)(listed:Array Bool)(t:Nat->AV)(h:AH)(n i:Nat):Prop:=
 match ops[i]? with
 |some o=>xG C R ops.toList o (n+i) t h (λx h'=>next (listed.setIfInBounds i true) ⟨Aa t o.dst x,h',n⟩)
 |none=>False
def Wx(C:Ctx)(R:FuncId->List AV->AV->Prop)(ops:Array Oper)(K:ASt->Prop):Nat->Array Bool->ASt->Prop
 |0,listed,st=>Region.ready .any ops listed=[]∧K {st with n:=st.n+ops.size}
 |fuel+1,listed,st=>Region.ready .any ops listed≠[]∧forL (Zc C R ops (Wx C R ops K fuel) listed st.t st.h st.n) (Region.ready .any ops listed)
def abY(l:List Oper):Bool:=(l.any λo=>match o.op with| .store _ _ _=>true|_=>false)&&l.any λo=>(match o.op with| .load _ _=>true|_=>false)&&o.after.toList.any λe=>match e.ground with| .gcOnly _=>true|_=>false
def pZ:Op->Bool
 | .load _ _| .store _ _ _| .indexAddr _ _ _| .slice _ _ _ _ _| .convert _ _ _| .call _=>true
 |_=>false
def lZ:Op->Bool
 | .store _ _ _=>true
 | .call ⟨.builtin .append,_,_⟩| .call ⟨.builtin .copy,_,_⟩=>true
 |_=>false
def PW(acc:List Nat):List Edge->Nat->Nat
 |[],m=>m
 |e::es,m=>PW acc es (match Region.binds .any e with|true=>m ||| 2 ^ e.on ||| acc.getD e.on 0|false=>m)
def yV:List Oper->List Nat->List Nat
 |[],acc=>acc
 |o::rest,acc=>yV rest (acc++[PW acc o.after.toList 0])
def DJ:List Operand->List Nat
 |[]=>[]
 | .tmp i::l=>i::DJ l
 |_::l=>DJ l
def pA(l:List Oper)(o:Oper):List Nat:=o.dst.toList++DJ o.op.operands.toList++(match o.guard with|some (g,_)=>((l[g]?).bind (·.dst)).toList|none=>[])
def JN(ms:List Nat)(i j:Nat):Bool:=(ms.getD j 0).testBit i||(ms.getD i 0).testBit j
def JO(l :List Oper):Bool:=
  (List.range l.length).all λj=>match l[j]? with
    |none=>true
    | some oj=>
      (oj.after.toList.all λe=> !Region.binds .any e||Nat.blt e.on j)&&
      (List.range l.length).all λi=>match l[i]? with
        |none=>true
        | some oi=>i==j||
          ((match oi.dst with|none=>true|some d=> !(pA l oj).contains d||JN (yV l []) i j)&&
           (!(lZ oi.op&&pZ oj.op)||JN (yV l []) i j))
def FN(l:List Oper):Bool:=abY l|| !JO l
mutual
def jA:AV->List Nat
 | .ptr s _=>[s]
 | .ptr2 s _ _=>[s]
 | .osl s _ _ _=>[s]
 | .agg cs=>zO cs
 | .tup cs=>zO cs
 | .clo _ a b=>zO a++zO b
 | .opt _ x=>jA x
 |_=>[]
def zO:List AV->List Nat
 |[]=>[]
 |x::xs=>jA x++zO xs
end
def oV(t:Nat->AV)(o:Oper):List Nat:=(DJ o.op.operands.toList).flatMap λi=>jA (t i)
def meets(a b:List Nat):Bool:=a.any λx=>b.any λy=>Nat.beq x y
def HQ(l :List Oper)(tE:Nat->AV):Bool:=
  (List.range l.length).all λj=>match l[j]? with
    |none=>true
    | some oj=>
      ((oj.after.toList.all λe=> !Region.binds .any e||Nat.blt e.on j)&&
       (!pZ oj.op||(l.drop j).all λo=>match o.dst with|none=>true|some d=> !(DJ oj.op.operands.toList).contains d))&&
      (List.range l.length).all λi=>match l[i]? with
        |none=>true
        | some oi=>i==j||
          ((match oi.dst with|none=>true|some d=> !(pA l oj).contains d||JN (yV l []) i j)&&
           (!(lZ oi.op&&pZ oj.op&&meets (oV tE oi) (oV tE oj))||JN (yV l []) i j))
def eA(C:Ctx)(R:FuncId->List AV->AV->Prop):Code->ASt->(AEx->ASt->Prop)->Prop
 | .skip,st,Q=>Q .normal st
 | .label _,st,Q=>Q .normal st
 | .region _ ops dr,st,Q=>match dr&&FN ops.toList with
  |true=>Wx C.noH R ops (Q .normal) ops.size (Array.replicate ops.size false) st∨(C.lt=true∧jS C.noH R ops.toList ops.toList 0 st (λst'=>HQ ops.toList st'.t=true∧Q .normal st'))
  |false=>jS (C.noHif dr) R ops.toList ops.toList 0 st (Q .normal)
 | .seq a b,st,Q=>eA C R a st (λe st'=>match e with| .normal=>eA C R b st' Q|e=>Q e st')∨eA C R a st (λe st'=>match e with| .normal=>GhostN st' (λst''=>eA C R b st'' Q)|e=>Q e st')∨eA C R a st (λe st'=>match e with| .normal=>GhostN st' (λst''=>WeakN C.fr st'' (λstw=>eA C R b stw Q))|e=>Q e st')
 | .cond c x y,st,Q=>match evA C st.t c with| .v (.bool b)=>Branch b (eA C R x st Q) (eA C R y st Q)|_=>False
 | .block id b,st,Q=>eA C R b st (λe st'=>match e with| .exit i=>(match Nat.beq i id with|true=>Q .normal st'|false=>Q (.exit i) st')|e=>Q e st')
 | .loop b,st,Q=>LoopN C.fr (eA C R b) st Q
 | .exit id,st,Q=>Q (.exit id) st
 | .ret,st,Q=>Q .ret st
 |_,_,_=>False
def resA(C:Ctx)(st:ASt):List ResultVar->Option (List AV)
 |[]=>some []
 | .tmp t::rest=>match resA C st rest with|some r=>some (st.t t::r)|none=>none
 | .cell a t::rest=>
  match st.t a,resA C st rest with
  | .ptr b c,some r=>match st.h b with|some (.box cells)=>(match HI C t cells.length c cells with|some x=>some (x::r)|none=>none)|_=>none
  |_,_=>none
def Dp:List AV->AV
 |[x]=>x
 |xs=>.tup xs
def argsT:List AV->Nat->AV
 |[],_=>.any
 |x::_,0=>x
 |_::xs,n+1=>argsT xs n
section
variable {C:Ctx}{R:FuncId->List AV->AV->Prop}{all rest:List Oper}{o:Oper}{j n:Nat}{t:Nat->AV}{h h':AH}{K:ASt->Prop}{Q:AEx->ASt->Prop}{x:AV}{d:Nat}
def ad6{n'}(e:n+j=n')(k:K ⟨t,h,n'⟩):jS C R all [] j ⟨t,h,n⟩ K:=by subst e;exact k
def rOk(hg:o.guard=none)(hd:o.dst=some d)(hx:opA C (evA C t) h (n+j) o.op=.ok x)(k:jS C R all rest (j+1) ⟨upd t d x,h,n⟩ K):jS C R all (o::rest) j ⟨t,h,n⟩ K:=by
 simp only[jS,xG,hg,hx,node,hd,Aa];exact k
def bO{p}(hg:o.guard=none)(hd:o.dst=some d)(hx:opA C (evA C t) h (n+j) o.op=.need p x)(hp:p)(k:jS C R all rest (j+1) ⟨upd t d x,h,n⟩ K):jS C R all (o::rest) j ⟨t,h,n⟩ K:=by
 simp only[jS,xG,hg,hx,node,hd,Aa];exact .mk (λ_=>hp) k
def rFx{p}(hg:o.guard=none)(hd:o.dst=some d)(hx:opA C (evA C t) h (n+j) o.op=.fx p x h')(hp:p)(k:jS C R all rest (j+1) ⟨upd t d x,h',n⟩ K):jS C R all (o::rest) j ⟨t,h,n⟩ K:=by
 simp only[jS,xG,hg,hx,node,hd,Aa];exact .mk (λ_=>hp) k
def Ow{p}(hg:o.guard=none)(hd:o.dst=none)(hx:opA C (evA C t) h (n+j) o.op=.fx p x h')(hp:p)(k:jS C R all rest (j+1) ⟨t,h',n⟩ K):jS C R all (o::rest) j ⟨t,h,n⟩ K:=by
 simp only[jS,xG,hg,hx,node,hd,Aa];exact .mk (λ_=>hp) k
def fU{f}{args}(Post)(hg:o.guard=none)(hd:o.dst=some d)(hx:opA C (evA C t) h (n+j) o.op=.call f args)(hH:C.H f args h (n+j) Post)(k:∀x h',Post x h'->jS C R all rest (j+1) ⟨upd t d x,h',n⟩ K):jS C R all (o::rest) j ⟨t,h,n⟩ K:=by
 simp only[jS,xG,hg,hx,node,hd,Aa];exact .inr (.mk Post hH k)
def abZ{f}{args}(hg:o.guard=none)(hd:o.dst=some d)(hx:opA C (evA C t) h (n+j) o.op=.call f args)(hcl:eW (rO h args)=true)(hf:oU args=true∨(CQ x=true∧jV h args))(hr:eP x=true)(hc:R f (rO h args) x)(k:jS C R all rest (j+1) ⟨upd t d x,h,n⟩ K):jS C R all (o::rest) j ⟨t,h,n⟩ K:=by
 simp only[jS,xG,hg,hx,node,hd,Aa];exact .inl (.mk x hcl hf hr (λ_=>hc) k)
def SV{p}{rows}(l)(hg:o.guard=none)(hd:o.dst=some d)(hx:opA C (evA C t) h (n+j) o.op=.str p rows)(hp:p)(hl:gU rows=some l)(k:jS C R all rest (j+1) ⟨upd t d (.v (.string ⟨l.toArray⟩)),h,n⟩ K):jS C R all (o::rest) j ⟨t,h,n⟩ K:=by
 simp only[jS,xG,hg,hx,node,hd,Aa];exact .mk l (λ_=>⟨hp,hl⟩) k
def FO{rows}{i}{f}(row)(hg:o.guard=none)(hd:o.dst=some d)(hx:opA C (evA C t) h (n+j) o.op=.idx rows i f)(hi:0<=i∧rows[i.toNat]?=some row)(hf:f row=some x)(k:jS C R all rest (j+1) ⟨upd t d x,h,n⟩ K):jS C R all (o::rest) j ⟨t,h,n⟩ K:=by
 simp only[jS,xG,hg,hx,node,hd,Aa];exact .mk row (λ_=>hi) (by rw[hf];exact k)
def nM{rows}{i}{f}(row)(hg:o.guard=none)(hd:o.dst=none)(hx:opA C (evA C t) h (n+j) o.op=.idxfx rows i f)(hi:0<=i∧rows[i.toNat]?=some row)(hf:f row=some h')(k:jS C R all rest (j+1) ⟨t,h',n⟩ K):jS C R all (o::rest) j ⟨t,h,n⟩ K:=by
 simp only[jS,xG,hg,hx,node,hd,Aa];exact .mk row (λ_=>hi) (by rw[hf];exact k)
def gOk{i e}{pol g}(hg:o.guard=some (i,pol))(he:(all[i]?).bind (·.dst)=some e)(hgv:Ad (t e) pol=some g)(hc:condsO t o.op=none)(hd:o.dst=some d)(hx:opA C (evA C t) h (n+j) o.op=.ok x)(k:jS C R all rest (j+1) ⟨upd t d (.opt g x),h,n⟩ K):jS C R all (o::rest) j ⟨t,h,n⟩ K:=by
 simp only[jS,xG,hg,he,hgv,hc,hx,DH,hd,Aa];exact .inl k
def adJ{i e}{pol g c}(hg:o.guard=some (i,pol))(he:(all[i]?).bind (·.dst)=some e)(hgv:Ad (t e) pol=some g)(hc:condsO t o.op=some c)(hs:g=true->c=true)(hd:o.dst=some d)(hx:opA C (evS C t o.op) h (n+j) o.op=.ok x)(k:jS C R all rest (j+1) ⟨upd t d (.opt g x),h,n⟩ K):jS C R all (o::rest) j ⟨t,h,n⟩ K:=by
 simp only[jS,xG,hg,he,hgv,hc,hx,DH,hd,Aa];exact .mk hs k
def pB{p}{i e}{pol g c}(hg:o.guard=some (i,pol))(he:(all[i]?).bind (·.dst)=some e)(hgv:Ad (t e) pol=some g)(hc:condsO t o.op=some c)(hs:g=true->c=true)(hd:o.dst=some d)(hx:opA C (evS C t o.op) h (n+j) o.op=.need p x)(hp:g=true->p)(k:jS C R all rest (j+1) ⟨upd t d (.opt g x),h,n⟩ K):jS C R all (o::rest) j ⟨t,h,n⟩ K:=by
 simp only[jS,xG,hg,he,hgv,hc,hx,DH,hd,Aa];exact .mk hs (.mk hp k)
def jQ{f}{args}{i e}{pol g c}(hg:o.guard=some (i,pol))(he:(all[i]?).bind (·.dst)=some e)(hgv:Ad (t e) pol=some g)(hc:condsO t o.op=some c)(hs:g=true->c=true)(hd:o.dst=some d)(hx:opA C (evS C t o.op) h (n+j) o.op=.call f args)(hcl:eW (rO h args)=true)(hf:oU args=true∨(CQ x=true∧jV h args))(hr:eP x=true)(hp:g=true->R f (rO h args) x)(k:jS C R all rest (j+1) ⟨upd t d (.opt g x),h,n⟩ K):jS C R all (o::rest) j ⟨t,h,n⟩ K:=by
 simp only[jS,xG,hg,he,hgv,hc,hx,DH,hd,Aa];exact .mk hs (.mk x hcl hf hr hp k)
def DK{rows}{q}{f}(row){i e}{pol g c}(hg:o.guard=some (i,pol))(he:(all[i]?).bind (·.dst)=some e)(hgv:Ad (t e) pol=some g)(hc:condsO t o.op=some c)(hs:g=true->c=true)(hd:o.dst=some d)(hx:opA C (evS C t o.op) h (n+j) o.op=.idx rows q f)(hp:g=true->0<=q∧rows[q.toNat]?=some row)(hf:f row=some x)(k:jS C R all rest (j+1) ⟨upd t d (.opt g x),h,n⟩ K):jS C R all (o::rest) j ⟨t,h,n⟩ K:=by
 simp only[jS,xG,hg,he,hgv,hc,hx,DH,hd,Aa];exact .mk hs (.mk row hp (by rw[hf];exact k))
def uR{a b:Code}{st:ASt}(k:eA C R a st (λe st'=>match e with| .normal=>eA C R b st' Q|e=>Q e st')):eA C R (.seq a b) st Q:=.inl k
def FP{a b:Code}{st:ASt}(k:eA C R a st (λe st'=>match e with| .normal=>GhostN st' (λst''=>eA C R b st'' Q)|e=>Q e st')):eA C R (.seq a b) st Q:=.inr (.inl k)
def ab0{κ}(S:κ->ASt)(G:κ->Prop){a b}{st}(ka:eA C R a st (λe st'=>match e with| .normal=>GhostN st' (λst''=>∃k σ,Weak st'' (S k) σ∧keepB C.fr σ (S k).n=true∧G k)|e=>Q e st'))(kb:∀k,G k->eA C R b (S k) Q)
  (mono:∀(c:Code) (st:ASt) (Q Q':AEx->ASt->Prop),(∀e st,Q e st->Q' e st)->eA C R c st Q->eA C R c st Q'):eA C R (.seq a b) st Q:=by
 refine .inr (.inr (mono a st _ _ (λe st' q=>?_) ka))
 cases e with
 |normal=>obtain⟨st2,g,k,σ,h1,h2,h3⟩:=q;exact .mk st2 g (.mk (S k) σ h1 h2 (kb k h3))
 |exit i=>exact q
 |ret=>exact q
def mF{st:ASt}(k:Q .normal st):eA C R .skip st Q:=k
def Wz{id}{ops}{l}{dr}{st}(hl:ops.toList=l)(k:jS (C.noHif dr) R l l 0 st (Q .normal))(hd:(dr&&FN l)=false:=by kernel_rfl):eA C R (.region id ops dr) st Q:=by
 subst hl;simp only[eA,hd];exact k
def pO{id}{ops}{l}{dr}{st}(hl:ops.toList=l)(hlt:C.lt=true)(k:jS C.noH R l l 0 st (λst'=>HQ l st'.t=true∧Q .normal st'))(hd:(dr&&FN l)=true:=by kernel_rfl):eA C R (.region id ops dr) st Q:=by
 subst hl;simp only[eA,hd];exact .inr ⟨hlt,k⟩
section
variable {ops:Array Oper}{next:Array Bool->ASt->Prop}{listed:Array Bool}{i:Nat}
end
def aV{c}{a b}{v}(hv:evA C t c=.v (.bool v))(k1:v=true->eA C R a ⟨t,h,n⟩ Q)(k2:v=false->eA C R b ⟨t,h,n⟩ Q):eA C R (.cond c a b) ⟨t,h,n⟩ Q:=by
 simp only[eA,hv];exact .mk k1 k2
def kO{id:Nat}{b:Code}{st:ASt}(k:eA C R b st (λe st'=>match e with| .exit i=>(match Nat.beq i id with|true=>Q .normal st'|false=>Q (.exit i) st')|e=>Q e st')):eA C R (.block id b) st Q:=k
def Bh{id:Nat}{st:ASt}(k:Q (.exit id) st):eA C R (.exit id) st Q:=k
def FQ{st:ASt}(k:Q .ret st):eA C R .ret st Q:=k
end
inductive Rep(S:Nat->Prop)(w:World):Bt->AV->Value->Prop
 |v {β:Bt} (x:Value):Rep S w β (.v x) x
 |agg {β:Bt} (cs:List AV) (vs:Array Value) (hl:cs.length=vs.size) (h1:∀(i:Nat) u,vs[i]?=some u->u.oneCell'=true) (h:∀(i:Nat) a u,cs[i]?=some a->vs[i]?=some u->Rep S w β a u):Rep S w β (.agg cs) (.agg vs)
 |tup {β:Bt} (cs:List AV) (vs:Array Value) (hl:cs.length=vs.size) (h:∀(i:Nat) a u,cs[i]?=some a->vs[i]?=some u->Rep S w β a u):Rep S w β (.tup cs) (.tuple vs)
 | sl {β:Bt} (rs:Nat) (rows:List (List AV)) (clip:Bool) (A:Option Addr) (c b o:Nat) (u:Nat->Nat->Value) (hc:rows.length<=c) (hm:c<=maxLen) (hcl:clip=true->c=rows.length)
   (hrs:∀row∈rows,row.length=rs) (hA:0<rows.length->A=some ⟨b,o,none⟩∧S b)
   (hw:∀(i:Nat) row (j:Nat) a,rows[i]?=some row->row[j]?=some a->w.cell? ⟨b,o+i*rs+j,none⟩=some (u i j))
   (h1:∀i j,(u i j).oneCell'=true)
   (hr:∀(i:Nat) row (j:Nat) a,rows[i]?=some row->row[j]?=some a->Rep S w noB a (u i j)):Rep S w β (.sl rs rows clip) (.slice A rows.length c)
 | dp {β:Bt} (rs col:Nat) (row:List AV) (b o:Nat) (u:Nat->Value) (hrs:row.length=rs) (hb:S b) (hw:∀(j:Nat) a,row[j]?=some a->w.cell? ⟨b,o+j,none⟩=some (u j))
   (h1:∀j,(u j).oneCell'=true)
   (hr:∀(j:Nat) a,row[j]?=some a->Rep S w noB a (u j)):Rep S w β (.dp rs col row) (.pointer (some ⟨b,o+col,none⟩))
 |ptr {β:Bt} (s col:Nat) (l:Loc) (hl:β s=some l):Rep S w β (.ptr s col) (.pointer (some ⟨l.blk,l.base+col,none⟩))
 |ptr2 {β:Bt} (s row col:Nat) (l:Loc) (hl:β s=some l):Rep S w β (.ptr2 s row col) (.pointer (some ⟨l.blk,l.base+row*l.rs+col,none⟩))
 | osl {β:Bt} (s lo len:Nat) (clip:Bool) (l:Loc) (A:Option Addr) (c:Nat) (hl:β s=some l) (hc:len<=c) (hm:c<=maxLen) (hcl:clip=true->c=len) (hA:0<c->A=some ⟨l.blk,l.base+lo*l.rs,none⟩)
   (cs:Array Value) (e:TypeId) (fr:Nat×Nat) (hb:w.heap[l.blk]?=some (.cells cs e fr)) (room:l.base+(lo+c)*l.rs<=cs.size):Rep S w β (.osl s lo len clip) (.slice A len c)
 | clo {β:Bt} (f:FuncId) (first caps:List AV) (vs us:Array Value) (hl:first.length=vs.size) (h:∀(i:Nat) a u,first[i]?=some a->vs[i]?=some u->Rep S w β a u)
   (hl':caps.length=us.size) (h':∀(i:Nat) a u,caps[i]?=some a->us[i]?=some u->Rep S w β a u):Rep S w β (.clo f first caps) (.func (.func f) vs us)
 |optT {β:Bt} (g:Bool) (a:AV) (x:Value) (hg:g=true) (h:Rep S w β a x):Rep S w β (.opt g a) x
 |optF {β:Bt} (g:Bool) (a:AV) (hg:g=false):Rep S w β (.opt g a) undef
 |any {β:Bt} (x:Value):Rep S w β .any x
def fJ{w:World}{b}{o}(h:w.heap[b]?=some o):b<w.heap.size:=by
 rcases al_Nat_lt_or_ge b w.heap.size with k|k
 ·exact k
 rw[iE k]at h;cases h
structure Evo(S:Nat->Prop)(w w':World):Prop where
 stable:∀b,S b->w'.heap[b]?=w.heap[b]?
 shape:∀(b:Nat) (cs:Array Value) (e:TypeId) (fr:Nat×Nat),w.heap[b]?=some (Obj.cells cs e fr)->∃cs':Array Value,w'.heap[b]?=some (Obj.cells cs' e fr)∧cs'.size=cs.size
theorem Evo.refl(S)(w):Evo S w w:=⟨λ_ _=>rfl,λ_ cs _ _ h=>⟨cs,h,rfl⟩⟩
theorem Evo.trans{S S'}{a b c}(h:Evo S a b)(hS:∀x,S x->S' x)(k:Evo S' b c):Evo S a c:=
 ⟨λx hx=>(k.stable x (hS x hx)).trans (h.stable x hx),λx cs e fr hx=>by
  obtain⟨c1,h1,h2⟩:=h.shape x cs e fr hx;obtain⟨c2,h3,h4⟩:=k.shape x c1 e fr h1;exact⟨c2,h3,h4.trans h2⟩⟩
theorem Evo.of_kept{S}{w w'}(h:∀b,b<w.heap.size->w'.heap[b]?=w.heap[b]?)(hS:∀b,S b->b<w.heap.size):Evo S w w':=
 ⟨λb hb=>h b (hS b hb),λb cs _ _ hb=>⟨cs,(h b (fJ hb)).trans hb,rfl⟩⟩
def ME(β β':Bt):Prop:=∀s l,β s=some l->β' s=some l
theorem ME.refl(β):ME β β:=λ_ _ h=>h
theorem ME.trans{a b c}(h:ME a b)(k:ME b c):ME a c:=λs l x=>k s l (h s l x)
def uC{w w':World}{b o}(h:w'.heap[b]?=w.heap[b]?):w'.cell? ⟨b,o,none⟩=w.cell? ⟨b,o,none⟩:=by simp only[World.cell?,h]
theorem Rep.mono{S S'}{w w'}{β}{a}{x}(h:Rep S w β a x)(hS:∀b,S b->S' b)(hE:Evo S w w'):∀{β':Bt},ME β β'->Rep S' w' β' a x:=by
 induction h with
 |v x=>intro β' _;exact .v x
 |agg cs vs hl h1 h ih=>intro β' hb;exact .agg cs vs hl h1 λi a u h1 h2=>ih i a u h1 h2 hb
 |tup cs vs hl h ih=>intro β' hb;exact .tup cs vs hl λi a u h1 h2=>ih i a u h1 h2 hb
 |sl rs rows clip A c b o u hc hm hcl hrs hA hw h1 hr ih=>
  intro β' _;refine .sl rs rows clip A c b o u hc hm hcl hrs (λh0=>⟨(hA h0).1,hS _ (hA h0).2⟩) (λi row j a h1 h2=>?_) h1 λi row j a h1 h2=>ih i row j a h1 h2 (ME.refl _);have h0:=bL (aE i) (Em.1 h1).1;rw[uC (hE.stable b (hA h0).2)]
  exact hw i row j a h1 h2
 |dp rs col row b o u hrs hb hw h1 hr ih=>
  intro β' _
  exact .dp rs col row b o u hrs (hS _ hb) (λj a h1=>by rw[uC (hE.stable b hb)];exact hw j a h1) h1 λj a h1=>ih j a h1 (ME.refl _)
 |ptr s col l hl=>intro β' hb;exact .ptr s col l (hb _ _ hl)
 |ptr2 s row col l hl=>intro β' hb;exact .ptr2 s row col l (hb _ _ hl)
 |osl s lo len clip l A c hl hc hm hcl hA cs e fr hb room=>
  intro β' hβ;obtain⟨cs',h1,h2⟩:=hE.shape _ _ _ _ hb
  exact .osl s lo len clip l A c (hβ _ _ hl) hc hm hcl hA cs' e fr h1 (by rw[h2];exact room)
 |clo f first caps vs us hl h hl' h' ih ih'=>intro β' hb;exact .clo f first caps vs us hl (λi a u h1 h2=>ih i a u h1 h2 hb) hl' λi a u h1 h2=>ih' i a u h1 h2 hb
 |optT g a x hg h ih=>intro β' hb;exact .optT g a x hg (ih hb)
 |optF g a hg=>intro β' _;exact .optF g a hg
 |any x=>intro β' _;exact .any x
def RepL(S:Nat->Prop)(w:World)(β:Bt)(cs:List AV)(vs:List Value):Prop:=cs.length=vs.length∧∀(i:Nat) a u,cs[i]?=some a->vs[i]?=some u->Rep S w β a u
theorem RepL.nil(S)(w)(β):RepL S w β [] []:=⟨rfl,λi a u h=>by simp at h⟩
theorem RepL.cons{S}{w}{β}{a}{u}{cs}{vs}(h:Rep S w β a u)(k:RepL S w β cs vs):RepL S w β (a::cs) (u::vs):=
 ⟨by simp[k.1],λi a' u' h1 h2=>by
  cases i with
  |zero=>simp at h1 h2;subst h1 h2;exact h
  |succ i=>simp at h1 h2;exact k.2 i a' u' h1 h2⟩
def Bf(S:Nat->Prop)(w:World)(β:Bt)(l:Loc)(cs:Array Value):Blk->Prop
 | .box cells=>∀(j:Nat) a,cells[j]?=some a->∃u,cs[l.base+j]?=some u∧u.oneCell'=true∧Rep S w β a u
 | .arr rows rs=>l.rs=rs∧(∀row∈rows,row.length=rs)∧∀(i:Nat) row (j:Nat) a,rows[i]?=some row->row[j]?=some a->∃u,cs[l.base+i*rs+j]?=some u∧u.oneCell'=true∧Rep S w noB a u
 | .row cells=>l.rs=1∧∀(j:Nat) a,cells[j]?=some a->∃u,cs[l.base+j]?=some u∧u.oneCell'=true∧Rep S w β a u
structure SimH(B:Nat)(S:Nat->Prop)(w:World)(β:Bt)(h:AH):Prop where
 own:∀s blk,h s=some blk->∃l cs e fr,β s=some l∧w.heap[l.blk]?=some (.cells cs e fr)∧(∀o,o<cs.size->(decide (fr.1<=o)&&decide (o<fr.2))=false)∧B<=l.blk∧ ¬S l.blk∧Bf S w β l cs blk
 inj:∀s s' l l',h s≠none->h s'≠none->β s=some l->β s'=some l'->l.blk=l'.blk->s=s'
 lt:∀b,S b->b<w.heap.size
 big:B<=w.heap.size
theorem Bf.mono{S S'}{w w'}{β β'}{l}{cs}{blk}(h:Bf S w β l cs blk)(hS:∀b,S b->S' b)(hE:Evo S w w')(hb:ME β β'):Bf S' w' β' l cs blk:=by
 cases blk with
 |box cells=>exact λj a h1=>let ⟨u,h2,h4,h3⟩:=h j a h1;⟨u,h2,h4,h3.mono hS hE hb⟩
 |arr rows rs=>exact⟨h.1,h.2.1,λi row j a h1 h2=>let ⟨u,h3,h5,h4⟩:=h.2.2 i row j a h1 h2;⟨u,h3,h5,h4.mono hS hE (ME.refl _)⟩⟩
 |row cells=>exact⟨h.1,λj a h1=>let ⟨u,h2,h4,h3⟩:=h.2 j a h1;⟨u,h2,h4,h3.mono hS hE hb⟩⟩
def gP{w:World}{b}{cs}{e}{fr}(h:w.heap[b]?=some (.cells cs e fr))(o):w.cell? ⟨b,o,none⟩=cs[o]? :=by simp[World.cell?,h]
def vP{w:World}{b}{cs}{e}{fr}(h:w.heap[b]?=some (.cells cs e fr))(hf:∀o,o<cs.size->(decide (fr.1<=o)&&decide (o<fr.2))=false)(o)(ho:o<cs.size):w.frozen? ⟨b,o,none⟩=false:=by
 simp only[World.frozen?,h];exact hf o ho
structure StepK(B:Nat)(S:Nat->Prop)(w:World)(β:Bt)(s:Nat)(S':Nat->Prop)(w':World)(β':Bt):Prop where
 hS:∀b,S b->S' b
 hE:Evo S w w'
 hB:Below B w w'
 hle:ME β β'
 hdom:∀x l,β' x=some l->β x=some l∨(x=s∧(w.heap.size<=l.blk∨∃y k,β y=some k∧k.blk=l.blk))
 hN:∀b,S' b->S b∨(B<=b∧(w.heap.size<=b∨∃y k,β y=some k∧k.blk=b))
 hO:∀b,b<w.heap.size->(∀y k,β y=some k->k.blk≠b)->w'.heap[b]?=w.heap[b]?
structure Inv(fr:Nat) where
 p:(Nat->Prop)->World->Bt->Prop
 mono:∀{B:Nat} {S:Nat->Prop} {w:World} {β:Bt} {s:Nat} {S':Nat->Prop} {w':World} {β':Bt},p S w β->StepK B S w β s S' w' β'->p S' w' β'
 weak:∀{S:Nat->Prop} {w:World} {β:Bt} {σ:Nat->Nat} {n:Nat},p S w β->keepB fr σ n=true->p S w (λs=>if s<n then β (σ s)else none)
 frz:∀{S:Nat->Prop} {w:World} {β:Bt} {x:Nat} {l:Loc},p S w β->β x=some l->p (λb=>S b∨b=l.blk) w β
 heap:∀{S:Nat->Prop} {w w':World} {β:Bt},p S w β->w'.heap=w.heap->p S w' β
def Inv.any(fr:Nat):Inv fr:=⟨λ_ _ _=>True,λ_ _=>trivial,λ_ _=>trivial,λ_ _=>trivial,λ_ _=>trivial⟩
def adI(G:Nat->Option (List AV))(S:Nat->Prop)(w:World):Prop:=∀g cells,G g=some cells->Rep S w noB (.dp cells.length 0 cells) (.pointer (some ⟨g,0,none⟩))
def pM(P:Program)(G:Nat->Option (List AV))(f:FuncId)(args:List AV)(h:AH)(s:Nat)(Post:AV->AH->Prop):Prop:=
 (∃ fn,P.funcs[f]?=some fn∧fn.body.isSome=true∧(fn.name== "runtime.NumGoroutine")=false)∧
 ∀(B:Nat) (S:Nat->Prop) (w:World) (β:Bt) (vs:List Value),SimH B S w β h->(∀x l,β x=some l->x<s)->adI G S w->RepL S w β args vs->
  Calls P f vs.toArray w λe w'=>∃v S' β' r h',Post r h'∧e=.returned v∧Rep S' w' β' r v∧SimH B S' w' β' h'∧StepK B S w β s S' w' β'
structure CellL(S:Nat->Prop)(w:World)(β:Bt)(cs:List AV)(vs:List Value):Prop where
 rep:RepL S w β cs vs
 one:∀(i:Nat) u,vs[i]?=some u->u.oneCell'=true
theorem Ht:∀(l:List AV) (n:Nat),Lg l n=l[n]?
 |[],n=>by simp[Lg]
 |x::l,0=>by simp[Lg]
 |x::l,n+1=>by simp[Lg,Ht l n]
theorem Hu:∀(n:Nat) (l:List AV),HD n l=l.take n
 |0,l=>by simp[HD]
 |n+1,[]=>by simp[HD]
 |n+1,x::l=>by simp[HD,Hu n l]
theorem Hv:∀(n:Nat) (l:List AV),FK n l=l.drop n
 |0,l=>by simp[FK]
 |n+1,[]=>by simp[FK]
 |n+1,x::l=>by simp[FK,Hv n l]
theorem Hw:∀(l:List (Nat×TypeId)) (n:Nat),PU l n=l[n]?
 |[],n=>by simp[PU]
 |x::l,0=>by simp[PU]
 |x::l,n+1=>by simp[PU,Hw l n]
theorem vO:∀(n:Nat) (cs l:List AV),n+cs.length<=l.length->(zS n cs l).length=l.length
 |0,[],l,_=>by simp[zS]
 |0,c::cs,x::l,h=>by simp[zS,vO 0 cs l (by simp at h;omega)]
 |0,c::cs,[],h=>by simp at h
 |n+1,cs,x::l,h=>by simp[zS,vO n cs l (by simp at h;omega)]
 |n+1,cs,[],h=>by simp at h
theorem BQ:∀(n:Nat) (cs l:List AV) (j:Nat),n+cs.length<=l.length->(zS n cs l)[j]?=if n<=j∧j<n+cs.length then cs[j-n]? else l[j]?
 |0,[],l,j,_=>by simp[zS]
 |0,c::cs,x::l,0,h=>by simp[zS]
 |0,c::cs,x::l,j+1,h=>by
  simp[zS,BQ 0 cs l j (by simp at h;omega)]
 |0,c::cs,[],j,h=>by simp at h
 |n+1,cs,x::l,0,h=>by simp[zS]
 |n+1,cs,x::l,j+1,h=>by
  simp only[zS,dL,BQ n cs l j (by simp at h;omega)];have:j+1-(n+1)=j-n:=oT;rw[this];by_cases hc:n<=j∧j<n+cs.length
  ·rw[af1 hc,af1 oT]
  ·rw[dZ hc,dZ oT]
 |n+1,cs,[],j,h=>by simp at h
def eqV:CK->Value->Value->Option Bool
 | .i,.int k a,.int k' b=>match yU k k' with|true=>some (a==b)|false=>none
 | .b,.bool a,.bool b=>some (a==b)
 | .s,.string a,.string b=>some (a==b)
 |_,_,_=>none
def eqVL:List CK->List Value->List Value->Option Bool
 |[],[],[]=>some true
 |k::ks,x::xs,y::ys=>match eqV k x y,eqVL ks xs ys with|some a,some b=>some (a&&b)|_,_=>none
 |_,_,_=>none
def YU(P:Program)(t:TypeId)(ks:List CK):Prop:=∀(xs ys:Array Value) (b:Bool) (x y:Operand) (w:World),eqVL ks xs.toList ys.toList=some b->
 (do eqGuard .eql t x y (.agg xs) (.agg ys);binOp .eql t (.agg xs) (.agg ys):Sem Value).run P w=.ok (.bool b) w∧
 (do eqGuard .neq t x y (.agg xs) (.agg ys);binOp .neq t (.agg xs) (.agg ys):Sem Value).run P w=.ok (.bool (!b)) w
structure TyOk(P:Program)(t:TypeId)(i:TI):Prop where
 info:∃inf z,P.info? t=some inf∧inf.size=i.sz∧inf.bytes=i.bytes∧inf.zero=some z∧i.zero=Pq z∧z.cells.size=i.sz∧0<i.sz∧i.bytes<=1000
 one:∀inf z,P.info? t=some inf->inf.zero=some z->∀(k:Nat) u,z.cells[k]?=some u->u.oneCell'=true
 ag:∃d,P.underlying t=some d∧d.isRow=i.ag
 kd:match i.kd with
  | .bool=>P.underlying t=some .bool
  | .int k=>P.underlying t=some (.int k)
  | .string=>P.underlying t=some .string
  | .slice e=>P.underlying t=some (.slice e)
  | .array n e=>P.underlying t=some (.array n e)
  | .struct fs=>∃fields,P.underlying t=some (.struct fields)∧fields.toList.map (λf=>(f.offset,f.type))=fs∧∀f∈fields.toList,∃inf,P.info? f.type=some inf∧inf.size≠0
  |_=>True
 eq:i.eq≠[]->YU P t i.eq
structure CtxOk(C:Ctx):Prop where
 ty:∀t i,C.ty t=some i->TyOk C.P t i
 mixed:C.P.follows .mixedOrders=true
 hH:∀f args h s Post,C.H f args h s Post->pM C.P C.G f args h s Post
def Yld(P:Program)(S:Nat->Prop)(w:World)(β:Bt)(x:AV)(r:Sem Value):Prop:=∃v,r.run P w=.ok v w∧Rep S w β x v
def rN(P:Program)(S:Nat->Prop)(w:World)(β:Bt)(r:Sem Value):Res->Prop
 | .bad=>True
 | .ok x=>Yld P S w β x r
 | .need p x=>p->Yld P S w β x r
 | .idx rows i f=>∀row x,0<=i->rows[i.toNat]?=some row->f row=some x->Yld P S w β x r
 | .str p rows=>∀l,p->gU rows=some l->Yld P S w β (.v (.string ⟨l.toArray⟩)) r
 |_=>False
section
variable {C:Ctx}{S:Nat->Prop}{w:World}{β:Bt}
def PP:Rep S w β (.sl 0 [] true) (.slice none 0 0):=
 .sl 0 [] true none 0 0 0 (λ_ _=>.bool false) (aC _) (aE _) (λ_=>rfl) (by simp) (by simp) (by simp) (λ_ _=>rfl) (by simp)
def Tp(x):Rep S w β (Za x) x:=by
 unfold Za;split
 ·exact PP
 exact .v _
theorem BR:∀(l:List Value),YJ l=true->∀(i:Nat) u,l[i]?=some u->u.oneCell'=true
 |[],_,i,u,h=>by simp at h
 | v::l,h,i,u,hi=>by
  simp only[YJ]at h;split at h
  ·rename_i hv
   cases i with
   |zero=>simp at hi;subst hi;exact hv
   |succ i=>exact BR l h i u (sU hi)
  ·cases h
def Hx(x):Rep S w β (Pq x) x:=by
 unfold Pq;split
 ·exact PP
 ·split
  ·rename_i cs h;refine .agg _ _ (by simp) (λi u hu=>BR _ h i u (sU hu)) λi a u h1 h2=>?_;simp only[aX,bQ,h2,dF,af6]at h1;subst h1;exact Tp _
  exact .any _
 exact .v _
def vE{a}{v}{cs}(h:Rep S w β a v)(hc:kN a=some cs):CellL S w β cs v.cells.toList:=by
 have one:∀(a:AV) (v:Value),Rep S w β a v->v.cells= #[v]->v.oneCell'=true->CellL S w β [a] v.cells.toList:=λa v h e h1=>by
  rw[e];exact⟨RepL.cons h (RepL.nil _ _ _),λi u hu=>by
   cases i with
   |zero=>simp at hu;subst hu;exact h1
   |succ i=>simp at hu⟩
 cases h with
 | v=>
  cases v<;>simp only[kN]at hc<;>first
   |(cases hc;done)
   |(injection hc with hc;subst hc;exact one _ _ (.v _) rfl rfl)
 |agg ds vs hl h1 h=>
  simp only[kN]at hc;injection hc with hc;subst hc
  exact⟨⟨by simpa [Value.cells]using hl,λi a u h1 h2=>h i a u h1 (by simpa [Value.cells]using h2)⟩,λi u hu=>h1 i u (by simpa [Value.cells]using hu)⟩
 |tup ds vs hl h=>simp[kN]at hc
 |sl rs rows clip A c b o u hc' hm hcl hrs hA hw h1 hr=>
  simp only[kN]at hc;injection hc with hc;subst hc
  exact one _ _ (.sl rs rows clip A c b o u hc' hm hcl hrs hA hw h1 hr) rfl rfl
 |dp rs col row b o u hrs hb hw h1 hr=>
  simp only[kN]at hc;injection hc with hc;subst hc
  exact one _ _ (.dp rs col row b o u hrs hb hw h1 hr) rfl rfl
 |ptr s col l hl=>simp only[kN]at hc;injection hc with hc;subst hc;exact one _ _ (.ptr s col l hl) rfl rfl
 |ptr2 s row col l hl=>simp only[kN]at hc;injection hc with hc;subst hc;exact one _ _ (.ptr2 s row col l hl) rfl rfl
 |osl s lo len clip l A c hl hc' hm hcl hA ds e fr hb room=>
  simp only[kN]at hc;injection hc with hc;subst hc
  exact one _ _ (.osl s lo len clip l A c hl hc' hm hcl hA ds e fr hb room) rfl rfl
 |clo f first caps vs us hl h hl' h'=>
  simp only[kN]at hc;injection hc with hc;subst hc
  exact one _ _ (.clo f first caps vs us hl h hl' h') rfl rfl
 |optT g a x hg h=>simp[kN]at hc
 |optF g a hg=>simp[kN]at hc
 |any x=>simp[kN]at hc
def uV{b}{v}(h:Rep S w β (.v (.bool b)) v):v=.bool b:=by cases h;rfl
def lV{x v:Value}(h:Rep S w β (.v x) v):v=x:=by cases h;rfl
def Hy{g}{a}{v}(h:Rep S w β (.opt g a) v)(hg:g=true):Rep S w β a v:=by
 cases h with
 |optT _ _ _ _ h=>exact h
 |optF _ _ h=>rw[hg]at h;cases h
def Wr{P}{ac aa ab}{vc va vb}(hc:Rep S w β ac vc)(ha:Rep S w β aa va)(hb:Rep S w β ab vb):
  rN P S w β (do pure (if<-asBool vc then va else vb))
   (HL ac aa ab):=by
 unfold HL;split
 ·rename_i c x y;cases uV hc;cases uV ha;cases uV hb
  refine⟨_,rfl,?_⟩;cases c<;>exact .v _
 ·rename_i c g x y;cases uV hc;cases uV hb
  intro hg
  cases c with
  |true=>cases uV (Hy ha (hg rfl));exact⟨_,rfl,.v _⟩
  |false=>exact⟨_,rfl,.v _⟩
 ·rename_i c x g y;cases uV hc;cases uV ha
  intro hg
  cases c with
  |false=>cases uV (Hy hb (hg rfl));exact⟨_,rfl,.v _⟩
  |true=>exact⟨_,rfl,.v _⟩
 ·trivial
def Tq{P}(op)(t)(k)(a b)(h:EA op=false):rN P S w β (binOp op t (.int k a) (.int k b)) (HE op k a b):=by
 cases op<;>simp only[EA,Bool.true_eq_false]at h<;>simp only[HE,rN,binOp,ne_eq,not_true_eq_false,eE,Op.intArith,Op.intBits,Op.intCmp]<;>first
  |exact⟨_,rfl,.v _⟩
  |(intro hb;simp only[Op.intDiv,hb,eE];exact⟨_,rfl,.v _⟩)
  |trivial
def Ws{P}(op)(t)(k k')(a b)(h:EA op=true):rN P S w β (binOp op t (.int k a) (.int k' b)) (Ty op k a b):=by
 cases op<;>simp only[EA,cS]at h<;>simp only[Ty,rN,binOp]<;>(intro hb;simp only[Op.shift,dZ (Int.not_lt.2 hb)];exact⟨_,rfl,.v _⟩)
def Ey{a b}(h:yU a b=true):a=b:=by cases a<;>cases b<;>first|rfl|(simp[yU]at h)
def PQ{P}(op)(t)(a b)(ht:P.underlying t=some .bool):rN P S w β (binOp op t (.bool a) (.bool b)) (BT op a b):=by
 have he:(Op.equal t (.bool a) (.bool b)).run P w=.ok (a==b) w:=by
  unfold Op.equal;rw[show Op.maxDepth=9999+1 from rfl,Op.equalIn];simp only[Sem.run_bind,run_underlying ht,Result.andThen_ok,Sem.run_pure]
 cases op<;>simp only[BT,rN,binOp]<;>exact⟨_,by simp only[Sem.run_bind,he,Result.andThen_ok,Sem.run_pure],.v _⟩
def Ts{P}(op)(t)(a b):rN P S w β (binOp op t (.string a) (.string b)) (HG op a b):=by
 cases op<;>simp only[HG,rN,binOp,Op.stringOp]<;>first
  |exact⟨_,rfl,.v _⟩
  |(intro hb;rw[dZ (Int.not_lt.2 hb)];exact⟨_,rfl,.v _⟩)
def Wt{k}{a b}{u v}{r}(ha:Rep S w β a u)(hb:Rep S w β b v)(h:eqS k a b=some r):eqV k u v=some r:=by
 unfold eqS at h;split at h
 ·cases lV ha;cases lV hb;exact h
 ·cases lV ha;cases lV hb;exact h
 ·cases lV ha;cases lV hb;exact h
 cases h
theorem Hz:∀(ks:List CK) (xs ys:List AV) (us vs:List Value) (r:Bool),RepL S w β xs us->RepL S w β ys vs->eqL ks xs ys=some r->eqVL ks us vs=some r
 |[],[],[],us,vs,r,hx,hy,h=>by
  have h1:=afC (sU hx.1.symm);have h2:=afC (sU hy.1.symm);subst h1;subst h2
  exact h
 | k::ks,x::xs,y::ys,us,vs,r,hx,hy,h=>by
  match us,vs,hx,hy with
  |[],_,hx,_=>simp[RepL]at hx
  |_::_,[],_,hy=>simp[RepL]at hy
  | u::us,v::vs,hx,hy=>
   simp only[eqL]at h;split at h
   ·rename_i a b h1 h2;have e1:=Wt (hx.2 0 x u rfl rfl) (hy.2 0 y v rfl rfl) h1;have e2:=Hz ks xs ys us vs b ⟨sU hx.1,λi a' u' p q=>hx.2 (i+1) a' u' (sU p) (sU q)⟩ ⟨sU hy.1,λi a' u' p q=>hy.2 (i+1) a' u' (sU p) (sU q)⟩ h2;simp only[eqVL,e1,e2];exact h
   ·cases h
 |[],_::_,_,_,_,_,_,_,h=>by simp[eqL]at h
 |[],[],_::_,_,_,_,_,_,h=>by simp[eqL]at h
 |_::_,[],_,_,_,_,_,_,h=>by simp[eqL]at h
 |_::_,_::_,[],_,_,_,_,_,h=>by simp[eqL]at h
def YV(hC:CtxOk C)(op)(t)(x y){ax ay}{vx vy}(hx:Rep S w β ax vx)(hy:Rep S w β ay vy):
  rN C.P S w β (do eqGuard op t x y vx vy;binOp op t vx vy) (Tz C op t ax ay):=by
 have plain:∀(r:Res) (vx vy:Value),(eqGuard op t x y vx vy).run C.P w=.ok () w->rN C.P S w β (binOp op t vx vy) r->rN C.P S w β (do eqGuard op t x y vx vy;binOp op t vx vy) r:=by
  intro r vx vy hg hr;have key:∀z,Yld C.P S w β z (binOp op t vx vy)->Yld C.P S w β z (do eqGuard op t x y vx vy;binOp op t vx vy):=by
   rintro z ⟨v,h1,h2⟩;exact⟨v,by simp only[Sem.run_bind,hg,Result.andThen_ok,h1],h2⟩
  cases r<;>simp only[rN]at hr⊢
  ·exact key _ hr
  ·exact λhp=>key _ (hr hp)
  ·exact λrow z h0 h1 h2=>key _ (hr row z h0 h1 h2)
  ·exact λl hp h0=>key _ (hr l hp h0)
 unfold Tz;split
 ·rename_i k a k' b;cases lV hx;cases lV hy;have hg:(eqGuard op t x y (.int k a) (.int k' b)).run C.P w=.ok () w:=by unfold eqGuard;cases op<;>rfl
  split
  ·rename_i hs;exact plain _ _ _ hg (Ws op t k k' a b hs)
  ·rename_i hs;split
   ·rename_i hk;obtain rfl:=Ey hk;exact plain _ _ _ hg (Tq op t k a b hs)
   ·trivial
 ·rename_i a b;cases lV hx;cases lV hy;split
  ·rename_i hty;have hT:=(hC.ty t _ hty).kd;exact plain _ _ _ (by unfold eqGuard;cases op<;>rfl) (PQ op t a b hT)
  ·trivial
 ·rename_i a b;cases lV hx;cases lV hy;exact plain _ _ _ (by unfold eqGuard;cases op<;>rfl) (Ts op t a b)
 ·rename_i xs ys;split
  ·rename_i hty;have hT:=(hC.ty t _ hty).eq (by simp)
   cases hx with
   |agg _ us hl h1 h=>
   cases hy with
   |agg _ vs hl' h1' h'=>
   have rx:RepL S w β xs us.toList:=⟨sU hl,λi a u p q=>h i a u p (sU q)⟩;have ry:RepL S w β ys vs.toList:=⟨sU hl',λi a u p q=>h' i a u p (sU q)⟩;split
   ·rename_i b hb;exact⟨_,(hT us vs b x y w (Hz _ _ _ _ _ _ rx ry hb)).1,.v _⟩
   ·rename_i b hb;exact⟨_,(hT us vs b x y w (Hz _ _ _ _ _ _ rx ry hb)).2,.v _⟩
   ·trivial
  ·trivial
 ·trivial
theorem Bx(P:Program)(w:World)(n:Nat)(t:TypeId)(e:TypeId)(ht:P.underlying t=some (.slice e))(a:Option Addr)(l c:Nat):(Op.equalIn (n+1) t (.slice a l c) (.slice none 0 0)).run P w=.ok (a.isNone) w:=by
 have hu:(underlying t).run P w=.ok (.slice e) w:=by
  unfold underlying;rw[Sem.run_bind];show (match P.underlying t with|some d=>(pure d:Sem TypeDesc)|none=>stuck "no such type").run P w=_;rw[ht];rfl
 cases a<;>simp only[Op.equalIn,Sem.run_bind,hu,Result.andThen_ok]<;>rfl
def YW(hC:CtxOk C)(op:BinOp)(t:TypeId)(x y:Operand){neq:Bool}{ax:AV}{vx vy:Value}(hn:Ww op y=some neq)(hvy:∀v,y=.const v->vy=v)(hx:Rep S w β ax vx):
  rN C.P S w β (do eqGuard op t x y vx vy;binOp op t vx vy) (BU C neq t ax):=by
 have key:∀(e:TypeId) (A:Option Addr) (l c:Nat),C.P.underlying t=some (.slice e)->vx=.slice A l c->(do eqGuard op t x y vx vy;binOp op t vx vy:Sem Value).run C.P w=.ok (.bool (A.isNone != neq)) w:=by
  intro e A l c hT hv;subst hv;have e1:(Op.equal t (.slice A l c) (.slice none 0 0)).run C.P w=.ok A.isNone w:=Bx C.P w 9999 t e hT A l c;unfold Ww at hn;split at hn
  ·injection hn with hn;subst hn;obtain rfl:=hvy _ rfl;have hg:(eqGuard .eql t x (.const (.slice none 0 0)) (.slice A l c) (.slice none 0 0)).run C.P w=.ok () w:=by unfold eqGuard;rfl
   simp only[Sem.run_bind,hg,Result.andThen_ok,binOp,e1,Sem.run_pure];cases A<;>rfl
  ·injection hn with hn;subst hn;obtain rfl:=hvy _ rfl;have hg:(eqGuard .neq t x (.const (.slice none 0 0)) (.slice A l c) (.slice none 0 0)).run C.P w=.ok () w:=by unfold eqGuard;rfl
   simp only[Sem.run_bind,hg,Result.andThen_ok,binOp,e1,Sem.run_pure];cases A<;>rfl
  ·cases hn
 unfold BU;split
 ·rename_i hty;have hT:=(hC.ty t _ hty).kd;split
  ·cases lV hx;exact⟨_,key _ _ _ _ hT rfl,by cases neq<;>exact .v _⟩
  ·cases lV hx;exact⟨_,key _ _ _ _ hT rfl,by cases neq<;>exact .v _⟩
  ·cases hx with
   |sl rs rows clip A c b o u hc hm hcl hrs hA hw h1 hr=>
    obtain⟨rfl, -⟩:=hA (by simp);exact⟨_,key _ _ _ _ hT rfl,by cases neq<;>exact .v _⟩
  ·trivial
 ·trivial
def abX{P}(op){ax}{vx}(hx:Rep S w β ax vx):rN P S w β (Op.unary op vx) (unA op ax):=by
 unfold unA;split
 ·cases lV hx;exact⟨_,rfl,.v _⟩
 ·cases lV hx;exact⟨_,rfl,.v _⟩
 ·cases lV hx;exact⟨_,rfl,.v _⟩
 trivial
def Wu(hC:CtxOk C)(src dst){ax}{vx}(hx:Rep S w β ax vx):rN C.P S w β (convert src dst vx) (DF C src dst ax):=by
 unfold DF;split
 rotate_left 2
 ·trivial
 all_goals
  rename_i h1 h2;cases lV hx
  have e1:=(hC.ty _ _ h1).kd;have e2:=(hC.ty _ _ h2).kd;exact⟨_,by simp only[convert,Sem.run_bind,run_underlying e1,run_underlying e2,Result.andThen_ok];rfl,.v _⟩
def YX{P}(ts)(ty){x y}{vx vy}(hx:Rep S w β x vx)(hy:Rep S w β y vy):rN P S w β (Builtin.min_ ts ty #[vx,vy]) (TB x y):=by
 unfold TB;split
 ·cases lV hx;cases lV hy;split
  ·exact⟨_,rfl,.v _⟩
  trivial
 trivial
def YY{P}(ts)(ty){x y}{vx vy}(hx:Rep S w β x vx)(hy:Rep S w β y vy):rN P S w β (Builtin.max_ ts ty #[vx,vy]) (TC x y):=by
 unfold TC;split
 ·cases lV hx;cases lV hy;split
  ·exact⟨_,rfl,.v _⟩
  trivial
 trivial
theorem fW:∀(cs:List AV),eW cs=true->∀(i:Nat) a,cs[i]?=some a->eP a=true
 |[],_,i,a,h=>by simp at h
 | x::xs,hc,i,a,hi=>by
  simp only[eW]at hc;split at hc
  ·rename_i hx
   cases i with
   |zero=>simp at hi;subst hi;exact hx
   |succ i=>exact fW xs hc i a (sU hi)
  ·cases hc
def mB{a}{v}(hr:Rep S w β a v):eP a=true->∀β',Rep S w β' a v:=by
 induction hr with
 |v x=>intro _ β';exact .v x
 |agg cs vs hl h1 h ih=>intro hc β';exact .agg cs vs hl h1 λi a u p q=>ih i a u p q (fW cs (by simpa [eP]using hc) i a p) β'
 |tup cs vs hl h ih=>intro hc β';exact .tup cs vs hl λi a u p q=>ih i a u p q (fW cs (by simpa [eP]using hc) i a p) β'
 |sl rs rows clip A c b o u hc hm hcl hrs hA hw h1 hr ih=>intro _ β';exact .sl rs rows clip A c b o u hc hm hcl hrs hA hw h1 hr
 |dp rs col row b o u hrs hb hw h1 hr ih=>intro _ β';exact .dp rs col row b o u hrs hb hw h1 hr
 | clo f first caps vs us hl h hl' h' ih ih'=>
  intro hc β';simp only[eP]at hc;split at hc
  ·rename_i hf;exact .clo f first caps vs us hl (λi a u p q=>ih i a u p q (fW _ hf i a p) β') hl' λi a u p q=>ih' i a u p q (fW _ hc i a p) β'
  ·cases hc
 |ptr=>intro hc;simp[eP]at hc
 |ptr2=>intro hc;simp[eP]at hc
 |osl=>intro hc;simp[eP]at hc
 |optT=>intro hc;simp[eP]at hc
 |optF=>intro hc;simp[eP]at hc
 |any=>intro hc;simp[eP]at hc
end
end Go.Proofs.YtlpkggpdjobpmaaGreatDoor
namespace Go.Proofs.YtlpkggpdjobpmaaGreatDoor
open Go.RowKit
section
variable {C:Ctx}{S:Nat->Prop}{w:World}{β:Bt}{B:Nat}{h:AH}
theorem Do{b:Nat}:∀(seg:List AV) (o:Nat),(∀(j:Nat) a,seg[j]?=some a->∃u,w.cell? ⟨b,o+j,none⟩=some u∧u.oneCell'=true∧Rep S w β a u)->
  ∃vs:List Value,vs.length=seg.length∧w.rangeAt b o vs∧CellL S w β seg vs
 |[],o,_=>⟨[],rfl,λj v hv=>by simp at hv,⟨RepL.nil _ _ _,λi u hu=>by simp at hu⟩⟩
 | a::seg,o,H=>by
  obtain⟨u,h1,h2,h3⟩:=H 0 a rfl;obtain⟨vs,e1,e2,e3⟩:=Do seg (o+1) λj a' hj=>by
   obtain⟨u',k1,k2⟩:=H (j+1) a' (sU hj);exact⟨u',by rw[<-k1];congr 2;omega,k2⟩
  refine⟨u::vs,by simp[e1],λj v hv=>?_,⟨RepL.cons h3 e3.rep,λi u' hu=>?_⟩⟩
  ·cases j with
   |zero=>simp at hv;subst hv;exact h1
   |succ j=>rw[(oT:o+(j+1)=(o+1)+j)];exact e2 j v (sU hv)
  ·cases i with
   |zero=>simp at hu;subst hu;exact h2
   |succ i=>exact e3.one i u' (sU hu)
theorem CellL.agg{cs}{vs}(h:CellL S w β cs vs):Rep S w β (.agg cs) (.agg vs.toArray):=
 .agg cs _ (sU h.rep.1) (λi u hu=>h.one i u (sU hu)) λi a u h1 h2=>h.rep.2 i a u h1 (sU h2)
def Tt(S:Nat->Prop)(w:World)(β:Bt)(b o:Nat)(row:List AV):Prop:=∀(j:Nat) a,row[j]?=some a->∃u,w.cell? ⟨b,o+j,none⟩=some u∧u.oneCell'=true∧Rep S w β a u
def BS(hC:CtxOk C){t}{rs c b o}{row}{x}(hrow:Tt S w β b o row)(hrs:row.length=rs)(hx:HI C t rs c row=some x):
  Yld C.P S w β x (loadVar t ⟨b,o+c,none⟩):=by
 have agg:∀(sz:Nat) (seg:List AV) (kd:Kd) (z:AV) (by_:Nat) (eq:List CK),C.ty t=some ⟨kd,sz,true,z,by_,eq⟩->seg.length=sz->(∀(j:Nat) a,seg[j]?=some a->∃u,w.cell? ⟨b,o+c+j,none⟩=some u∧u.oneCell'=true∧Rep S w β a u)->
   Yld C.P S w β (.agg seg) (loadVar t ⟨b,o+c,none⟩):=by
  intro sz seg kd z by_ eq ht hl H;have T:=hC.ty t _ ht;obtain⟨vs,e1,e2,e3⟩:=Do seg _ H;obtain⟨d,hd,hr⟩:=T.ag;obtain⟨inf,z,hi,hsz,_⟩:=T.info;exact⟨_,run_loadVar_mid w b _ t vs d e2 hd hr (by rw[hi,e1,hl];simpa using hsz),e3.agg⟩
 unfold HI at hx;split at hx
 ·rename_i kd sz z by_ eq ht;split at hx
  ·rename_i hs;have hs':=aO hs;injection hx with hx;subst hx;exact agg sz row _ _ _ _ ht (by rw[hrs,hs']) (λj a hj=>by have:=hrow j a hj;simpa using this)
  split at hx
  ·rename_i hl;injection hx with hx;subst hx;refine agg sz _ _ _ _ _ ht (aO hl) λj a hj=>?_;rw[Hu,Hv,cU]at hj;split at hj
   ·rw[cL]at hj;obtain⟨u,k1,k2⟩:=hrow _ _ hj;exact⟨u,by rw[<-k1];congr 2;omega,k2⟩
   cases hj
  cases hx
 ·rename_i kd sz z by_ eq ht;have T:=hC.ty t _ ht;rw[Ht]at hx;obtain⟨u,k1,k2,k3⟩:=hrow _ _ hx;obtain⟨d,hd,hr⟩:=T.ag;have hagg:(isAgg t).run C.P w=.ok false w:=by
   unfold isAgg;rw[Sem.run_bind,run_underlying hd w];cases d<;>first|rfl|(simp[TypeDesc.isRow]at hr)
  refine⟨u,?_,k3⟩;simp only[loadVar,Sem.run_bind,hagg,Result.andThen_ok,cS,eE,run_load,k1]
 cases hx
def PR(H:SimH B S w β h){s}{cells}(hs:h s=some (.box cells)):∃l cs e fr,β s=some l∧w.heap[l.blk]?=some (.cells cs e fr)∧Tt S w β l.blk l.base cells:=by
 obtain⟨l,cs,e,fr,h1,h2,_,_,_,h3⟩:=H.own s _ hs;exact⟨l,cs,e,fr,h1,h2,λj a hj=>let ⟨u,k1,k2⟩:=h3 j a hj;⟨u,by rw[gP h2];exact k1,k2⟩⟩
def PS(H:SimH B S w β h){s:Nat}{cells:List AV}(hs:h s=some (.row cells)):∃l cs e fr,β s=some l∧w.heap[l.blk]?=some (.cells cs e fr)∧l.rs=1∧Tt S w β l.blk l.base cells:=by
 obtain⟨l,cs,e,fr,h1,h2,_,_,_,h3⟩:=H.own s _ hs;exact⟨l,cs,e,fr,h1,h2,h3.1,λj a hj=>let ⟨u,k1,k2⟩:=h3.2 j a hj;⟨u,by rw[gP h2];exact k1,k2⟩⟩
def Ly(H:SimH B S w β h){s:Nat}{rows:List (List AV)}{rs:Nat}(hs:h s=some (.arr rows rs)):∃l cs e fr,β s=some l∧w.heap[l.blk]?=some (.cells cs e fr)∧l.rs=rs∧(∀row∈rows,row.length=rs)∧∀(i:Nat) row,rows[i]?=some row->Tt S w noB l.blk (l.base+i*rs) row:=by
 obtain⟨l,cs,e,fr,h1,h2,_,_,_,h3⟩:=H.own s _ hs;exact⟨l,cs,e,fr,h1,h2,h3.1,h3.2.1,λi row hi j a hj=>let ⟨u,k1,k2⟩:=h3.2.2 i row j a hi hj;⟨u,by rw[gP h2];exact k1,k2⟩⟩
def GB{P}{x}{r}(h:∀y,x=some y->Yld P S w β y r):rN P S w β r (okO x):=by
 cases x with
 |none=>trivial
 |some y=>exact h y rfl
def AJ{P:Program}{t:TypeId}{a:Addr}{x:AV}(h:Yld P S w β x (loadVar t a)):Yld P S w β x (Instr.loadAt t (.pointer (some a))):=h
def Wv(hC:CtxOk C)(H:SimH B S w β h)(t){a}{v}(ha:Rep S w β a v):
  rN C.P S w β (Instr.loadAt t v)
   (tG C h t a):=by
 unfold tG;split
 ·rename_i b c;split
  ·rename_i cells hb;obtain⟨l,cs,e,fr,h1,h2,h3⟩:=PR H hb
   cases ha with
   |ptr _ _ l' hl=>
   obtain rfl:l'=l:=by rw[hl]at h1;exact af5 h1
   exact GB λy hy=>AJ (BS hC h3 rfl hy)
  ·trivial
 ·rename_i b r c;split
  ·rename_i rows rs hb;obtain⟨l,cs,e,fr,h1,h2,h3,h4,h5⟩:=Ly H hb
   cases ha with
   |ptr2 _ _ _ l' hl=>
   obtain rfl:l'=l:=by rw[hl]at h1;exact af5 h1
   subst h3;intro row x h0 hrow hx;exact AJ (BS hC (λj a hj=>let ⟨u,q1,q2,q3⟩:=h5 r row (sU hrow) j a hj;⟨u,q1,q2,q3.mono (λ_ h=>h) (Evo.refl _ _) (λs l x=>by cases x)⟩) (h4 row (aB hrow)) hx)
  ·rename_i cells hb;obtain⟨l,cs,e,fr,h1,h2,h3,h4⟩:=PS H hb
   cases ha with
   |ptr2 _ _ _ l' hl=>
   obtain rfl:l'=l:=by rw[hl]at h1;exact af5 h1
   intro row x h0 hrow hx;have hrow:(cells.map λx=>[x])[r]?=some row:=sU hrow;rw[aX]at hrow;obtain⟨y,hy,rfl⟩:=Gi.1 hrow;refine AJ (BS hC (row:=[y]) (λj a hj=>?_) rfl hx)
   cases j with
   |zero=>
    simp only[cP,af6]at hj;subst hj;rw[h3,iD]
    exact h4 r y hy
   |succ j=>simp at hj
  ·trivial
 ·rename_i rs c row
  cases ha with
  |dp _ _ _ b o u hrs hb hw h1 hr=>
  refine GB λy hy=>AJ (BS hC (λj a hj=>⟨u j,hw j a hj,h1 j,(hr j a hj).mono (λ_ x=>x) (Evo.refl _ _) (λs l x=>by cases x)⟩) hrs hy)
 ·trivial
def PT(hC:CtxOk C){t}{cs}{vs}{off}{x}(hl:cs.length=vs.size)(h1:∀(i:Nat) u,vs[i]?=some u->u.oneCell'=true)(hr:∀(i:Nat) a u,cs[i]?=some a->vs[i]?=some u->Rep S w β a u)
  (hx:Ot C t cs off=some x):Yld C.P S w β x (part t vs off):=by
 unfold Ot at hx;split at hx
 ·rename_i kd sz z by_ eq ht;have T:=hC.ty t _ ht;obtain⟨d,hd,hrow⟩:=T.ag;obtain⟨inf,z,hi,hsz,_⟩:=T.info;have hagg:(isAgg t).run C.P w=.ok true w:=by
   unfold isAgg;rw[Sem.run_bind,run_underlying hd w];cases d<;>first|rfl|(simp[TypeDesc.isRow]at hrow)
  injection hx with hx;subst hx;refine⟨.agg (vs.extract off (off+sz)),by simp only[part,Sem.run_bind,hagg,Result.andThen_ok,fD,sizeOf,typeInfo,program,Sem.run,hi,Sem.run_pure,hsz],?_⟩;rw[Hu,Hv];refine .agg _ _ (by simp[hl];omega) (λi u hu=>?_) λi a u p q=>?_
  ·rw[mQ]at hu;split at hu
   ·exact h1 _ _ hu
   cases hu
  rw[mQ]at q;rw[cU]at p;split at p
  ·rw[cL]at p;split at q
   ·exact hr _ _ _ p q
   cases q
  cases p
 ·rename_i kd sz z by_ eq ht;have T:=hC.ty t _ ht;obtain⟨d,hd,hrow⟩:=T.ag;have hagg:(isAgg t).run C.P w=.ok false w:=by
   unfold isAgg;rw[Sem.run_bind,run_underlying hd w];cases d<;>first|rfl|(simp[TypeDesc.isRow]at hrow)
  rw[Ht]at hx;have hlt:off<vs.size:=by rw[<-hl];exact(Em.1 hx).1
  refine⟨vs[off],by simp only[part,Sem.run_bind,hagg,Result.andThen_ok,cS,eE,aT hlt,Sem.run_pure],hr off x _ hx (aT hlt)⟩
 cases hx
def Tu(hC:CtxOk C)(t)(f){a}{v}(ha:Rep S w β a v):
  rN C.P S w β (Instr.field t v f)
   (Ab C t f a):=by
 unfold Ab;split
 ·rename_i fs sz ag z by_ eq ht;obtain⟨fields,hu,hfs,_⟩:=(hC.ty t _ ht).kd;split
  ·rename_i off ft cs hf
   cases ha with
   |agg _ vs hl h1 hr=>
   rw[Hw, <-hfs,aX]at hf;obtain⟨fd,hfd,hfe⟩:=Gi.1 hf;injection hfe with e1 e2;subst e1;subst e2;refine GB λy hy=>?_;obtain⟨v,p1,p2⟩:=PT hC hl h1 hr hy;refine⟨v,?_,p2⟩;simp only[Instr.field,Sem.run_bind,run_underlying hu,Result.andThen_ok];rw[(sU hfd:fields[f]?=some fd)];simpa [asAgg]using p1
  ·trivial
 ·trivial
def FJ{P}{f}{inf}(hi:P.info? f.type=some inf)(hs:inf.size≠0)(a):(fieldPlace a f).run P w=.ok (a.add f.offset) w:=by
 simp only[fieldPlace,Sem.run_bind,sizeOf,typeInfo,program,Sem.run,hi,Sem.run_pure,Result.andThen_ok,dZ hs]
def JI(hC:CtxOk C)(t)(f){a}{v}(ha:Rep S w β a v):
  rN C.P S w β (Instr.fieldAt t v f)
   (oJ C t f a):=by
 unfold oJ;split
 ·rename_i fs sz ag z by_ eq ht;obtain⟨fields,hu,hfs,hnz⟩:=(hC.ty t _ ht).kd;have key:∀(off:Nat) (ft:TypeId) (a:Addr),PU fs f=some (off,ft)->(Instr.fieldAt t (.pointer (some a)) f).run C.P w=.ok (.pointer (some (a.add off))) w:=by
   intro off ft a hf;rw[Hw, <-hfs,aX]at hf;obtain⟨fd,hfd,hfe⟩:=Gi.1 hf;injection hfe with e1 e2;subst e1;subst e2;obtain⟨inf,hi,hs⟩:=hnz fd (aB hfd);simp only[Instr.fieldAt,Sem.run_bind,run_underlying hu,Result.andThen_ok];rw[(sU hfd:fields[f]?=some fd)];simp only[Instr.sureAddr,Sem.run_pure,Sem.run_bind,Result.andThen_ok,FJ hi hs]
  split
  ·rename_i off ft b c hf
   cases ha with
   |ptr _ _ l hl=>exact⟨_,key off ft _ hf,by rw[Addr.add_mid,dW];exact .ptr b _ l hl⟩
  ·rename_i off ft b r c hf
   cases ha with
   |ptr2 _ _ _ l hl=>exact⟨_,key off ft _ hf,by rw[Addr.add_mid,dW];exact .ptr2 b r _ l hl⟩
  ·rename_i off ft rs c row hf
   cases ha with
   |dp _ _ _ b o u hrs hb hw h1 hr=>exact⟨_,key off ft _ hf,by rw[Addr.add_mid,dW];exact .dp rs _ row b o u hrs hb hw h1 hr⟩
  ·trivial
 ·trivial
end
end Go.Proofs.YtlpkggpdjobpmaaGreatDoor
namespace Go.Proofs.YtlpkggpdjobpmaaGreatDoor
open Go.RowKit
section
variable {C:Ctx}{S:Nat->Prop}{w:World}{β:Bt}{B:Nat}{h:AH}
def YZ(hC:CtxOk C)(t ty){a}{v}(ha:Rep S w β a v):rN C.P S w β (Builtin.len_ #[t] ty #[v]) (TA C t a):=by
 unfold TA;split
 ·rename_i ht;cases lV ha
  have hu:=(hC.ty t _ ht).kd;exact⟨_,by simp[Builtin.len_,run_underlying hu,goInt],.v _⟩
 ·rename_i ht;have hu:=(hC.ty t _ ht).kd
  cases ha with
  |sl=>exact⟨_,by simp[Builtin.len_,run_underlying hu,goInt],.v _⟩
 ·rename_i ht;have hu:=(hC.ty t _ ht).kd
  cases ha with
  |osl=>exact⟨_,by simp[Builtin.len_,run_underlying hu,goInt],.v _⟩
 ·rename_i ht;have hu:=(hC.ty t _ ht).kd;exact⟨_,by simp[Builtin.len_,run_underlying hu,goInt],.v _⟩
 ·trivial
def AK(hC:CtxOk C){e:TypeId}{ei:TI}(he:C.ty e=some ei)(w:World):(sizeOf e).run C.P w=.ok ei.sz w:=by
 obtain⟨inf,z,hi,hsz,_⟩:=(hC.ty e _ he).info;simp only[sizeOf,typeInfo,program,Sem.run_bind,Sem.run,hi,Sem.run_pure,Result.andThen_ok,hsz]
def JJ(hC:CtxOk C)(H:SimH B S w β h)(t:TypeId){a i:AV}{v u:Value}(ha:Rep S w β a v)(hi:Rep S w β i u):
  rN C.P S w β (Instr.indexAt t v u)
   (iW C h t a i):=by
 unfold iW pN;split
 ·rename_i e sz ag z by_ eq k n ht;cases lV hi;have hu:=(hC.ty t _ ht).kd;have key:∀(ei:TI) (A:Addr) (len c:Nat),C.ty e=some ei->0<=n->n<(len:Int)->(Instr.indexAt t (.slice (some A) len c) (.int k n)).run C.P w=.ok (.pointer (some (A.add (n.toNat*ei.sz)))) w:=by
   intro ei A len c he h0 h1;simp[Instr.indexAt,asIntOf,run_underlying hu,h0,h1,AK hC he]
  split
  ·rename_i ei rs rows clip he;split
   ·rename_i hrs';have hrs':=aO hrs';intro row x h0 hrow hx;injection hx with hx;subst hx
    cases ha with
    |sl _ _ _ A c b o u hc hm hcl hrs hA hw h1 hr=>
    have hlt:n.toNat<rows.length:=(Em.1 hrow).1;obtain⟨hA1,hA2⟩:=hA oT;subst hA1;refine⟨_,key ei _ _ _ he h0 oT,?_⟩;rw[Addr.add_mid, <-hrs'];exact .dp rs 0 row b (o+n.toNat*rs) (λj=>u n.toNat j) (hrs row (aB hrow)) hA2 (λj a hj=>hw _ _ _ _ hrow hj) (λj=>h1 _ _) λj a hj=>hr _ _ _ _ hrow hj
   ·trivial
  ·rename_i ei b lo len clip he;split
   ·rename_i rows rs hb;split
    ·rename_i hrs';have hrs':=aO hrs';rintro⟨h0,h1⟩;obtain⟨l,cs,e',fr,k1,k2,k3,k4,k5⟩:=Ly H (s:=b) hb
     cases ha with
     |osl _ _ _ _ l' A c hl hc hm hcl hA ds e'' fr' hb' room=>
     obtain rfl:l'=l:=by rw[hl]at k1;exact af5 k1
     have hA1:=hA oT;subst hA1;refine⟨_,key ei _ _ _ he h0 h1,?_⟩;rw[Addr.add_mid, <-hrs', <-k3,dW, <-cG];exact .ptr2 b (lo+n.toNat) 0 l' hl
    ·trivial
   ·rename_i cells hb;split
    ·rename_i hrs';have hrs':=aO hrs';rintro⟨h0,h1⟩;obtain⟨l,cs,e',fr,k1,k2,k3,k4⟩:=PS H (s:=b) hb
     cases ha with
     |osl _ _ _ _ l' A c hl hc hm hcl hA ds e'' fr' hb' room=>
     obtain rfl:l'=l:=by rw[hl]at k1;exact af5 k1
     have hA1:=hA oT;subst hA1;refine⟨_,key ei _ _ _ he h0 h1,?_⟩;rw[Addr.add_mid, <-hrs', <-k3,dW, <-cG];exact .ptr2 b (lo+n.toNat) 0 l' hl
    ·trivial
   ·trivial
  ·trivial
 ·rename_i len e sz ag z by_ eq k n ht;cases lV hi;have hu:=(hC.ty t _ ht).kd;have key:∀(ei:TI) (A:Addr),C.ty e=some ei->0<=n->n<(len:Int)->(Instr.indexAt t (.pointer (some A)) (.int k n)).run C.P w=.ok (.pointer (some (A.add (n.toNat*ei.sz)))) w:=by
   intro ei A he h0 h1;simp[Instr.indexAt,asIntOf,run_underlying hu,h0,h1,AK hC he,Instr.sureAddr]
  split
  ·rename_i ei b c he;rintro⟨h0,h1⟩
   cases ha with
   |ptr _ _ l hl=>exact⟨_,key ei _ he h0 h1,by rw[Addr.add_mid,dW];exact .ptr b _ l hl⟩
  ·rename_i ei b r c he;rintro⟨h0,h1⟩
   cases ha with
   |ptr2 _ _ _ l hl=>exact⟨_,key ei _ he h0 h1,by rw[Addr.add_mid,dW];exact .ptr2 b r _ l hl⟩
  ·rename_i ei rs c row he;rintro⟨h0,h1⟩
   cases ha with
   |dp _ _ _ b o u hrs hb hw h1' hr=>exact⟨_,key ei _ he h0 h1,by rw[Addr.add_mid,dW];exact .dp rs _ row b o u hrs hb hw h1' hr⟩
  ·trivial
 ·trivial
def Tv(hC:CtxOk C)(t){a i}{v u}(ha:Rep S w β a v)(hi:Rep S w β i u):
  rN C.P S w β (Instr.index t v u)
   (BW C t a i):=by
 unfold BW;split
 ·rename_i sz ag z by_ eq s k n ht;cases lV ha;cases lV hi;have hu:=(hC.ty t _ ht).kd;rintro⟨h0,h1⟩;have hlt:n.toNat<s.size:=oT;refine⟨_,?_,.v _⟩;have e1:s[n.toNat]?=some (s.data.toList.getD n.toNat 0):=by
   have hl:=sU hlt;rw[getElem?_pos s n.toNat hlt];congr 1;rw[aR,aA hl,gI];rfl
  simp only[Instr.index,asIntOf,Sem.run_bind,Sem.run_pure,Result.andThen_ok,run_underlying hu,af1 h0,e1]
 ·rename_i len e sz ag z by_ eq cs k n ht;cases lV hi;have hu:=(hC.ty t _ ht).kd;split
  ·rename_i ei he;split
   ·rename_i x hx;rintro⟨h0,h1⟩
    cases ha with
    |agg _ vs hl h1' hr=>
    obtain⟨r,p1,p2⟩:=PT hC hl h1' hr hx;exact⟨r,by simp only[Instr.index,asIntOf,Sem.run_bind,Sem.run_pure,Result.andThen_ok,run_underlying hu,af1 (And.intro h0 h1),AK hC he,p1],p2⟩
   ·trivial
  ·trivial
 ·trivial
def Oq{P}(i){a}{v}(ha:Rep S w β a v):
  rN P S w β (Instr.extract v i) (rY i a):=by
 unfold rY;split
 ·rename_i vs
  cases ha with
  |tup _ us hl hr=>
  refine GB λy hy=>?_;rw[Ht]at hy;have hlt:i<us.size:=by rw[<-hl];exact(Em.1 hy).1
  exact⟨us[i],by simp only[Instr.extract,aT hlt,Sem.run_pure],hr i y _ hy (aT hlt)⟩
 ·trivial
def HA{x}{v}{r}(hx:∀a,x=some a->∃u,v=some u∧Rep S w β a u)(hn:x=none->v=none)(hr:Zb x=some r):
  (r=none∧v=none)∨∃k n,r=some n∧v=some (.int k n):=by
 unfold Zb at hr;split at hr
 ·injection hr with hr;exact .inl ⟨hr.symm,hn rfl⟩
 ·obtain⟨u,h1,h2⟩:=hx _ rfl;injection hr with hr;cases lV h2
  exact .inr ⟨_,_,hr.symm,h1⟩
 cases hr
def xU{P}(isS)(len cap:Nat)(lo hi mx)(l h:Int)(m)(hl:(lo=none∧l=0)∨∃k,lo=some (.int k l))
  (hh:(hi=none∧mx=none∧h=len)∨∃k,hi=some (.int k h)) (hm:(mx=none∧m=cap)∨∃k,mx=some (.int k (m:Int))) (h0:0<=l) (h1:l<=h) (h2:h<=m) (h3:m<=cap):
  (Instr.sliceBounds isS len cap lo hi mx).run P w=.ok (l.toNat,h.toNat,m) w:=by
 have bd:∀(k:IntKind) (i:Int) (y:Nat) (code:BoundsCode),0<=i->i<=y->(Instr.sliceBound (.int k i) y code).run P w=.ok i.toNat w:=λk i y code p q=>by
  simp only[Instr.sliceBound,asIntOf,Sem.run_bind,Sem.run_pure,Result.andThen_ok,af1 (And.intro p q)]
 rcases hm with ⟨rfl,rfl⟩|⟨km,rfl⟩
 ·rcases hh with ⟨rfl,_,rfl⟩|⟨kh,rfl⟩
  ·rcases hl with ⟨rfl,rfl⟩|⟨kl,rfl⟩
   ·simp[Instr.sliceBounds]
   simp[Instr.sliceBounds,bd kl l _ _ h0 h1]
  rcases hl with ⟨rfl,rfl⟩|⟨kl,rfl⟩
  ·simp[Instr.sliceBounds,bd kh h _ _ oT h2]
  simp[Instr.sliceBounds,bd kh h _ _ oT h2,bd kl l _ _ h0 (by omega:l<=(h.toNat:Int))]
 rcases hh with ⟨_,h',_⟩|⟨kh,rfl⟩
 ·cases h'
 rcases hl with ⟨rfl,rfl⟩|⟨kl,rfl⟩
 ·simp[Instr.sliceBounds,bd km (m:Int) cap _ oT oT,bd kh h m _ oT h2]
 simp[Instr.sliceBounds,bd km (m:Int) cap _ oT oT,bd kh h m _ oT h2,bd kl l _ _ h0 (by omega:l<=(h.toNat:Int))]
def Tw(hC:CtxOk C)(H:SimH B S w β h)(t:TypeId){a:AV}{v:Value}{lo hi mx:Option AV}{vlo vhi vmx:Option Value}(ha:Rep S w β a v)
  (hlo:∀a,lo=some a->∃u,vlo=some u∧Rep S w β a u) (hlo':lo=none->vlo=none) (hhi:∀a,hi=some a->∃u,vhi=some u∧Rep S w β a u) (hhi':hi=none->vhi=none)
  (hmx:∀a,mx=some a->∃u,vmx=some u∧Rep S w β a u) (hmx':mx=none->vmx=none):
  rN C.P S w β (Instr.sliceAt t v vlo vhi vmx) (uQ C h t a lo hi mx):=by
 unfold uQ BV;split
 ·rename_i len l0 h0 m0 hlen hl0 hh0 hm0;have L:=HA hlo hlo' hl0;have U:=HA hhi hhi' hh0;have M:=HA hmx hmx' hm0;clear hlo hlo' hhi hhi' hmx hmx' hl0 hh0 hm0;have hL:(vlo=none∧l0.getD 0=0)∨∃k,vlo=some (.int k (l0.getD 0)):=by
   rcases L with ⟨rfl,rfl⟩|⟨k,n,rfl,rfl⟩
   ·exact .inl ⟨rfl,rfl⟩
   ·exact .inr ⟨k,rfl⟩
  have hU:∀vm,vm=none->(vhi=none∧vm=(none:Option Value)∧h0.getD (len:Int)=len)∨∃k,vhi=some (.int k (h0.getD len)):=by
   intro vm hvm;rcases U with ⟨rfl,rfl⟩|⟨k,n,rfl,rfl⟩
   ·exact .inl ⟨rfl,hvm,rfl⟩
   ·exact .inr ⟨k,rfl⟩
  split
  ·rename_i ht;have hu:=(hC.ty t _ ht).kd;split
   ·rename_i s;cases lV ha;have hl:s.size=len:=by simpa [lenA]using hlen
    have hM:vmx=none:=by rcases M with ⟨_,h⟩|⟨_,_,h,_⟩<;>first|exact h|cases h
    subst hM;rintro⟨p0,p1,p2⟩;have hb:=xU (P:=C.P) (w:=w) false len len vlo vhi none _ _ len hL (hU none rfl) (.inl ⟨rfl,rfl⟩) p0 p1 p2 (aC _);refine⟨_,?_,.v _⟩;simp only[Instr.sliceAt,Sem.run_bind,run_underlying hu,Result.andThen_ok,Instr.slice,hl,Option.isSome_none,cS,eE,Sem.run_pure,hb]
   ·trivial
  ·rename_i e sz ag z by_ eq ht;have hu:=(hC.ty t _ ht).kd;split
   ·rename_i ei he;have run:∀(A:Option Addr) (n c m:Nat) (vhi vmx:Option Value) (l h:Int),(Instr.sliceBounds true n c vlo vhi vmx).run C.P w=.ok (l.toNat,h.toNat,m) w->
      (Instr.sliceAt t (.slice A n c) vlo vhi vmx).run C.P w=.ok (.slice (if m=l.toNat then A else A.map (·.add (l.toNat*ei.sz))) (h.toNat-l.toNat) (m-l.toNat)) w:=by
     intro A n c m vhi vmx l h hb;simp only[Instr.sliceAt,Sem.run_bind,run_underlying hu,Result.andThen_ok,Instr.slice,hb,AK hC he,Sem.run_pure]
    have known:∀(rs:Nat) (rows:List (List AV)) (clip clip':Bool) (v:Value) (l hh:Int) (m':Option Nat) (vhi vmx:Option Value),Rep S w β (.sl rs rows clip) v->rs=ei.sz->0<=l->l<=hh->hh<=(rows.length:Int)->
      ((vlo=none∧l=0)∨∃k,vlo=some (.int k l))->((vhi=none∧vmx=none∧hh=(rows.length:Int))∨∃k,vhi=some (.int k hh))->
      ((m'=none∧vmx=none)∨(∃k,m'=some hh.toNat∧vmx=some (.int k hh)))->(clip'=true->(m'=none->clip=true∧hh=(rows.length:Int)))->
      Yld C.P S w β (.sl rs ((rows.take hh.toNat).drop l.toNat) clip') (Instr.sliceAt t v vlo vhi vmx):=by
     intro rs rows clip clip' v l hh m' vhi vmx hr hrs p0 p1 p2 hl hhi hm hcl'
     cases hr with
     |sl _ _ _ A c b o u hc hmx hcl hrs' hA hw h1 hr'=>
     have hlen:((rows.take hh.toNat).drop l.toNat).length=hh.toNat-l.toNat:=by
      rw[bD,aM];omega
     have fin:∀m:Nat,hh<=(m:Int)->m<=c->(clip'=true->(m:Int)=hh)->(Instr.sliceBounds true rows.length c vlo vhi vmx).run C.P w=.ok (l.toNat,hh.toNat,m) w->
       Yld C.P S w β (.sl rs ((rows.take hh.toNat).drop l.toNat) clip') (Instr.sliceAt t (.slice A rows.length c) vlo vhi vmx):=by
      intro m q1 q2 q3 hb;refine⟨_,run A _ c m vhi vmx l hh hb,?_⟩;rw[<-hlen];refine .sl rs _ clip' _ (m-l.toNat) b (o+l.toNat*rs) (λi j=>u (i+l.toNat) j) (by rw[hlen];omega) oT (λq=>by have:=q3 q;rw[hlen];omega) (λrow hrow=>hrs' row (cQ (eT hrow)))
       (λhpos=>?_) (λi row j a hi hj=>?_) (λi j=>h1 _ _) λi row j a hi hj=>?_
      ·rw[hlen]at hpos;obtain⟨hA1,hA2⟩:=hA oT;refine⟨?_,hA2⟩;rw[dZ oT,hA1,dF,Addr.add_mid,hrs]
      ·rw[cL,cU]at hi;split at hi
       ·have:=hw _ _ _ _ hi hj;rw[<-gJ i]at this;rw[<-this];congr 2;rw[cG];omega
       ·cases hi
      ·rw[cL,cU]at hi;split at hi
       ·have:=hr' _ _ _ _ hi hj
        rwa [<-gJ i]at this
       ·cases hi
     rcases hm with ⟨rfl,rfl⟩|⟨k,rfl,rfl⟩
     ·refine fin c oT (aC _) (λq=>?_) (xU true _ c vlo vhi none l hh c hl hhi (.inl ⟨rfl,rfl⟩) p0 p1 oT (aC _));obtain⟨q1,q2⟩:=hcl' q rfl;rw[hcl q1];omega
     ·have eh:((hh.toNat:Nat):Int)=hh:=lU oT;refine fin hh.toNat oT oT (λ_=>eh) (xU true _ c vlo vhi _ l hh hh.toNat hl hhi (.inr ⟨k,by rw[eh]⟩) p0 p1 oT oT)
    have own:∀(s lo len rs:Nat) (rows:List (List AV)) (clip clip':Bool) (v:Value) (l hh:Int) (m':Option Nat) (vhi vmx:Option Value),Rep S w β (.osl s lo len clip) v->h s=some (.arr rows rs)->rs=ei.sz->0<=l->l<=hh->hh<=(len:Int)->
      ((vlo=none∧l=0)∨∃k,vlo=some (.int k l))->((vhi=none∧vmx=none∧hh=(len:Int))∨∃k,vhi=some (.int k hh))->
      ((m'=none∧vmx=none)∨(∃k,m'=some hh.toNat∧vmx=some (.int k hh)))->(clip'=true->(m'=none->clip=true∧hh=(len:Int)))->
      Yld C.P S w β (.osl s (lo+l.toNat) (hh-l).toNat clip') (Instr.sliceAt t v vlo vhi vmx):=by
     intro s lo len rs rows clip clip' v l hh m' vhi vmx hr hs hrs p0 p1 p2 hl hhi hm hcl';obtain⟨l',cs',e',fr',k1,k2,k3,k4,k5⟩:=Ly H hs
     cases hr with
     |osl _ _ _ _ l1 A c hl1 hc hmx hcl hA cs e1 fr hb room=>
     obtain rfl:l1=l':=by rw[hl1]at k1;exact af5 k1
     have fin:∀m:Nat,hh<=(m:Int)->m<=c->(clip'=true->(m:Int)=hh)->(Instr.sliceBounds true len c vlo vhi vmx).run C.P w=.ok (l.toNat,hh.toNat,m) w->
       Yld C.P S w β (.osl s (lo+l.toNat) (hh-l).toNat clip') (Instr.sliceAt t (.slice A len c) vlo vhi vmx):=by
      intro m q1 q2 q3 hb;refine⟨_,run A _ c m vhi vmx l hh hb,?_⟩;rw[(oT:hh.toNat-l.toNat=(hh-l).toNat)];refine .osl s _ _ clip' l1 _ (m-l.toNat) hl1 oT oT (λq=>by have:=q3 q;omega) (λhpos=>?_) cs e1 fr (by assumption) ?_
      ·rw[dZ oT,hA oT,dF,Addr.add_mid, <-hrs,k3,dW, <-cG]
      ·refine aL (oQ (eF _ ?_) _) room;omega
     rcases hm with ⟨rfl,rfl⟩|⟨k,rfl,rfl⟩
     ·refine fin c oT (aC _) (λq=>?_) (xU true _ c vlo vhi none l hh c hl hhi (.inl ⟨rfl,rfl⟩) p0 p1 oT (aC _));obtain⟨q1,q2⟩:=hcl' q rfl;rw[hcl q1];omega
     ·have eh:((hh.toNat:Nat):Int)=hh:=lU oT;refine fin hh.toNat oT oT (λ_=>eh) (xU true _ c vlo vhi _ l hh hh.toNat hl hhi (.inr ⟨k,by rw[eh]⟩) p0 p1 oT oT)
    split
    ·rename_i rs rows clip;split
     ·rename_i hrs;rintro⟨p0,p1,p2⟩;have hlen':rows.length=len:=by simpa [lenA]using hlen
      have hM:vmx=none:=by rcases M with ⟨_,h⟩|⟨_,_,h,_⟩<;>first|exact h|cases h
      subst hM;refine known rs rows clip _ v _ _ none vhi none ha (aO hrs) p0 p1 (by rw[hlen'];exact p2) hL (by rw[hlen'];exact hU none rfl) (.inl ⟨rfl,rfl⟩) (λq _=>?_);simp only[aP,iO]at q;rw[q.2,hlen'];exact⟨q.1,rfl⟩
     ·trivial
    ·rename_i rs rows clip m hi;split
     ·rename_i hrs;rintro⟨p0,p1,p2,p3⟩;subst p2;have hlen':rows.length=len:=by simpa [lenA]using hlen
      rcases M with ⟨h,_⟩|⟨km,n,hm,hv⟩
      ·cases h
      injection hm with hm;subst hm;rcases U with ⟨h,_⟩|⟨kh,n',hn,hv'⟩
      ·cases h
      injection hn with hn;subst hn;exact known rs rows clip true v _ _ (some hi.toNat) vhi vmx ha (aO hrs) p0 p1 (by rw[hlen'];exact p3) hL (.inr ⟨kh,hv'⟩) (.inr ⟨km,rfl,hv⟩) (λ_ q=>by cases q)
     ·trivial
    ·rename_i s o n clip;split
     ·rename_i rows rs hs;split
      ·rename_i hrs;rintro⟨p0,p1,p2⟩;have hlen':n=len:=by simpa [lenA]using hlen
       have hM:vmx=none:=by rcases M with ⟨_,h⟩|⟨_,_,h,_⟩<;>first|exact h|cases h
       subst hM;subst hlen';refine own s o n rs rows clip _ v _ _ none vhi none ha hs (aO hrs) p0 p1 p2 hL (hU none rfl) (.inl ⟨rfl,rfl⟩) (λq _=>?_);simp only[aP,iO]at q;rw[q.2];exact⟨q.1,rfl⟩
      ·trivial
     ·trivial
    ·rename_i s o n clip m hi;split
     ·rename_i rows rs hs;split
      ·rename_i hrs;rintro⟨p0,p1,p2,p3⟩;subst p2;have hlen':n=len:=by simpa [lenA]using hlen
       subst hlen';rcases M with ⟨h,_⟩|⟨km,n',hm,hv⟩
       ·cases h
       injection hm with hm;subst hm;rcases U with ⟨h,_⟩|⟨kh,n'',hn,hv'⟩
       ·cases h
       injection hn with hn;subst hn;exact own s o n rs rows clip true v _ _ (some hi.toNat) vhi vmx ha hs (aO hrs) p0 p1 p3 hL (.inr ⟨kh,hv'⟩) (.inr ⟨km,rfl,hv⟩) (λ_ q=>by cases q)
      ·trivial
     ·trivial
    ·trivial
   ·trivial
  ·trivial
 ·trivial
end
end Go.Proofs.YtlpkggpdjobpmaaGreatDoor
namespace Go.Proofs.YtlpkggpdjobpmaaGreatDoor
open Go.RowKit
section
variable {C:Ctx}{S:Nat->Prop}{w:World}{β:Bt}{B:Nat}{h:AH}
theorem JK(off:Nat):∀(l:List Value) (s:Nat) (cells:Array Value),off+s+l.length<=cells.size->
  ((l.zipIdx s).foldl (λ(cs:Array Value) (p:Value×Nat)=>cs.setIfInBounds (off+p.2) p.1) cells).size=cells.size∧
  ∀k,((l.zipIdx s).foldl (λ(cs:Array Value) (p:Value×Nat)=>cs.setIfInBounds (off+p.2) p.1) cells)[k]?=if off+s<=k∧k<off+s+l.length then l[k-(off+s)]? else cells[k]?
 |[],s,cells,_=>by
  refine⟨rfl,λk=>?_⟩;simp only[List.zipIdx_nil,List.foldl_nil,cX,iU]
  rw[dZ oT]
 | x::l,s,cells,hl=>by
  simp only[bN]at hl;obtain⟨h1,h2⟩:=JK off l (s+1) (cells.setIfInBounds (off+s) x) (by simp;omega);simp only[List.zipIdx_cons,mK];refine⟨by rw[h1];simp,λk=>?_⟩;rw[h2 k];simp only[bN];by_cases hk:k=off+s
  ·subst hk;rw[dZ oT,af1 oT,eK,cP,cZ oT]
  ·by_cases hk2:off+(s+1)<=k∧k<off+(s+1)+l.length
   ·rw[af1 hk2,af1 oT,(oT:k-(off+s)=(k-(off+(s+1)))+1),dL]
   ·rw[dZ hk2,dZ oT,cY oT]
def Ez(S:Nat->Prop)(w:World)(β:Bt):List (Nat×AV)->List (Nat×Value)->Prop
 |[],[]=>True
 |(i,a)::ps,(j,v)::qs=>i=j∧Rep S w β a v∧Ez S w β ps qs
 |_,_=>False
theorem HC{pa pv:Nat->Option (Nat×Nat)}(hp:∀i x,pa i=some x->pv i=some x):∀(ps:List (Nat×AV)) (qs:List (Nat×Value)) (cells r:List AV) (vs:Array Value),Ez S w β ps qs->CellL S w β cells vs.toList->
  HJ C pa cells ps=some r->∃vr,Instr.fill pv vs qs=some vr∧CellL S w β r vr.toList
 |[],[],cells,r,vs,_,hc,hr=>by simp only[HJ]at hr;injection hr with hr;subst hr;exact⟨vs,rfl,hc⟩
 |[],_::_,_,_,_,hq,_,_=>hq.elim
 |(i,a)::ps,[],_,_,_,hq,_,_=>hq.elim
 | (i, a)::ps,(j,v)::qs,cells,r,vs,hq,hc,hr=>by
  obtain⟨rfl,ha,hrest⟩:=hq;simp only[HJ]at hr;split at hr
  ·rename_i off sz cs hpl hca;have hcs:=vE ha hca;split at hr
   ·rename_i e1 e2;have e1:=aO e1;have e2:=aJ e2;have n1:v.cells.size=sz:=by rw[<-e1,hcs.rep.1];simp
    have n2:vs.size=cells.length:=by rw[hc.rep.1];simp
    obtain⟨f1,f2⟩:=JK off v.cells.toList 0 vs (by simp only[cV,iU,n1,n2];omega);have hnew:CellL S w β (zS off cs cells) ((v.cells.toList.zipIdx 0).foldl (λ(cs:Array Value) (p:Value×Nat)=>cs.setIfInBounds (off+p.2) p.1) vs).toList:=by
     refine⟨⟨(vO _ _ _ e2).trans (n2.symm.trans (f1.symm.trans (cV).symm)),λk a' u hk hu=>?_⟩,λk u hu=>?_⟩
     ·rw[bQ,f2 k]at hu;rw[BQ _ _ _ _ e2]at hk;simp only[iU,cV,n1]at hu;rw[e1]at hk;split at hk
      ·rename_i hcond;rw[af1 hcond]at hu;exact hcs.rep.2 _ _ _ hk hu
      ·rename_i hcond;rw[dZ hcond]at hu;exact hc.rep.2 _ _ _ hk (sU hu)
     ·rw[bQ,f2 k]at hu;split at hu
      ·exact hcs.one _ _ hu
      ·exact hc.one _ _ (sU hu)
    obtain⟨vr,g1,g2⟩:=HC hp ps qs _ r _ hrest hnew hr;refine⟨vr,?_,g2⟩;simp only[Instr.fill,hp _ _ hpl];rw[dZ (by simp[n1,n2];omega)];have:v.cells.zipIdx.foldl (λ(cs:Array Value) (x:Value×Nat)=>match x with|(c,j)=>cs.setIfInBounds (off+j) c) vs=(v.cells.toList.zipIdx 0).foldl (λ(cs:Array Value) (p:Value×Nat)=>cs.setIfInBounds (off+p.2) p.1) vs:=by
     rw[<-Array.foldl_toList,Array.toList_zipIdx]
    rw[<-this]at g1;exact g1
   ·cases hr
  ·cases hr
theorem JL{P:Program}:∀(fs:List Field),(∀f∈fs,∃inf,P.info? f.type=some inf∧inf.size≠0)->∃ps,fs.mapM (λ(f:Field)=>(P.info? f.type).map λi=>(f.offset,i.size))=some ps∧
  ∀i:Nat,ps[i]?=(fs[i]?).bind λ(f:Field)=>(P.info? f.type).map λi=>(f.offset,i.size)
 |[],_=>⟨[],rfl,λi=>by simp⟩
 |f::fs,hf=>by
  obtain⟨ps,h1,h2⟩:=JL fs λg hg=>hf g (bY _ hg);obtain⟨inf,hi,_⟩:=hf f (al_List_mem_cons_self);refine⟨(f.offset,inf.size)::ps,by simp[tR,hi,h1],λi=>?_⟩
  cases i with
  |zero=>simp[hi]
  |succ i=>simpa using h2 i
def CP(hC:CtxOk C){t}{i}(ht:C.ty t=some i){zs}(hz:kN i.zero=some zs):∃inf z,C.P.info? t=some inf∧inf.size=i.sz∧inf.zero=some z∧CellL S w β zs z.cells.toList∧z.cells.size=i.sz∧inf.bytes=i.bytes∧0<i.sz∧i.bytes<=1000:=by
 obtain⟨inf,z,h1,h2,h3,h4,h5,h6,h7,h8⟩:=(hC.ty t _ ht).info;rw[h5]at hz;exact⟨inf,z,h1,h2,h4,vE (Hx z) hz,h6,h3,h7,h8⟩
def Tx(hC:CtxOk C)(t)(ps)(qs)(hq:Ez S w β ps qs.toList):
  rN C.P S w β (Instr.build t qs)
   (BX C t ps):=by
 unfold BX;split
 ·rename_i fs sz ag z by_ eq ht;obtain⟨fields,hu,hfs,hnz⟩:=(hC.ty t _ ht).kd;split
  ·rename_i zs hzs;obtain⟨inf,zv,i1,i2,i3,i4,_⟩:=CP hC ht hzs;refine GB λy hy=>?_;obtain⟨r,hr,hry⟩:=Gi.1 hy;subst hry;obtain⟨places,hpl,hpi⟩:=JL fields.toList hnz;have hpp:∀i x,(match PU fs i with|some (off,ft)=>(match C.ty ft with|some fi=>some (off,fi.sz)|none=>none)|none=>none)=some x->places.toArray[i]?=some x:=by
    intro i x hx;split at hx
    ·rename_i off ft hn;split at hx
     ·rename_i fi hfi;injection hx with hx;subst hx;rw[Hw, <-hfs,aX]at hn;obtain⟨fd,hfd,hfe⟩:=Gi.1 hn;injection hfe with e1 e2;subst e1;subst e2;obtain⟨inf',z',j1,j2,_⟩:=(hC.ty _ _ hfi).info;simp only[eM,hpi,hfd,Option.bind_some,j1,dF,j2]
     cases hx
    cases hx
   obtain⟨vr,g1,g2⟩:=HC hpp _ _ _ _ _ hq i4 hr;exact⟨_,run_build w t qs vr (by simp only[Program.built,i1,hu,i3,hpl];exact g1),sU g2.agg⟩
  trivial
 ·rename_i n e sz ag z by_ eq ht;have hu:C.P.underlying t=some _:=(hC.ty t _ ht).kd;split
  ·rename_i zs ei hzs he;obtain⟨inf,zv,i1,i2,i3,i4,_⟩:=CP hC ht hzs;obtain⟨inf',z',j1,j2,_⟩:=(hC.ty _ _ he).info;refine GB λy hy=>?_;obtain⟨r,hr,hry⟩:=Gi.1 hy;subst hry;obtain⟨vr,g1,g2⟩:=HC (pv:=λi=>some (i*inf'.size,inf'.size)) (λi x hx=>by rw[j2];exact hx) _ _ _ _ _ hq i4 hr;exact⟨_,run_build w t qs vr (by simp only[Program.built,i1,hu,i3,j1];exact g1),sU g2.agg⟩
  trivial
 trivial
end
end Go.Proofs.YtlpkggpdjobpmaaGreatDoor
