import Derived.Orders
import Derived.KernelRfl
import Derived.Deep.MidRow
import Derived.Deep.AppendSrc
import Derived.Laws.MakeOwn
import Derived.Great.BuildSlice
import Derived.Test.YtiaekocjeinkjaaGreatDoorS2
set_option linter.all false
namespace Go.Proofs.YtiaekocjeinkjaaGreatDoor
open Go.RowKit
inductive AV where
 |v (x:Value)
 |agg (cs:List AV)
 |F (cs:List AV)
 |Y (rs:Nat) (rows:List (List AV)) (clip:Bool)
 |k (rs col:Nat) (row:List AV)
 |ptr (s col:Nat)
 |x (s row col:Nat)
 |X (s lo len:Nat) (clip:Bool)
 |a (f:FuncId) (first caps:List AV)
 |ZY (g:Bool) (x:AV)
 |any
inductive a' where
 |box (cells:List AV)
 |arr (rows:List (List AV)) (rs:Nat)
 |row (cells:List AV)
abbrev AH:=Nat->Option a'
structure Loc where
 l:Nat
 base:Nat
 rs:Nat
abbrev Bt:=Nat->Option Loc
def cy:Bt:=λ_=>none
structure a4 where
 t:Nat->AV
 h:AH
 n:Nat
inductive Kd where
 |bool|int (k:IntKind)|string|slice (e:TypeId)|array (n:Nat) (e:TypeId)|struct (fs:List (Nat×TypeId))|pointer|func|other
inductive CK where
 |b|i|s
structure TI where
 kd:Kd
 j:Nat
 ag:Bool
 zero:AV
 bytes:Nat
 eq:List CK
structure a5 where
 P:Program
 ty:TypeId->Option TI
 G:Nat->Option (List AV)
 df:List Deferred:=[]
 lt:Bool:=false
 H:FuncId->List AV->AH->Nat->(AV->AH->Prop)->Prop:=λ_ _ _ _ _=>False
 fr:Nat:=0
@[reducible] def a5.ZZ(C:a5):a5:={C with H:=λ _ _ _ _ _=>False}
@[reducible] def a5.ZD(dr:Bool)(C:a5):a5:=match dr with|true=>C.ZZ|false=>C
inductive lw(g:Bool)(p K:Prop):Prop
 |mk (hp:g=true->p) (hk:K):lw g p K
inductive np(b:Bool)(X Y:Prop):Prop
 |mk (h1:b=true->X) (h2:b=false->Y):np b X Y
inductive nv(g:Bool)(rows:List (List AV))(i:Int)(K:List AV->Prop):Prop
 |mk (row:List AV) (h:g=true->0<=i/\rows[i.toNat]?=some row) (hk:K row):nv g rows i K
def an{a:Type}(f:Nat->a)(i:Nat)(x:a):Nat->a:=λj=>match Nat.beq j i with|true=>x|false=>f j
def Aa(f:Nat->AV)(i:Option Nat)(x:AV):Nat->AV:=match i with|some i=>an f i x|none=>f
def Lg:List AV->Nat->Option AV
 |[],_=>none
 |x::_,0=>some x
 |_::a,n+1=>Lg a n
def HD:Nat->List AV->List AV
 |0,_=>[]
 |_+1,[]=>[]
 |n+1,x::a=>x::HD n a
def FK:Nat->List AV->List AV
 |0,a=>a
 |_+1,[]=>[]
 |n+1,_::a=>FK n a
def zS:Nat->List AV->List AV->List AV
 |0,[],a=>a
 |0,c::b,_::a=>c::zS 0 b a
 |0,_::_,[]=>[]
 |n+1,b,x::a=>x::zS n b a
 |_+1,_,[]=>[]
def ml:Value->AV
 | .slice none 0 0=>.Y 0 [] true
 |x=>.v x
def lA:List Value->Bool
 |[]=>true
 |v::a=>match v.oneCell' with|true=>lA a|false=>false
def Pq:Value->AV
 | .slice none 0 0=>.Y 0 [] true
 | .agg a=>match lA a.toList with|true=>.agg (a.toList.map ml)|false=>.any
 |x=>.v x
def kN:AV->Option (List AV)
 | .agg e=>some e
 | .v (.agg _)| .v (.tuple _)=>none
 | .v x=>some [.v x]
 | .Y a b c=>some [.Y a b c]
 | .k a b c=>some [.k a b c]
 | .ptr a b=>some [.ptr a b]
 | .x a b c=>some [.x a b c]
 | .X a b c d=>some [.X a b c d]
 | .a a b c=>some [.a a b c]
 |_=>none
inductive b1 where
 |bad
 |ok (x:AV)
 |Z9 (p:Prop) (x:AV)
 |idx (rows:List (List AV)) (i:Int) (f:List AV->Option AV)
 |fx (p:Prop) (x:AV) (h:AH)
 |ZS (rows:List (List AV)) (i:Int) (f:List AV->Option AH)
 |str (p:Prop) (rows:List (List AV))
 |call (f:FuncId) (args:List AV)
def cE(c x y:Bool):Bool:=match c with|true=>x|false=>y
def HE(c:BinOp)(k:IntKind)(a b:Int):b1:=
 match c with
 | .add=>.ok (.v (.int k (k.wrap (a+b))))
 | .sub=>.ok (.v (.int k (k.wrap (a-b))))
 | .mul=>.ok (.v (.int k (k.wrap (a*b))))
 | .quo=>.Z9 (b≠0) (.v (.int k (k.wrap (a.tdiv b))))
 | .rem=>.Z9 (b≠0) (.v (.int k (a.tmod b)))
 | .and=>.ok (.v (.int k (k.wrap (BitVec.ofInt k.bits a&&&BitVec.ofInt k.bits b).toNat)))
 | .or=>.ok (.v (.int k (k.wrap (BitVec.ofInt k.bits a ||| BitVec.ofInt k.bits b).toNat)))
 | .xor=>.ok (.v (.int k (k.wrap (BitVec.ofInt k.bits a^^^BitVec.ofInt k.bits b).toNat)))
 | .andNot=>.ok (.v (.int k (k.wrap (BitVec.ofInt k.bits a &&& ~~~ BitVec.ofInt k.bits b).toNat)))
 | .eql=>.ok (.v (.bool (a==b)))
 | .neq=>.ok (.v (.bool (a != b)))
 | .lss=>.ok (.v (.bool (decide (a<b))))
 | .leq=>.ok (.v (.bool (decide (a<=b))))
 | .gtr=>.ok (.v (.bool (decide (a>b))))
 | .geq=>.ok (.v (.bool (decide (a>=b))))
 |_=>.bad
def Ty(c:BinOp)(k:IntKind)(a b:Int):b1:=
 match c with
 | .shl=>.Z9 (0<=b) (.v (.int k (k.wrap (a*2 ^ (min b.toNat k.bits)))))
 | .shr=>.Z9 (0<=b) (.v (.int k (a.fdiv (2 ^ (min b.toNat k.bits)))))
 |_=>.bad
def BT(c:BinOp)(a b:Bool):b1:=
 match c with
 | .eql=>.ok (.v (.bool (a==b)))
 | .neq=>.ok (.v (.bool (!(a==b))))
 |_=>.bad
def HG(a:BinOp)(x y:ByteArray):b1:=
 match a with
 | .add=>.Z9 (((x.size+y.size:Nat):Int)<=IntKind.i64.max) (.v (.string (x++y)))
 | .eql=>.ok (.v (.bool (x.toList==y.toList)))
 | .neq=>.ok (.v (.bool (!(x.toList==y.toList))))
 |_=>.bad
def yU:IntKind->IntKind->Bool
 | .i8,.i8| .i16,.i16| .i32,.i32| .i64,.i64| .u8,.u8| .u16,.u16| .u32,.u32| .u64,.u64=>true
 |_,_=>false
def rR:CK->AV->AV->Option Bool
 | .i,.v (.int k a),.v (.int c b)=>match yU k c with|true=>some (a==b)|false=>none
 | .b,.v (.bool a),.v (.bool b)=>some (a==b)
 | .s,.v (.string a),.v (.string b)=>some (a==b)
 |_,_,_=>none
def k9:List CK->List AV->List AV->Option Bool
 |[],[],[]=>some true
 |k::c,x::e,y::f=>match rR k x y,k9 c e f with|some a,some b=>some (a&&b)|_,_=>none
 |_,_,_=>none
def EA:BinOp->Bool
 | .shl| .shr=>true
 |_=>false
def Tz(C:a5)(c:BinOp)(t:TypeId)(x y:AV):b1:=
 match x,y with
 | .v (.int k a),.v (.int e b)=>
  match EA c with
  |true=>Ty c k a b
  |false=>match yU k e with|true=>HE c k a b|false=>.bad
 | .v (.bool a),.v (.bool b)=>match C.ty t with|some ⟨.bool,_,_,_,_,_⟩=>BT c a b|_=>.bad
 | .v (.string a),.v (.string b)=>HG c a b
 | .agg g,.agg l=>
  match C.ty t with
  |some ⟨_,_,_,_,_,k::f⟩=>
   match c,k9 (k::f) g l with
   | .eql,some b=>.ok (.v (.bool b))
   | .neq,some b=>.ok (.v (.bool (!b)))
   |_,_=>.bad
  |_=>.bad
 |_,_=>.bad
def Ww:BinOp->Operand->Option Bool
 | .eql,.const (.slice none 0 0)=>some false
 | .neq,.const (.slice none 0 0)=>some true
 |_,_=>none
def BU(C:a5)(a:Bool)(t:TypeId)(x:AV):b1:=
 match C.ty t with
 |some ⟨.slice _,_,_,_,_,_⟩=>
  match x with
  | .v (.slice none _ _)=>.ok (.v (.bool (!a)))
  | .v (.slice (some _) _ _)=>.ok (.v (.bool a))
  | .Y _ (_::_) _=>.ok (.v (.bool a))
  |_=>.bad
 |_=>.bad
def j5(a:UnOp)(x:AV):b1:=
 match a,x with
 | .not,.v (.bool b)=>.ok (.v (.bool (!b)))
 | .neg,.v (.int k n)=>.ok (.v (.int k (k.wrap (0-n))))
 | .xor,.v (.int k n)=>.ok (.v (.int k (k.wrap (BitVec.ofInt k.bits (if k.signed then -1 else k.max)^^^BitVec.ofInt k.bits n).toNat)))
 |_,_=>.bad
def gU:List (List AV)->Option (List UInt8)
 |[]=>some []
 |[.v (.int .u8 n)]::rs=>match gU rs with|some l=>some (UInt8.ofNat n.toNat::l)|none=>none
 |_=>none
inductive pl(g:Bool)(p:Prop)(rows:List (List AV))(K:ByteArray->Prop):Prop
 |mk (l:List UInt8) (h:g=true->p/\gU rows=some l) (hk:K ⟨l.toArray⟩):pl g p rows K
def aS(s:ByteArray):List (List AV):=s.data.toList.map λb=>[.v (.int .u8 b.toNat)]
def DF(C:a5)(src a:TypeId)(x:AV):b1:=
 match C.ty src,C.ty a,x with
 |some ⟨.int _,_,_,_,_,_⟩,some ⟨.int k,_,_,_,_,_⟩,.v (.int _ n)=>.ok (.v (.int k (k.wrap n)))
 |some ⟨.string,_,_,_,_,_⟩,some ⟨.string,_,_,_,_,_⟩,.v (.string s)=>.ok (.v (.string s))
 |_,_,_=>.bad
def Ot(C:a5)(t:TypeId)(b:List AV)(a:Nat):Option AV:=
 match C.ty t with
 |some ⟨_,c,true,_,_,_⟩=>some (.agg (HD c (FK a b)))
 |some ⟨_,_,false,_,_,_⟩=>Lg b a
 |none=>none
def HI(C:a5)(t:TypeId)(rs a:Nat)(row:List AV):Option AV:=
 match C.ty t with
 |some ⟨_,b,true,_,_,_⟩=>
  match a,Nat.beq b rs with
  |0,true=>some (.agg row)
  |_,_=>match Nat.beq (HD b (FK a row)).length b with|true=>some (.agg (HD b (FK a row)))|false=>none
 |some ⟨_,_,false,_,_,_⟩=>Lg row a
 |none=>none
def PU:List (Nat×TypeId)->Nat->Option (Nat×TypeId)
 |[],_=>none
 |x::_,0=>some x
 |_::a,n+1=>PU a n
def HJ(C:a5)(a:Nat->Option (Nat×Nat))(cells:List AV):List (Nat×AV)->Option (List AV)
 |[]=>some cells
 |(i,x)::rest=>
  match a i,kN x with
  |some (b,e),some c=>match Nat.beq c.length e,Nat.ble (b+c.length) cells.length with|true,true=>HJ C a (zS b c cells) rest|_,_=>none
  |_,_=>none
def et(x:Option AV):b1:=match x with|some x=>.ok x|none=>.bad
def e':AV->Option Nat
 | .v (.string s)=>some s.size
 | .Y _ rows _=>some rows.length
 | .X _ _ len _=>some len
 |_=>none
def mm:Option AV->Option (Option Int)
 |none=>some none
 |some (.v (.int _ n))=>some (some n)
 |_=>none
def DG(h:AH):AV->Option a'
 | .X b _ _ _=>h b
 |_=>none
def BV(C:a5)(t:TypeId)(x:AV)(lo a f:Option AV)(blk:Option a'):b1:=
 match e' x,mm lo,mm a,mm f with
 | some len,some lo,some a,some f=>
  match C.ty t with
  |some ⟨.string,_,_,_,_,_⟩=>
   match x,f with
   | .v (.string s),none=>.Z9 (0<=lo.getD 0/\lo.getD 0<=a.getD len/\a.getD len<=(len:Int)) (.v (.string (s.extract (lo.getD 0).toNat (a.getD len).toNat)))
   |_,_=>.bad
  | some ⟨.slice e,_,_,_,_,_⟩=>
   match C.ty e with
   | some c=>
    match x,f,a with
    | .Y rs rows b,none,a=>
     match Nat.beq rs c.j with
     |true=>.Z9 (0<=lo.getD 0/\lo.getD 0<=a.getD len/\a.getD len<=(len:Int)) (.Y rs ((rows.take (a.getD len).toNat).drop (lo.getD 0).toNat) (b&&a.isNone))
     |false=>.bad
    | .Y rs rows _,some m,some a=>
     match Nat.beq rs c.j with
     |true=>.Z9 (0<=lo.getD 0/\lo.getD 0<=a/\a=m/\a<=(len:Int)) (.Y rs ((rows.take a.toNat).drop (lo.getD 0).toNat) true)
     |false=>.bad
    | .X s o _ b,none,a=>
     match blk with
     |some (.arr _ rs)=>
      match Nat.beq rs c.j with
      |true=>.Z9 (0<=lo.getD 0/\lo.getD 0<=a.getD len/\a.getD len<=(len:Int)) (.X s (o+(lo.getD 0).toNat) (a.getD len-lo.getD 0).toNat (b&&a.isNone))
      |false=>.bad
     |_=>.bad
    | .X s o _ _,some m,some a=>
     match blk with
     |some (.arr _ rs)=>
      match Nat.beq rs c.j with
      |true=>.Z9 (0<=lo.getD 0/\lo.getD 0<=a/\a=m/\a<=(len:Int)) (.X s (o+(lo.getD 0).toNat) (a-lo.getD 0).toNat true)
      |false=>.bad
     |_=>.bad
    |_,_,_=>.bad
   |none=>.bad
  |_=>.bad
 |_,_,_,_=>.bad
def uQ(C:a5)(h:AH)(t:TypeId)(x:AV)(lo a b:Option AV):b1:=BV C t x lo a b (DG h x)
def mY(h:AH):AV->Option (Nat×List (List AV))
 | .v (.string s)=>some (1,aS s)
 | .Y rs rows _=>some (rs,rows)
 | .X s lo len _=>match h s with|some (.arr rows rs)=>some (rs,(rows.drop lo).take len)|_=>none
 |_=>none
def xV(h:AH):AV->Prop
 | .X s lo len _=>match h s with|some (.arr rows _)=>lo+len<=rows.length|_=>False
 |_=>True
def jH:Nat:=1000000
def TA(C:a5)(t:TypeId)(x:AV):b1:=
 match C.ty t,x with
 |some ⟨.string,_,_,_,_,_⟩,.v (.string s)=>.ok (.v (.int .i64 (s.size:Int)))
 |some ⟨.slice _,_,_,_,_,_⟩,.Y _ rows _=>.ok (.v (.int .i64 (rows.length:Int)))
 |some ⟨.slice _,_,_,_,_,_⟩,.X _ _ len _=>.ok (.v (.int .i64 (len:Int)))
 |some ⟨.array n _,_,_,_,_,_⟩,_=>.ok (.v (.int .i64 (n:Int)))
 |_,_=>.bad
def Ou:Kd->Bool
 | .slice _| .string=>true
 |_=>false
def TB(x y:AV):b1:=
 match x,y with
 | .v (.int k a),.v (.int c b)=>match yU k c with|true=>.ok (.v (.int k (if b<a then b else a)))|false=>.bad
 |_,_=>.bad
def TC(x y:AV):b1:=
 match x,y with
 | .v (.int k a),.v (.int c b)=>match yU k c with|true=>.ok (.v (.int k (if b>a then b else a)))|false=>.bad
 |_,_=>.bad
def EB(C:a5)(h:AH)(b:List TypeId)(x y:AV):b1:=
 match b with
 |[]=>.bad
 | t ::_=>
  match C.ty t with
  | some ⟨.slice e,_,_,_,_,_⟩=>
   match C.ty e,x with
   | some a,.X s0 lo len _=>
    match h s0,mY h y with
    |some (.arr rows rs),some (rc,c)=>
     match Nat.beq rs a.j,Nat.beq rc a.j with
     |true,true=>.fx (lo+len<=rows.length/\xV h y) (.v (.int .i64 (min c.length len:Nat))) (an h s0 (some (.arr (rows.take lo++c.take (min c.length len)++rows.drop (lo+min c.length len)) rs)))
     |_,_=>.bad
    |_,_=>.bad
   |_,_=>.bad
  |_=>.bad
def qG(C:a5)(s:Nat)(p:List TypeId)(x:AV)(l m:Option (Nat×List (List AV)))(blk:Option a')(g f:Prop)(h:AH):b1:=
 match p with
 | [t,q]=>match C.ty t,C.ty q with
  | some ⟨.slice e,_,_,_,_,_⟩,some tk=>match C.ty e with
   | some b=>
    match Ou tk.kd,x,l,m with
    | true,.Y k _ true,some (ra,a),some (rc,c)=>match Nat.beq k 0,Nat.beq ra b.j,Nat.beq rc b.j with
     |true,_,true=>.fx (a.length=0/\c.length<=jH/\0<c.length/\f) (.X s 0 c.length false) (an h s (some (.arr c rc)))
     |false,true,true=>(match c with
      |[]=>.Z9 (g/\f) x
      |_::_=>.fx (a.length+c.length<=jH/\0<c.length/\g/\f) (.X s 0 (a.length+c.length) false) (an h s (some (.arr (a++c) ra))))
     |_,_,_=>.bad
    |true,.X _ _ _ true,some (ra,a),some (rc,c)=>match Nat.beq ra b.j,Nat.beq rc b.j with
     |true,true=>.fx (a.length+c.length<=jH/\0<c.length/\g/\f) (.X s 0 (a.length+c.length) false) (an h s (some (.arr (a++c) ra)))
     |_,_=>.bad
    |true,.X s0 lo len false,some (ra,a),some (rc,c)=>
     match blk,Nat.beq ra b.j,Nat.beq rc b.j with
     |some (.arr rows _),true,true=>.fx (a.length+c.length<=jH/\lo+len=rows.length/\f) (.X s 0 (a.length+c.length) false) (an (an h s0 none) s (some (.arr (a++c) ra)))
     |_,_,_=>.bad
    |_,_,_,_=>.bad
   |none=>.bad
  |_,_=>.bad
 |_=>.bad
def bR(C:a5)(h:AH)(s:Nat)(b:Builtin)(a:List TypeId)(args:List AV):b1:=
 match b,args with
 | .len,[x]=>match a with|[t]=>TA C t x|_=>.bad
 | .min,[x,y]=>TB x y
 | .max,[x,y]=>TC x y
 | .append,[x,y]=>qG C s a x (mY h x) (mY h y) (DG h x) (xV h x) (xV h y) h
 | .copy,[x,y]=>EB C h a x y
 |_,_=>.bad
def AL(C:a5)(t:TypeId):Option (List AV):=
 match C.ty t with
 |some i=>kN i.zero
 |none=>none
mutual
def eP:AV->Bool
 | .v _| .Y _ _ _| .k _ _ _=>true
 | .agg c=>eW c
 | .F c=>eW c
 | .a _ a b=>match eW a with|true=>eW b|false=>false
 |_=>false
def eW:List AV->Bool
 |[]=>true
 |x::a=>match eP x with|true=>eW a|false=>false
end
def FL(b:Nat):Nat->List (Nat×AV)->Option (List (List AV))
 |_,[]=>some []
 |k,(i,x)::rest=>
  match Nat.beq i k,kN x,FL b (k+1) rest with
  |true,some a,some rows=>match Nat.beq a.length b,eW a with|true,true=>some (a::rows)|_,_=>none
  |_,_,_=>none
def v6(c a b:AV):b1:=
 match c,a,b with
 | .v (.bool c),.v (.bool x),.v (.bool y)=>.ok (.v (.bool (cE c x y)))
 | .v (.bool c),.ZY g (.v (.bool x)),.v (.bool y)=>.Z9 (c=true->g=true) (.v (.bool (cE c x y)))
 | .v (.bool c),.v (.bool x),.ZY g (.v (.bool y))=>.Z9 (c=false->g=true) (.v (.bool (cE c x y)))
 |_,_,_=>.bad
def tG(C:a5)(h:AH)(t:TypeId)(a:AV):b1:=
 match a with
 | .ptr b c=>match h b with|some (.box cells)=>et (HI C t cells.length c cells)|_=>.bad
 | .x b r c=>match h b with|some (.arr rows rs)=>.idx rows r (HI C t rs c)|some (.row cells)=>.idx (cells.map λx=>[x]) r (HI C t 1 c)|_=>.bad
 | .k rs c row=>et (HI C t rs c row)
 |_=>.bad
def oJ(C:a5)(t:TypeId)(f:Nat)(a:AV):b1:=
 match C.ty t with
 |some ⟨.struct g,_,_,_,_,_⟩=>
  match PU g f,a with
  |some (e,_),.ptr b c=>.ok (.ptr b (c+e))
  |some (e,_),.x b r c=>.ok (.x b r (c+e))
  |some (e,_),.k rs c row=>.ok (.k rs (c+e) row)
  |_,_=>.bad
 |_=>.bad
def Ab(C:a5)(t:TypeId)(f:Nat)(a:AV):b1:=
 match C.ty t with
 |some ⟨.struct e,_,_,_,_,_⟩=>match PU e f,a with|some (b,g),.agg c=>et (Ot C g c b)|_,_=>.bad
 |_=>.bad
def pN(C:a5)(t:TypeId)(a i:AV)(blk:Option a'):b1:=
 match C.ty t,i with
 | some ⟨.slice e,_,_,_,_,_⟩,.v (.int _ n)=>
  match C.ty e,a with
  |some f,.Y rs rows _=>(match Nat.beq rs f.j with|true=>.idx rows n (λrow=>some (.k rs 0 row))|false=>.bad)
  |some f,.X b lo len _=>(match blk with
   |some (.arr _ rs)=>(match Nat.beq rs f.j with|true=>.Z9 (0<=n/\n<(len:Int)) (.x b (lo+n.toNat) 0)|false=>.bad)
   |some (.row _)=>(match Nat.beq 1 f.j with|true=>.Z9 (0<=n/\n<(len:Int)) (.x b (lo+n.toNat) 0)|false=>.bad)
   |_=>.bad)
  |_,_=>.bad
 |some ⟨.array len e,_,_,_,_,_⟩,.v (.int _ n)=>
  match C.ty e,a with
  |some f,.ptr b c=>.Z9 (0<=n/\n<(len:Int)) (.ptr b (c+n.toNat*f.j))
  |some f,.x b r c=>.Z9 (0<=n/\n<(len:Int)) (.x b r (c+n.toNat*f.j))
  |some f,.k rs c row=>.Z9 (0<=n/\n<(len:Int)) (.k rs (c+n.toNat*f.j) row)
  |_,_=>.bad
 |_,_=>.bad
def iW(C:a5)(h:AH)(t:TypeId)(a i:AV):b1:=pN C t a i (DG h a)
def BW(C:a5)(t:TypeId)(a i:AV):b1:=
 match C.ty t,a,i with
 |some ⟨.string,_,_,_,_,_⟩,.v (.string s),.v (.int _ n)=>.Z9 (0<=n/\n<(s.size:Int)) (.v (.int .u8 (s.data.toList.getD n.toNat 0).toNat))
 |some ⟨.array len e,_,_,_,_,_⟩,.agg b,.v (.int _ n)=>
  match C.ty e with
  |some c=>match Ot C e b (n.toNat*c.j)with|some x=>.Z9 (0<=n/\n<(len:Int)) x|none=>.bad
  |none=>.bad
 |_,_,_=>.bad
def rY(i:Nat)(a:AV):b1:=match a with| .F b=>et (Lg b i)|_=>.bad
def BX(C:a5)(t:TypeId)(f:List (Nat×AV)):b1:=
 match C.ty t with
 |some ⟨.struct k,_,_,z,_,_⟩=>
  match kN z with
  |some a=>et ((HJ C (λi=>match PU k i with|some (c,l)=>(match C.ty l with|some g=>some (c,g.j)|none=>none)|none=>none) a f).map .agg)
  |none=>.bad
 |some ⟨.array _ e,_,_,z,_,_⟩=>
  match kN z,C.ty e with
  |some a,some b=>et ((HJ C (λi=>some (i*b.j,b.j)) a f).map .agg)
  |_,_=>.bad
 |_=>.bad
def TD(a:AV):b1:=
 match a with
 | .ptr b c=>.ok (.ptr b c)
 | .x b r c=>.ok (.x b r c)
 | .k a b c=>.ok (.k a b c)
 | .a a b c=>.ok (.a a b c)
 |_=>.bad
def FM(C:a5)(h:AH)(s:Nat)(src a:TypeId)(x:AV):b1:=
 match C.ty src,C.ty a with
 |some ⟨.string,_,_,_,_,_⟩,some ⟨.slice e,_,_,_,_,_⟩=>
  match x,C.ty e with
  | .v (.string b),some ⟨.int .u8,_,_,_,_,_⟩=>.fx (b.size<=jH) (.X s 0 b.size false) (an h s (some (.arr (aS b) 1)))
  |_,_=>.bad
 | some ⟨.slice e,_,_,_,_,_⟩,some ⟨.string,_,_,_,_,_⟩=>
  match x with
  | .v _=>.bad
  |x=>match C.ty e,mY h x with
   |some ⟨.int .u8,_,_,_,_,_⟩,some (_,rows)=>.str (xV h x) rows
   |_,_=>.bad
 |_,_=>DF C src a x
def JM(C:a5)(h:AH)(s:Nat)(t:TypeId)(l c:AV):b1:=
 match C.ty t,l,c with
 | some ⟨.slice e,_,_,_,_,_⟩,.v (.int _ l),.v (.int _ c)=>
  match C.ty e with
  |some a=>match kN a.zero with
   |some z=>(match eW z with|true=>.fx (0<=l/\l<=c/\c<=jH) (.X s 0 l.toNat false) (an h s (some (.arr (List.replicate l.toNat z) z.length)))|false=>.bad)
   |none=>.bad
  |none=>.bad
 |_,_,_=>.bad
def bj(C:a5)(ev:Operand->AV)(h:AH)(s:Nat)(m:Op):b1:=
 match m with
 | .move x| .assign x=>.ok (ev x)
 | .pick c a b=>v6 (ev c) (ev a) (ev b)
 | .alloc t=>match AL C t with|some g=>.fx True (.ptr s 0) (an h s (some (.box g)))|none=>.bad
 | .box _ x=>match kN (ev x)with|some g=>.fx True (.ptr s 0) (an h s (some (.box g)))|none=>.bad
 | .build t parts=>BX C t (parts.toList.map λp=>(p.1,ev p.2))
 | .load t a=>tG C h t (ev a)
 | .store t a x=>
  match C.ty t,kN (ev x)with
  | some ti,some g=>
   match Nat.beq g.length ti.j with
   | true=>
    match ev a with
    | .ptr b c=>match h b with|some (.box cells)=>(match Nat.ble (c+g.length) cells.length with|true=>.fx True .any (an h b (some (.box (zS c g cells))))|false=>.bad)|_=>.bad
    | .x b r c=>(match h b with
     |some (.arr rows rs)=>.ZS rows r (λrow=>match Nat.ble (c+g.length) row.length,eW g with|true,true=>some (an h b (some (.arr (rows.set r (zS c g row)) rs)))|_,_=>none)
     |some (.row cells)=>.ZS (cells.map λx=>[x]) r (λ_=>match c,g with|0,[x]=>some (an h b (some (.row (cells.set r x))))|_,_=>none)
     |_=>.bad)
    |_=>.bad
   |false=>.bad
  |_,_=>.bad
 | .nilCheck x=>TD (ev x)
 | .binOp m t x y _=>(match Ww m y with|some v=>BU C v t (ev x)|none=>Tz C m t (ev x) (ev y))
 | .unOp m _ x=>j5 m (ev x)
 | .convert src u x=>FM C h s src u (ev x)
 | .makeFunc (.func f) first k=>.ok (.a f (first.toList.map ev) (k.toList.map ev))
 | .makeSlice t l c=>JM C h s t (ev l) (ev c)
 | .buildSlice t len parts=>
  match C.ty t with
  | some ⟨.slice e,_,_,_,_,_⟩=>
   match C.ty e with
   | some q=>
    match FL q.j 0 (parts.toList.map λp=>(p.1,ev p.2))with
    |some rows=>match Nat.beq rows.length len,Nat.ble (len*q.j) 16777216 with
     |true,true=>.ok (.Y q.j rows true)
     |_,_=>.bad
    |none=>.bad
   |none=>.bad
  |_=>.bad
 | .slice t x lo z A=>uQ C h t (ev x) (lo.map ev) (z.map ev) (A.map ev)
 | .fieldAddr t x f=>oJ C t f (ev x)
 | .field t x f=>Ab C t f (ev x)
 | .indexAddr t x i=>iW C h t (ev x) (ev i)
 | .index t x i=>BW C t (ev x) (ev i)
 | .extract x i=>rY i (ev x)
 | .call c=>
  match c.callee with
  | .builtin b=>bR C h s b c.argTypes.toList (c.args.toList.map ev)
  | .value f=>match ev f with
   | .a f first k=>.call f (first++c.args.toList.map ev++k)
   |_=>.bad
  |_=>.bad
 |_=>.bad
def bi(C:a5)(t:Nat->AV):Operand->AV
 | .tmp i=>t i
 | .const x=>Pq x
 | .global g=>match C.G g with|some cells=>.k cells.length 0 cells|none=>.any
 | .func f=>.a f [] []
def Bz:AV->AV
 | .ZY _ x=>x
 |x=>x
def MF:AV->Option Bool
 | .ZY g _=>some g
 |_=>none
def vQ(t:Nat->AV):List Operand->Option Bool
 |[]=>none
 | .tmp i::rest=>match MF (t i),vQ t rest with
  |none,r=>r
  |some g,none=>some g
  |some g,some r=>some (g&&r)
 |_::rest=>vQ t rest
def hU(t:Nat->AV)(op:Op):Option Bool:=
 match op with
 | .pick c _ _=>vQ t [c]
 |op=>vQ t op.operands.toList
def Lz:Operand->Operand->Bool
 | .tmp i,.tmp j=>Nat.beq i j
 |_,_=>false
def gv(C:a5)(t:Nat->AV)(a:Op):Operand->AV:=
 match a with
 | .pick c _ _=>λx=>match Lz c x with|true=>Bz (bi C t x)|false=>bi C t x
 |_=>λx=>Bz (bi C t x)
def Ad(x:AV)(c:Bool):Option Bool:=
 match x with
 | .v (.bool b)=>some (match c with|true=>b|false=> !b)
 | .ZY a (.v (.bool b))=>some (a&&(match c with|true=>b|false=> !b))
 |_=>none
mutual
def HP:AV->Bool
 | .X _ _ _ _=>false
 | .ptr _ _=>false
 | .agg c=>oU c
 | .F c=>oU c
 | .a _ a b=>match oU a with|true=>oU b|false=>false
 |_=>true
def oU:List AV->Bool
 |[]=>true
 |x::a=>match HP x with|true=>oU a|false=>false
end
def SU:List AV->List AV
 |[]=>[]
 |x::a=>(match eP x with|true=>x|false=>.any)::SU a
mutual
def vR(h:AH):AV->AV
 | .X s lo len g=>match h s with|some (.arr rows rs)=>.Y rs ((rows.drop lo).take len) g|_=>.any
 | .agg e=>.agg (rO h e)
 | .F e=>match oU e with|true=>.F e|false=>.F (rO h e)
 | .ptr s c=>match h s with|some (.box cells)=>.k cells.length c (SU cells)|_=>.any
 | .a f a b=>.a f (rO h a) (rO h b)
 |x=>x
def rO(h:AH):List AV->List AV
 |[]=>[]
 |x::a=>vR h x::rO h a
end
mutual
def jU(h:AH):AV->Prop
 | .X s lo len _=>match h s with|some (.arr rows _)=>lo+len<=rows.length|_=>False
 | .agg c=>jV h c
 | .F c=>match oU c with|true=>True|false=>jV h c
 | .a _ a b=>jV h a/\jV h b
 |_=>True
def jV(h:AH):List AV->Prop
 |[]=>True
 |x::a=>jU h x/\jV h a
end
mutual
def CQ:AV->Bool
 | .v _=>true
 | .agg a=>PV a
 | .F a=>PV a
 |_=>false
def PV:List AV->Bool
 |[]=>true
 |x::a=>match CQ x with|true=>PV a|false=>false
end
inductive pf(C:a5)(R:FuncId->List AV->AV->Prop)(g:Bool)(h:AH)(f:FuncId)(args:List AV)(K:AV->Prop):Prop
 |mk (r:AV) (hc:eW (rO h args)=true) (hf:oU args=true∨(CQ r=true∧jV h args)) (hr:eP r=true) (hR:g=true->R f (rO h args) r) (hk:K r):pf C R g h f args K
inductive r5(C:a5)(h:AH)(s:Nat)(f:FuncId)(args:List AV)(K:AV->AH->Prop):Prop
 |mk (bs:AV->AH->Prop) (hH:C.H f args h s bs) (hk:∀r h',bs r h'->K r h'):r5 C h s f args K
def i'(C:a5)(R:FuncId->List AV->AV->Prop)(h:AH)(s:Nat)(r:b1)(K:AV->AH->Prop):Prop:=
 match r with
 | .bad=>False
 | .ok x=>K x h
 | .Z9 p x=>lw true p (K x h)
 | .idx rows i f=>nv true rows i (λrow=>match f row with|some x=>K x h|none=>False)
 | .fx p x h'=>lw true p (K x h')
 | .ZS rows i f=>nv true rows i (λrow=>match f row with|some h'=>K .any h'|none=>False)
 | .str p rows=>pl true p rows (λb=>K (.v (.string b)) h)
 | .call f args=>pf C R true h f args (λx=>K x h)∨r5 C h s f args K
def DH(C:a5)(R:FuncId->List AV->AV->Prop)(h:AH)(g:Bool)(r:b1)(K:AV->AH->Prop):Prop:=
 match r with
 | .ok x=>K (.ZY g x) h
 | .Z9 p x=>lw g p (K (.ZY g x) h)
 | .idx rows i f=>nv g rows i (λrow=>match f row with|some x=>K (.ZY g x) h|none=>False)
 | .str p rows=>pl g p rows (λb=>K (.ZY g (.v (.string b))) h)
 | .call f args=>pf C R g h f args (λx=>K (.ZY g x) h)
 |_=>False
def Ov(r:b1)(K:AV->AH->Prop):Prop:=
 match r with
 | .fx p x h'=>lw true p (K x h')
 |_=>False
def xG(C:a5)(R:FuncId->List AV->AV->Prop)(all:List Oper)(o:Oper)(s:Nat)(t:Nat->AV)(h:AH)(K:AV->AH->Prop):Prop:=
 match o.guard with
 |none=>i' C R h s (bj C (bi C t) h s o.op) K
 | some (i,a)=>
  match(all[i]?).bind (·.dst)with
  |none=>False
  | some d=>
   match Ad (t d) a with
   |none=>False
   |some g=>
    match hU t o.op with
    |none=>DH C R h g (bj C (bi C t) h s o.op) K∨(g=true∧Ov (bj C (bi C t) h s o.op) K)
    |some c=>lw g (c=true) (DH C R h g (bj C (gv C t o.op) h s o.op) K)
def jS(C:a5)(R:FuncId->List AV->AV->Prop)(all:List Oper):List Oper->Nat->a4->(a4->Prop)->Prop
 |[],j,st,K=>K {st with n:=st.n+j}
 |o::rest,j,st,K=>xG C R all o (st.n+j) st.t st.h (λx h'=>jS C R all rest (j+1) {st with t:=Aa st.t o.dst x,h:=h' } K)
inductive c8 where
 |normal|exit (id:Nat)|ret
mutual
def uW(σ:Nat->Nat):AV->AV
 | .ptr s c=>.ptr (σ s) c
 | .x s r c=>.x (σ s) r c
 | .X s lo len e=>.X (σ s) lo len e
 | .agg k=>.agg (Bg σ k)
 | .F k=>.F (Bg σ k)
 | .a f a b=>.a f (Bg σ a) (Bg σ b)
 | .ZY g x=>.ZY g (uW σ x)
 |x=>x
def Bg(σ:Nat->Nat):List AV->List AV
 |[]=>[]
 |x::a=>uW σ x::Bg σ a
end
mutual
def mR(n:Nat):AV->Bool
 | .ptr s _=>Nat.blt s n
 | .x s _ _=>Nat.blt s n
 | .X s _ _ _=>Nat.blt s n
 | .agg c=>mS n c
 | .F c=>mS n c
 | .a _ a b=>match mS n a with|true=>mS n b|false=>false
 | .ZY _ x=>mR n x
 |_=>true
def mS(n:Nat):List AV->Bool
 |[]=>true
 |x::a=>match mR n x with|true=>mS n a|false=>false
end
def DI(σ:Nat->Nat):a'->a'
 | .box cells=>.box (Bg σ cells)
 | .arr rows rs=>.arr rows rs
 | .row cells=>.row (Bg σ cells)
def qM(n:Nat):a'->Bool
 | .box cells=>mS n cells
 | .arr _ _=>true
 | .row cells=>mS n cells
structure di(st st':a4)(σ:Nat->Nat):Prop where
 t:∀i,st'.t i=.any\/(st.t i=uW σ (st'.t i)/\mR st'.n (st'.t i)=true)
 h:∀s blk,st'.h s=some blk->s<st'.n/\st.h (σ s)=some (DI σ blk)/\qM st'.n blk=true
 inj:∀s s',st'.h s≠none->st'.h s'≠none->σ s=σ s'->s=s'
abbrev Fz:=Option (Nat×Nat×List (List AV))
inductive e4(fz:Fz):AV->AV->Prop
 |refl (a:AV):e4 fz a a
 |any (a:AV):e4 fz a .any
 |nil (rs:Nat) (c:Bool):e4 fz (.Y 0 [] true) (.Y rs [] c)
 |Yy (rs:Nat) (A:Option Addr) (k:Nat) (c:Bool) (hk:k<=maxLen) (hc:c=true->k=0):e4 fz (.v (.slice A 0 k)) (.Y rs [] c)
 |clip (rs:Nat) (rows:List (List AV)):e4 fz (.Y rs rows true) (.Y rs rows false)
 |YB (s lo len:Nat):e4 fz (.X s lo len true) (.X s lo len false)
 |Y2 (b rs lo len:Nat) (rows:List (List AV)) (c c':Bool) (h:fz=some (b,rs,rows)) (hl:lo+len<=rows.length) (hc:c'=true->c=true):e4 fz (.X b lo len c) (.Y rs ((rows.drop lo).take len) c')
 |agg (cs ds:List AV) (hl:cs.length=ds.length) (h:∀(i:Nat) a d,cs[i]?=some a->ds[i]?=some d->e4 fz a d):e4 fz (.agg cs) (.agg ds)
 |F (cs ds:List AV) (hl:cs.length=ds.length) (h:∀(i:Nat) a d,cs[i]?=some a->ds[i]?=some d->e4 fz a d):e4 fz (.F cs) (.F ds)
inductive eg(fz:Fz):a'->a'->Prop
 |refl (b:a'):eg fz b b
 |box (cs ds:List AV) (hl:cs.length=ds.length) (h:∀(i:Nat) a d,cs[i]?=some a->ds[i]?=some d->e4 fz a d):eg fz (.box cs) (.box ds)
 |row (cs ds:List AV) (hl:cs.length=ds.length) (h:∀(i:Nat) a d,cs[i]?=some a->ds[i]?=some d->e4 fz a d):eg fz (.row cs) (.row ds)
 |YN (cells:List AV):eg fz (.arr (cells.map λx=>[x]) 1) (.row cells)
 |YO (cells:List AV) (h:∀c∈cells,eP c=true):eg fz (.row cells) (.arr (cells.map λx=>[x]) 1)
structure kx(st st':a4)(fz:Fz):Prop where
 b:∀x rs rows,fz=some (x,rs,rows)->st.h x=some (.arr rows rs)
 n:st'.n=st.n
 t:∀i,e4 fz (st.t i) (st'.t i)
 h:∀s blk,st'.h s=some blk->(∀x rs rows,fz=some (x,rs,rows)->s≠x)/\∃blk0,st.h s=some blk0/\eg fz blk0 blk
inductive j9:a4->a4->Prop
 |refl (st:a4):j9 st st
 |step {a b c:a4} (fz:Fz) (h:kx a b fz) (k:j9 b c):j9 a c
inductive he(st:a4)(K:a4->Prop):Prop
 |mk (st':a4) (h:j9 st st') (k:K st'):he st K
def ef:Nat->(Nat->Nat)->Nat->Bool
 |0,_,_=>true
 |k+1,σ,n=>match Nat.beq (σ k) k,Nat.blt k n with|true,true=>ef k σ n|_,_=>false
inductive r8(fr:Nat)(st:a4)(K:a4->Prop):Prop
 |mk (stw:a4) (σ:Nat->Nat) (hw:di st stw σ) (hf:ef fr σ stw.n=true) (k:K stw):r8 fr st K
inductive ph(fr:Nat)(body:a4->(c8->a4->Prop)->Prop)(st:a4)(Q:c8->a4->Prop):Prop
 | mk (I:a4->Prop) (μ:a4->Nat) (st0:a4) (σ:Nat->Nat) (hw:di st st0 σ) (hf:ef fr σ st0.n=true) (h0:I st0)
   (round:∀st',I st'->body st' (λe st''=>match e with| .normal=>he st'' (λstg=>∃stw σ,di stg stw σ/\ef fr σ stw.n=true/\I stw/\μ stw<μ st')|e=>Q e st'')):ph fr body st Q
def ni{a:Type}(P:a->Prop):List a->Prop
 |[]=>True
 |x::l=>P x/\ni P l
def mn(C:a5)(R:FuncId->List AV->AV->Prop)(ops:Array Oper)(next:Array Bool->a4->Prop)(listed:Array Bool)(t:Nat->AV)(h:AH)(n i:Nat):Prop:=
 match ops[i]? with
 |some o=>xG C R ops.toList o (n+i) t h (λx h'=>next (listed.setIfInBounds i true) ⟨Aa t o.dst x,h',n⟩)
 |none=>False
def Wx(C:a5)(R:FuncId->List AV->AV->Prop)(ops:Array Oper)(K:a4->Prop):Nat->Array Bool->a4->Prop
 |0,listed,st=>Region.ready .any ops listed=[]∧K {st with n:=st.n+ops.size}
 |fuel+1,listed,st=>Region.ready .any ops listed≠[]∧ni (mn C R ops (Wx C R ops K fuel) listed st.t st.h st.n) (Region.ready .any ops listed)
def zz(l:List Oper):Bool:=(l.any λo=>match o.op with| .store _ _ _=>true|_=>false)&&l.any λo=>(match o.op with| .load _ _=>true|_=>false)&&o.after.toList.any λe=>match e.ground with| .gcOnly _=>true|_=>false
def pZ:Op->Bool
 | .load _ _| .store _ _ _| .indexAddr _ _ _| .slice _ _ _ _ _| .convert _ _ _| .call _=>true
 |_=>false
def lZ:Op->Bool
 | .store _ _ _=>true
 | .call ⟨.builtin .append,_,_⟩| .call ⟨.builtin .copy,_,_⟩=>true
 |_=>false
def PW(acc:List Nat):List Edge->Nat->Nat
 |[],m=>m
 |e::a,m=>PW acc a (match Region.binds .any e with|true=>m ||| 2 ^ e.on ||| acc.getD e.on 0|false=>m)
def yV:List Oper->List Nat->List Nat
 |[],a=>a
 |o::rest,a=>yV rest (a++[PW a o.after.toList 0])
def DJ:List Operand->List Nat
 |[]=>[]
 | .tmp i::l=>i::DJ l
 |_::l=>DJ l
def pA(l:List Oper)(o:Oper):List Nat:=o.dst.toList++DJ o.op.operands.toList++(match o.guard with|some (g,_)=>((l[g]?).bind (·.dst)).toList|none=>[])
def JN(a:List Nat)(i j:Nat):Bool:=(a.getD j 0).testBit i||(a.getD i 0).testBit j
def JO(l :List Oper):Bool:=
  (List.range l.length).all λj=>match l[j]? with
    |none=>true
    | some a=>
      (a.after.toList.all λe=> !Region.binds .any e||Nat.blt e.on j)&&
      (List.range l.length).all λi=>match l[i]? with
        |none=>true
        | some b=>i==j||
          ((match b.dst with|none=>true|some d=> !(pA l a).contains d||JN (yV l []) i j)&&
           (!(lZ b.op&&pZ a.op)||JN (yV l []) i j))
def FN(l:List Oper):Bool:=zz l|| !JO l
mutual
def jA:AV->List Nat
 | .ptr s _=>[s]
 | .x s _ _=>[s]
 | .X s _ _ _=>[s]
 | .agg c=>zO c
 | .F c=>zO c
 | .a _ a b=>zO a++zO b
 | .ZY _ x=>jA x
 |_=>[]
def zO:List AV->List Nat
 |[]=>[]
 |x::a=>jA x++zO a
end
def oV(t:Nat->AV)(o:Oper):List Nat:=(DJ o.op.operands.toList).flatMap λi=>jA (t i)
def meets(a b:List Nat):Bool:=a.any λx=>b.any λy=>Nat.beq x y
def HQ(l :List Oper)(c:Nat->AV):Bool:=
  (List.range l.length).all λj=>match l[j]? with
    |none=>true
    | some a=>
      ((a.after.toList.all λe=> !Region.binds .any e||Nat.blt e.on j)&&
       (!pZ a.op||(l.drop j).all λo=>match o.dst with|none=>true|some d=> !(DJ a.op.operands.toList).contains d))&&
      (List.range l.length).all λi=>match l[i]? with
        |none=>true
        | some b=>i==j||
          ((match b.dst with|none=>true|some d=> !(pA l a).contains d||JN (yV l []) i j)&&
           (!(lZ b.op&&pZ a.op&&meets (oV c b) (oV c a))||JN (yV l []) i j))
def eA(C:a5)(R:FuncId->List AV->AV->Prop):Code->a4->(c8->a4->Prop)->Prop
 | .skip,st,Q=>Q .normal st
 | .label _,st,Q=>Q .normal st
 | .region _ ops dr,st,Q=>match dr&&FN ops.toList with
  |true=>Wx C.ZZ R ops (Q .normal) ops.size (Array.replicate ops.size false) st∨(C.lt=true∧jS C.ZZ R ops.toList ops.toList 0 st (λf=>HQ ops.toList f.t=true∧Q .normal f))
  |false=>jS (C.ZD dr) R ops.toList ops.toList 0 st (Q .normal)
 | .seq a b,st,Q=>eA C R a st (λe f=>match e with| .normal=>eA C R b f Q|e=>Q e f)∨eA C R a st (λe f=>match e with| .normal=>he f (λg=>eA C R b g Q)|e=>Q e f)∨eA C R a st (λe f=>match e with| .normal=>he f (λg=>r8 C.fr g (λk=>eA C R b k Q))|e=>Q e f)
 | .cond c x y,st,Q=>match bi C st.t c with| .v (.bool b)=>np b (eA C R x st Q) (eA C R y st Q)|_=>False
 | .block id b,st,Q=>eA C R b st (λe f=>match e with| .exit i=>(match Nat.beq i id with|true=>Q .normal f|false=>Q (.exit i) f)|e=>Q e f)
 | .loop b,st,Q=>ph C.fr (eA C R b) st Q
 | .exit id,st,Q=>Q (.exit id) st
 | .ret,st,Q=>Q .ret st
 |_,_,_=>False
def gx(C:a5)(st:a4):List ResultVar->Option (List AV)
 |[]=>some []
 | .tmp t::rest=>match gx C st rest with|some r=>some (st.t t::r)|none=>none
 | .cell a t::rest=>
  match st.t a,gx C st rest with
  | .ptr b c,some r=>match st.h b with|some (.box cells)=>(match HI C t cells.length c cells with|some x=>some (x::r)|none=>none)|_=>none
  |_,_=>none
def Dp:List AV->AV
 |[x]=>x
 |xs=>.F xs
def gj:List AV->Nat->AV
 |[],_=>.any
 |x::_,0=>x
 |_::a,n+1=>gj a n
section
variable {C:a5}{R:FuncId->List AV->AV->Prop}{all rest:List Oper}{o:Oper}{j n:Nat}{t:Nat->AV}{h h':AH}{K:a4->Prop}{Q:c8->a4->Prop}{x:AV}{d:Nat}
def A'{a:Nat}(e:n+j=a)(k:K ⟨t,h,a⟩):jS C R all [] j ⟨t,h,n⟩ K:=by subst e;exact k
def b'(b:o.guard=none)(a:o.dst=some d)(c:bj C (bi C t) h (n+j) o.op=.ok x)(k:jS C R all rest (j+1) ⟨an t d x,h,n⟩ K):jS C R all (o::rest) j ⟨t,h,n⟩ K:=by
 simp only[jS,xG,b,c,i',a,Aa];exact k
def bO{p:Prop}(b:o.guard=none)(a:o.dst=some d)(c:bj C (bi C t) h (n+j) o.op=.Z9 p x)(hp:p)(k:jS C R all rest (j+1) ⟨an t d x,h,n⟩ K):jS C R all (o::rest) j ⟨t,h,n⟩ K:=by
 simp only[jS,xG,b,c,i',a,Aa];exact .mk (λ_=>hp) k
def eo{p:Prop}(b:o.guard=none)(a:o.dst=some d)(c:bj C (bi C t) h (n+j) o.op=.fx p x h')(hp:p)(k:jS C R all rest (j+1) ⟨an t d x,h',n⟩ K):jS C R all (o::rest) j ⟨t,h,n⟩ K:=by
 simp only[jS,xG,b,c,i',a,Aa];exact .mk (λ_=>hp) k
def Ow{p:Prop}(b:o.guard=none)(a:o.dst=none)(c:bj C (bi C t) h (n+j) o.op=.fx p x h')(hp:p)(k:jS C R all rest (j+1) ⟨t,h',n⟩ K):jS C R all (o::rest) j ⟨t,h,n⟩ K:=by
 simp only[jS,xG,b,c,i',a,Aa];exact .mk (λ_=>hp) k
def fU{f:FuncId}{args:List AV}(bs:AV->AH->Prop)(c:o.guard=none)(b:o.dst=some d)(e:bj C (bi C t) h (n+j) o.op=.call f args)(a:C.H f args h (n+j) bs)(k:∀x h',bs x h'->jS C R all rest (j+1) ⟨an t d x,h',n⟩ K):jS C R all (o::rest) j ⟨t,h,n⟩ K:=by
 simp only[jS,xG,c,e,i',b,Aa];exact .inr (.mk bs a k)
def zE{f:FuncId}{args:List AV}(g:o.guard=none)(c:o.dst=some d)(m:bj C (bi C t) h (n+j) o.op=.call f args)(a:eW (rO h args)=true)(e:oU args=true∨(CQ x=true∧jV h args))(l:eP x=true)(b:R f (rO h args) x)(k:jS C R all rest (j+1) ⟨an t d x,h,n⟩ K):jS C R all (o::rest) j ⟨t,h,n⟩ K:=by
 simp only[jS,xG,g,m,i',c,Aa];exact .inl (.mk x a e l (λ_=>b) k)
def SV{p:Prop}{rows:List (List AV)}(l:List UInt8)(b:o.guard=none)(a:o.dst=some d)(e:bj C (bi C t) h (n+j) o.op=.str p rows)(hp:p)(c:gU rows=some l)(k:jS C R all rest (j+1) ⟨an t d (.v (.string ⟨l.toArray⟩)),h,n⟩ K):jS C R all (o::rest) j ⟨t,h,n⟩ K:=by
 simp only[jS,xG,b,e,i',a,Aa];exact .mk l (λ_=>⟨hp,c⟩) k
def FO{rows:List (List AV)}{i:Int}{f:List AV->Option AV}(row:List AV)(c:o.guard=none)(a:o.dst=some d)(g:bj C (bi C t) h (n+j) o.op=.idx rows i f)(e:0<=i∧rows[i.toNat]?=some row)(b:f row=some x)(k:jS C R all rest (j+1) ⟨an t d x,h,n⟩ K):jS C R all (o::rest) j ⟨t,h,n⟩ K:=by
 simp only[jS,xG,c,g,i',a,Aa];exact .mk row (λ_=>e) (by rw[b];exact k)
def nM{rows:List (List AV)}{i:Int}{f:List AV->Option AH}(row:List AV)(c:o.guard=none)(a:o.dst=none)(g:bj C (bi C t) h (n+j) o.op=.ZS rows i f)(e:0<=i∧rows[i.toNat]?=some row)(b:f row=some h')(k:jS C R all rest (j+1) ⟨t,h',n⟩ K):jS C R all (o::rest) j ⟨t,h,n⟩ K:=by
 simp only[jS,xG,c,g,i',a,Aa];exact .mk row (λ_=>e) (by rw[b];exact k)
def xm{i e:Nat}{a g:Bool}(m:o.guard=some (i,a))(l:(all[i]?).bind (·.dst)=some e)(b:Ad (t e) a=some g)(c:hU t o.op=none)(f:o.dst=some d)(p:bj C (bi C t) h (n+j) o.op=.ok x)(k:jS C R all rest (j+1) ⟨an t d (.ZY g x),h,n⟩ K):jS C R all (o::rest) j ⟨t,h,n⟩ K:=by
 simp only[jS,xG,m,l,b,c,p,DH,f,Aa];exact .inl k
def tw{i e:Nat}{a g c:Bool}(p:o.guard=some (i,a))(m:(all[i]?).bind (·.dst)=some e)(b:Ad (t e) a=some g)(f:hU t o.op=some c)(q:g=true->c=true)(l:o.dst=some d)(r:bj C (gv C t o.op) h (n+j) o.op=.ok x)(k:jS C R all rest (j+1) ⟨an t d (.ZY g x),h,n⟩ K):jS C R all (o::rest) j ⟨t,h,n⟩ K:=by
 simp only[jS,xG,p,m,b,f,r,DH,l,Aa];exact .mk q k
def pB{p:Prop}{i e:Nat}{a g c:Bool}(q:o.guard=some (i,a))(m:(all[i]?).bind (·.dst)=some e)(b:Ad (t e) a=some g)(f:hU t o.op=some c)(r:g=true->c=true)(l:o.dst=some d)(s:bj C (gv C t o.op) h (n+j) o.op=.Z9 p x)(hp:g=true->p)(k:jS C R all rest (j+1) ⟨an t d (.ZY g x),h,n⟩ K):jS C R all (o::rest) j ⟨t,h,n⟩ K:=by
 simp only[jS,xG,q,m,b,f,s,DH,l,Aa];exact .mk r (.mk hp k)
def ii{f:FuncId}{args:List AV}{i e:Nat}{a g:Bool}(r:o.guard=some (i,a))(p:(all[i]?).bind (·.dst)=some e)(c:Ad (t e) a=some g)(l:hU t o.op=none)(m:o.dst=some d)(u:bj C (bi C t) h (n+j) o.op=.call f args)(b:eW (rO h args)=true)(q:oU args=true∨(CQ x=true∧jV h args))(s:eP x=true)(hp:g=true->R f (rO h args) x)(k:jS C R all rest (j+1) ⟨an t d (.ZY g x),h,n⟩ K):jS C R all (o::rest) j ⟨t,h,n⟩ K:=by
 simp only[jS,xG,r,p,c,l,u,DH,m,Aa];exact .inl (.mk x b q s hp k)
def jQ{f:FuncId}{args:List AV}{i e:Nat}{a g c:Bool}(s:o.guard=some (i,a))(q:(all[i]?).bind (·.dst)=some e)(l:Ad (t e) a=some g)(m:hU t o.op=some c)(v:g=true->c=true)(p:o.dst=some d)(y:bj C (gv C t o.op) h (n+j) o.op=.call f args)(b:eW (rO h args)=true)(r:oU args=true∨(CQ x=true∧jV h args))(u:eP x=true)(hp:g=true->R f (rO h args) x)(k:jS C R all rest (j+1) ⟨an t d (.ZY g x),h,n⟩ K):jS C R all (o::rest) j ⟨t,h,n⟩ K:=by
 simp only[jS,xG,s,q,l,m,y,DH,p,Aa];exact .mk v (.mk x b r u hp k)
def DK{rows:List (List AV)}{q:Int}{f:List AV->Option AV}(row:List AV){i e:Nat}{a g c:Bool}(s:o.guard=some (i,a))(p:(all[i]?).bind (·.dst)=some e)(b:Ad (t e) a=some g)(l:hU t o.op=some c)(u:g=true->c=true)(m:o.dst=some d)(v:bj C (gv C t o.op) h (n+j) o.op=.idx rows q f)(hp:g=true->0<=q∧rows[q.toNat]?=some row)(r:f row=some x)(k:jS C R all rest (j+1) ⟨an t d (.ZY g x),h,n⟩ K):jS C R all (o::rest) j ⟨t,h,n⟩ K:=by
 simp only[jS,xG,s,p,b,l,v,DH,m,Aa];exact .mk u (.mk row hp (by rw[r];exact k))
def uR{a b:Code}{st:a4}(k:eA C R a st (λe c=>match e with| .normal=>eA C R b c Q|e=>Q e c)):eA C R (.seq a b) st Q:=.inl k
def FP{a b:Code}{st:a4}(k:eA C R a st (λe c=>match e with| .normal=>he c (λf=>eA C R b f Q)|e=>Q e c)):eA C R (.seq a b) st Q:=.inr (.inl k)
def zk{κ:Type}(S:κ->a4)(G:κ->Prop){a b:Code}{st:a4}(y:eA C R a st (λe f=>match e with| .normal=>he f (λm=>∃k σ,di m (S k) σ∧ef C.fr σ (S k).n=true∧G k)|e=>Q e f))(z:∀k,G k->eA C R b (S k) Q)
  (l:∀(c:Code) (st:a4) (Q p:c8->a4->Prop),(∀e st,Q e st->p e st)->eA C R c st Q->eA C R c st p):eA C R (.seq a b) st Q:=by
 refine .inr (.inr (l a st _ _ (λe f q=>?_) y))
 cases e with
 |normal=>obtain⟨r,g,k,σ,s,u,v⟩:=q;exact .mk r g (.mk (S k) σ s u (z k v))
 |exit i=>exact q
 |ret=>exact q
def mF{st:a4}(k:Q .normal st):eA C R .skip st Q:=k
def Wz{id:Nat}{ops:Array Oper}{l:List Oper}{dr:Bool}{st:a4}(b:ops.toList=l)(k:jS (C.ZD dr) R l l 0 st (Q .normal))(a:(dr&&FN l)=false:=by kernel_rfl):eA C R (.region id ops dr) st Q:=by
 subst b;simp only[eA,a];exact k
def pO{id:Nat}{ops:Array Oper}{l:List Oper}{dr:Bool}{st:a4}(e:ops.toList=l)(b:C.lt=true)(k:jS C.ZZ R l l 0 st (λa=>HQ l a.t=true∧Q .normal a))(c:(dr&&FN l)=true:=by kernel_rfl):eA C R (.region id ops dr) st Q:=by
 subst e;simp only[eA,c];exact .inr ⟨b,k⟩
section
variable {ops:Array Oper}{next:Array Bool->a4->Prop}{listed:Array Bool}{i:Nat}
end
def aV{c:Operand}{a b:Code}{v:Bool}(e:bi C t c=.v (.bool v))(f:v=true->eA C R a ⟨t,h,n⟩ Q)(g:v=false->eA C R b ⟨t,h,n⟩ Q):eA C R (.cond c a b) ⟨t,h,n⟩ Q:=by
 simp only[eA,e];exact .mk f g
def kO{id:Nat}{b:Code}{st:a4}(k:eA C R b st (λe a=>match e with| .exit i=>(match Nat.beq i id with|true=>Q .normal a|false=>Q (.exit i) a)|e=>Q e a)):eA C R (.block id b) st Q:=k
def Bh{id:Nat}{st:a4}(k:Q (.exit id) st):eA C R (.exit id) st Q:=k
def FQ{st:a4}(k:Q .ret st):eA C R .ret st Q:=k
end
inductive av(S:Nat->Prop)(w:World):Bt->AV->Value->Prop
 |v {β:Bt} (x:Value):av S w β (.v x) x
 |agg {β:Bt} (cs:List AV) (vs:Array Value) (hl:cs.length=vs.size) (h1:∀(i:Nat) u,vs[i]?=some u->u.oneCell'=true) (h:∀(i:Nat) a u,cs[i]?=some a->vs[i]?=some u->av S w β a u):av S w β (.agg cs) (.agg vs)
 |F {β:Bt} (cs:List AV) (vs:Array Value) (hl:cs.length=vs.size) (h:∀(i:Nat) a u,cs[i]?=some a->vs[i]?=some u->av S w β a u):av S w β (.F cs) (.tuple vs)
 | Y {β:Bt} (rs:Nat) (rows:List (List AV)) (clip:Bool) (A:Option Addr) (c b o:Nat) (u:Nat->Nat->Value) (hc:rows.length<=c) (hm:c<=maxLen) (hcl:clip=true->c=rows.length)
   (hrs:∀row∈rows,row.length=rs) (hA:0<rows.length->A=some ⟨b,o,none⟩/\S b)
   (hw:∀(i:Nat) row (j:Nat) a,rows[i]?=some row->row[j]?=some a->w.cell? ⟨b,o+i*rs+j,none⟩=some (u i j))
   (h1:∀i j,(u i j).oneCell'=true)
   (hr:∀(i:Nat) row (j:Nat) a,rows[i]?=some row->row[j]?=some a->av S w cy a (u i j)):av S w β (.Y rs rows clip) (.slice A rows.length c)
 | k {β:Bt} (rs col:Nat) (row:List AV) (b o:Nat) (u:Nat->Value) (hrs:row.length=rs) (hb:S b) (hw:∀(j:Nat) a,row[j]?=some a->w.cell? ⟨b,o+j,none⟩=some (u j))
   (h1:∀j,(u j).oneCell'=true)
   (hr:∀(j:Nat) a,row[j]?=some a->av S w cy a (u j)):av S w β (.k rs col row) (.pointer (some ⟨b,o+col,none⟩))
 |ptr {β:Bt} (s col:Nat) (l:Loc) (hl:β s=some l):av S w β (.ptr s col) (.pointer (some ⟨l.l,l.base+col,none⟩))
 |x {β:Bt} (s row col:Nat) (l:Loc) (hl:β s=some l):av S w β (.x s row col) (.pointer (some ⟨l.l,l.base+row*l.rs+col,none⟩))
 | X {β:Bt} (s lo len:Nat) (clip:Bool) (l:Loc) (A:Option Addr) (c:Nat) (hl:β s=some l) (hc:len<=c) (hm:c<=maxLen) (hcl:clip=true->c=len) (hA:0<c->A=some ⟨l.l,l.base+lo*l.rs,none⟩)
   (cs:Array Value) (e:TypeId) (fr:Nat×Nat) (hb:w.heap[l.l]?=some (.cells cs e fr)) (room:l.base+(lo+c)*l.rs<=cs.size):av S w β (.X s lo len clip) (.slice A len c)
 | a {β:Bt} (f:FuncId) (first caps:List AV) (vs us:Array Value) (hl:first.length=vs.size) (h:∀(i:Nat) a u,first[i]?=some a->vs[i]?=some u->av S w β a u)
   (hl':caps.length=us.size) (h':∀(i:Nat) a u,caps[i]?=some a->us[i]?=some u->av S w β a u):av S w β (.a f first caps) (.func (.func f) vs us)
 |Zr {β:Bt} (g:Bool) (a:AV) (x:Value) (hg:g=true) (h:av S w β a x):av S w β (.ZY g a) x
 |Zm {β:Bt} (g:Bool) (a:AV) (hg:g=false):av S w β (.ZY g a) undef
 |any {β:Bt} (x:Value):av S w β .any x
def fJ{w:World}{b:Nat}{o:Obj}(h:w.heap[b]?=some o):b<w.heap.size:=by
 rcases fb b w.heap.size with k|k
 .exact k
 rw[iE k]at h;cases h
structure cp(S:Nat->Prop)(w w':World):Prop where
 ZK:∀b,S b->w'.heap[b]?=w.heap[b]?
 shape:∀(b:Nat) (cs:Array Value) (e:TypeId) (fr:Nat×Nat),w.heap[b]?=some (Obj.cells cs e fr)->∃cs':Array Value,w'.heap[b]?=some (Obj.cells cs' e fr)/\cs'.size=cs.size
theorem cp.refl(S:Nat->Prop)(w:World):cp S w w:=⟨λ_ _=>rfl,λ_ a _ _ h=>⟨a,h,R⟩⟩
theorem cp.trans{S g:Nat->Prop}{a b c:World}(h:cp S a b)(v:∀x,S x->g x)(k:cp g b c):cp S a c:=
 ⟨λx f=>(k.ZK x (v x f)).trans (h.ZK x f),λx p e l f=>by
  obtain⟨m,q,r⟩:=h.shape x p e l f;obtain⟨c2,s,u⟩:=k.shape x m e l q;exact⟨c2,s,u.trans r⟩⟩
theorem cp.ZQ{S:Nat->Prop}{w w':World}(h:∀b,b<w.heap.size->w'.heap[b]?=w.heap[b]?)(e:∀b,S b->b<w.heap.size):cp S w w':=
 ⟨λb a=>h b (e b a),λb c _ _ a=>⟨c,(h b (fJ a)).trans a,R⟩⟩
def ME(β a:Bt):Prop:=∀s l,β s=some l->a s=some l
theorem ME.refl(β:Bt):ME β β:=λ_ _ h=>h
theorem ME.trans{a b c:Bt}(h:ME a b)(k:ME b c):ME a c:=λs l x=>k s l (h s l x)
def uC{w w':World}{b o:Nat}(h:w'.heap[b]?=w.heap[b]?):w'.cell? ⟨b,o,none⟩=w.cell? ⟨b,o,none⟩:=by simp only[World.cell?,h]
theorem av.mono{S r:Nat->Prop}{w w':World}{β:Bt}{a:AV}{x:Value}(h:av S w β a x)(D:∀b,S b->r b)(q:cp S w w'):∀{k:Bt},ME β k->av r w' k a x:=by
 induction h with
 |v x=>intro k _;exact .v x
 |agg cs vs hl z h ih=>intro k hb;exact .agg cs vs hl z λi a dr z m=>ih i a dr z m hb
 |F cs vs hl h ih=>intro k hb;exact .F cs vs hl λi a dr z m=>ih i a dr z m hb
 |Y rs rows b4 gf c b o dr hc hm c0 c' hA hw z hr ih=>
  intro k _;refine .Y rs rows b4 gf c b o dr hc hm c0 c' (λp=>⟨(hA p).1,D _ (hA p).2⟩) (λi row j a z m=>?_) z λi row j a z m=>ih i row j a z m (ME.refl _);have p:0<rows.length:=bL (aE i) (Em.1 z).1;rw[uC (q.ZK b (hA p).2)]
  exact hw i row j a z m
 |k rs bb row b o dr c' hb hw z hr ih=>
  intro k _
  exact .k rs bb row b o dr c' (D _ hb) (λj a z=>by rw[uC (q.ZK b hb)];exact hw j a z) z λj a z=>ih j a z (ME.refl _)
 |ptr s bb l hl=>intro k hb;exact .ptr s bb l (hb _ _ hl)
 |x s row bb l hl=>intro k hb;exact .x s row bb l (hb _ _ hl)
 |X s lo len b4 l gf c hl hc hm c0 hA cs e ha hb em=>
  intro k E;obtain⟨y,z,m⟩:=q.shape _ _ _ _ hb
  exact .X s lo len b4 l gf c (E _ _ hl) hc hm c0 hA y e ha z (by rw[m];exact em)
 |a f first ds vs us hl h fs h' ih fz=>intro k hb;exact .a f first ds vs us hl (λi a dr z m=>ih i a dr z m hb) fs λi a dr z m=>fz i a dr z m hb
 |Zr g a x hg h ih=>intro k hb;exact .Zr g a x hg (ih hb)
 |Zm g a hg=>intro k _;exact .Zm g a hg
 |any x=>intro k _;exact .any x
def b6(S:Nat->Prop)(w:World)(β:Bt)(b:List AV)(c:List Value):Prop:=b.length=c.length/\∀(i:Nat) a u,b[i]?=some a->c[i]?=some u->av S w β a u
theorem b6.nil(S:Nat->Prop)(w:World)(β:Bt):b6 S w β [] []:=⟨R,λi a u h=>by simp at h⟩
theorem b6.cons{S:Nat->Prop}{w:World}{β:Bt}{a:AV}{u:Value}{e:List AV}{f:List Value}(h:av S w β a u)(k:b6 S w β e f):b6 S w β (a::e) (u::f):=
 ⟨by simp[k.1],λi g l b c=>by
  cases i with
  |zero=>simp at b c;subst b c;exact h
  |succ i=>simp at b c;exact k.2 i g l b c⟩
def Bf(S:Nat->Prop)(w:World)(β:Bt)(l:Loc)(b:Array Value):a'->Prop
 | .box cells=>∀(j:Nat) a,cells[j]?=some a->∃u,b[l.base+j]?=some u/\u.oneCell'=true/\av S w β a u
 | .arr rows rs=>l.rs=rs/\(∀row∈rows,row.length=rs)/\∀(i:Nat) row (j:Nat) a,rows[i]?=some row->row[j]?=some a->∃u,b[l.base+i*rs+j]?=some u/\u.oneCell'=true/\av S w cy a u
 | .row cells=>l.rs=1/\∀(j:Nat) a,cells[j]?=some a->∃u,b[l.base+j]?=some u/\u.oneCell'=true/\av S w β a u
structure c3(B:Nat)(S:Nat->Prop)(w:World)(β:Bt)(h:AH):Prop where
 own:∀s blk,h s=some blk->∃l cs e fr,β s=some l/\w.heap[l.l]?=some (.cells cs e fr)/\(∀o,o<cs.size->(decide (fr.1<=o)&&decide (o<fr.2))=false)/\B<=l.l/\ ¬S l.l/\Bf S w β l cs blk
 inj:∀s s' l l',h s≠none->h s'≠none->β s=some l->β s'=some l'->l.l=l'.l->s=s'
 lt:∀b,S b->b<w.heap.size
 ZT:B<=w.heap.size
theorem Bf.mono{S k:Nat->Prop}{w w':World}{β e:Bt}{l:Loc}{m:Array Value}{blk:a'}(h:Bf S w β l m blk)(g:∀b,S b->k b)(f:cp S w w')(p:ME β e):Bf k w' e l m blk:=by
 cases blk with
 |box cells=>exact λj a c=>let ⟨bb,z,h4,h3⟩:=h j a c;⟨bb,z,h4,h3.mono g f p⟩
 |arr rows rs=>exact⟨h.1,h.2.1,λi row j a c z=>let ⟨bb,h3,b4,h4⟩:=h.2.2 i row j a c z;⟨bb,h3,b4,h4.mono g f (ME.refl _)⟩⟩
 |row cells=>exact⟨h.1,λj a c=>let ⟨bb,z,h4,h3⟩:=h.2 j a c;⟨bb,z,h4,h3.mono g f p⟩⟩
def gP{w:World}{b:Nat}{a:Array Value}{e:TypeId}{c:Nat×Nat}(h:w.heap[b]?=some (.cells a e c))(o:Nat):w.cell? ⟨b,o,none⟩=a[o]? :=by simp[World.cell?,h]
def vP{w:World}{b:Nat}{a:Array Value}{e:TypeId}{c:Nat×Nat}(h:w.heap[b]?=some (.cells a e c))(f:∀o,o<a.size->(decide (c.1<=o)&&decide (o<c.2))=false)(o:Nat)(g:o<a.size):w.frozen? ⟨b,o,none⟩=false:=by
 simp only[World.frozen?,h];exact f o g
structure gy(B:Nat)(S:Nat->Prop)(w:World)(β:Bt)(s:Nat)(S':Nat->Prop)(w':World)(β':Bt):Prop where
 hS:∀b,S b->S' b
 hE:cp S w w'
 hB:Below B w w'
 hle:ME β β'
 Ze:∀x l,β' x=some l->β x=some l\/(x=s/\(w.heap.size<=l.l\/∃y k,β y=some k/\k.l=l.l))
 hN:∀b,S' b->S b\/(B<=b/\(w.heap.size<=b\/∃y k,β y=some k/\k.l=b))
 hO:∀b,b<w.heap.size->(∀y k,β y=some k->k.l≠b)->w'.heap[b]?=w.heap[b]?
structure Inv(fr:Nat) where
 p:(Nat->Prop)->World->Bt->Prop
 mono:∀{B:Nat} {S:Nat->Prop} {w:World} {β:Bt} {s:Nat} {S':Nat->Prop} {w':World} {β':Bt},p S w β->gy B S w β s S' w' β'->p S' w' β'
 Zd:∀{S:Nat->Prop} {w:World} {β:Bt} {σ:Nat->Nat} {n:Nat},p S w β->ef fr σ n=true->p S w (λs=>if s<n then β (σ s)else none)
 Y2:∀{S:Nat->Prop} {w:World} {β:Bt} {x:Nat} {l:Loc},p S w β->β x=some l->p (λb=>S b\/b=l.l) w β
 heap:∀{S:Nat->Prop} {w w':World} {β:Bt},p S w β->w'.heap=w.heap->p S w' β
def Inv.any(a:Nat):Inv a:=⟨λ_ _ _=>True,λ_ _=>trivial,λ_ _=>trivial,λ_ _=>trivial,λ_ _=>trivial⟩
def tv(G:Nat->Option (List AV))(S:Nat->Prop)(w:World):Prop:=∀g cells,G g=some cells->av S w cy (.k cells.length 0 cells) (.pointer (some ⟨g,0,none⟩))
def pM(P:Program)(G:Nat->Option (List AV))(f:FuncId)(args:List AV)(h:AH)(s:Nat)(bs:AV->AH->Prop):Prop:=
 (∃ c,P.funcs[f]?=some c/\c.body.isSome=true/\(c.name== "runtime.NumGoroutine")=false)/\
 ∀(B:Nat) (S:Nat->Prop) (w:World) (β:Bt) (g:List Value),c3 B S w β h->(∀x l,β x=some l->x<s)->tv G S w->b6 S w β args g->
  Calls P f g.toArray w λe w'=>∃v b a r h',bs r h'/\e=.returned v/\av b w' a r v/\c3 B b w' a h'/\gy B S w β s b w' a
structure jw(S:Nat->Prop)(w:World)(β:Bt)(cs:List AV)(vs:List Value):Prop where
 ZX:b6 S w β cs vs
 one:∀(i:Nat) u,vs[i]?=some u->u.oneCell'=true
theorem Ht:∀(l:List AV) (n:Nat),Lg l n=l[n]?
 |[],n=>by simp[Lg]
 |x::l,0=>by simp[Lg]
 |x::l,n+1=>by simp[Lg,Ht l n]
theorem Hu:∀(n:Nat) (l:List AV),HD n l=l.take n
 |0,l=>by simp[HD]
 |n+1,[]=>by simp[HD]
 |n+1,x::l=>by simp[HD,Hu n l]
theorem Hv:∀(n:Nat) (l:List AV),FK n l=l.drop n
 |0,l=>by simp[FK]
 |n+1,[]=>by simp[FK]
 |n+1,x::l=>by simp[FK,Hv n l]
theorem Hw:∀(l:List (Nat×TypeId)) (n:Nat),PU l n=l[n]?
 |[],n=>by simp[PU]
 |x::l,0=>by simp[PU]
 |x::l,n+1=>by simp[PU,Hw l n]
theorem vO:∀(n:Nat) (a l:List AV),n+a.length<=l.length->(zS n a l).length=l.length
 |0,[],l,_=>by simp[zS]
 |0,c::a,x::l,h=>by simp[zS,vO 0 a l (by simp at h;omega)]
 |0,c::a,[],h=>by simp at h
 |n+1,a,x::l,h=>by simp[zS,vO n a l (by simp at h;omega)]
 |n+1,a,[],h=>by simp at h
theorem BQ:∀(n:Nat) (a l:List AV) (j:Nat),n+a.length<=l.length->(zS n a l)[j]?=if n<=j/\j<n+a.length then a[j-n]? else l[j]?
 |0,[],l,j,_=>by simp[zS]
 |0,c::a,x::l,0,h=>by simp[zS]
 |0,c::a,x::l,j+1,h=>by
  simp[zS,BQ 0 a l j (by simp at h;omega)]
 |0,c::a,[],j,h=>by simp at h
 |n+1,a,x::l,0,h=>by simp[zS]
 |n+1,a,x::l,j+1,h=>by
  simp only[zS,dL,BQ n a l j (by simp at h;omega)];have:j+1-(n+1)=j-n:=oT;rw[this];by_cases b:n<=j/\j<n+a.length
  .rw[aa b,aa oT]
  .rw[dZ b,dZ oT]
 |n+1,a,[],j,h=>by simp at h
def ma:CK->Value->Value->Option Bool
 | .i,.int k a,.int c b=>match yU k c with|true=>some (a==b)|false=>none
 | .b,.bool a,.bool b=>some (a==b)
 | .s,.string a,.string b=>some (a==b)
 |_,_,_=>none
def fp:List CK->List Value->List Value->Option Bool
 |[],[],[]=>some true
 |k::c,x::e,y::f=>match ma k x y,fp c e f with|some a,some b=>some (a&&b)|_,_=>none
 |_,_,_=>none
def mj(P:Program)(t:TypeId)(e:List CK):Prop:=∀(a c:Array Value) (b:Bool) (x y:Operand) (w:World),fp e a.toList c.toList=some b->
 (do eqGuard .eql t x y (.agg a) (.agg c);binOp .eql t (.agg a) (.agg c):Sem Value).run P w=.ok (.bool b) w/\
 (do eqGuard .neq t x y (.agg a) (.agg c);binOp .neq t (.agg a) (.agg c):Sem Value).run P w=.ok (.bool (!b)) w
structure mh(P:Program)(t:TypeId)(i:TI):Prop where
 ZR:∃inf z,P.info? t=some inf/\inf.size=i.j/\inf.bytes=i.bytes/\inf.zero=some z/\i.zero=Pq z/\z.cells.size=i.j/\0<i.j/\i.bytes<=1000
 one:∀inf z,P.info? t=some inf->inf.zero=some z->∀(k:Nat) u,z.cells[k]?=some u->u.oneCell'=true
 ag:∃d,P.underlying t=some d/\d.isRow=i.ag
 kd:match i.kd with
  | .bool=>P.underlying t=some .bool
  | .int k=>P.underlying t=some (.int k)
  | .string=>P.underlying t=some .string
  | .slice e=>P.underlying t=some (.slice e)
  | .array n e=>P.underlying t=some (.array n e)
  | .struct fs=>∃fields,P.underlying t=some (.struct fields)/\fields.toList.map (λf=>(f.offset,f.type))=fs/\∀f∈fields.toList,∃inf,P.info? f.type=some inf/\inf.size≠0
  |_=>True
 eq:i.eq≠[]->mj P t i.eq
structure cb(C:a5):Prop where
 ty:∀t i,C.ty t=some i->mh C.P t i
 mixed:C.P.follows .mixedOrders=true
 hH:∀f args h s bs,C.H f args h s bs->pM C.P C.G f args h s bs
def hM(P:Program)(S:Nat->Prop)(w:World)(β:Bt)(x:AV)(r:Sem Value):Prop:=∃v,r.run P w=.ok v w/\av S w β x v
def rN(P:Program)(S:Nat->Prop)(w:World)(β:Bt)(r:Sem Value):b1->Prop
 | .bad=>True
 | .ok x=>hM P S w β x r
 | .Z9 p x=>p->hM P S w β x r
 | .idx rows i f=>∀row x,0<=i->rows[i.toNat]?=some row->f row=some x->hM P S w β x r
 | .str p rows=>∀l,p->gU rows=some l->hM P S w β (.v (.string ⟨l.toArray⟩)) r
 |_=>False
section
variable {C:a5}{S:Nat->Prop}{w:World}{β:Bt}
def PP:av S w β (.Y 0 [] true) (.slice none 0 0):=
 .Y 0 [] true none 0 0 0 (λ_ _=>.bool false) (aC _) (aE _) (λ_=>rfl) (by simp) (by simp) (by simp) (λ_ _=>rfl) (by simp)
def Tp(x:Value):av S w β (ml x) x:=by
 unfold ml;split
 .exact PP
 exact .v _
theorem BR:∀(l:List Value),lA l=true->∀(i:Nat) u,l[i]?=some u->u.oneCell'=true
 |[],_,i,u,h=>by simp at h
 | v::l,h,i,u,a=>by
  simp only[lA]at h;split at h
  .rename_i b
   cases i with
   |zero=>simp at a;subst a;exact b
   |succ i=>exact BR l h i u (sU a)
  .cases h
def Hx(x:Value):av S w β (Pq x) x:=by
 unfold Pq;split
 .exact PP
 .split
  .rename_i f h;refine .agg _ _ (by simp) (λi u e=>BR _ h i u (sU e)) λi a u b c=>?_;simp only[aX,bQ,c,dF,jc]at b;subst b;exact Tp _
  exact .any _
 exact .v _
def vE{a:AV}{v:Value}{P:List AV}(h:av S w β a v)(k:kN a=some P):jw S w β P v.cells.toList:=by
 have one:∀(a:AV) (v:Value),av S w β a v->v.cells= #[v]->v.oneCell'=true->jw S w β [a] v.cells.toList:=λa v h e p=>by
  rw[e];exact⟨b6.cons h (b6.nil _ _ _),λi u E=>by
   cases i with
   |zero=>simp at E;subst E;exact p
   |succ i=>simp at E⟩
 cases h with
 | v=>
  cases v<;>simp only[kN]at k<;>first
   |(cases k;done)
   |(injection k with k;subst k;exact one _ _ (.v _) R R)
 |agg G O m p h=>
  simp only[kN]at k;injection k with k;subst k
  exact⟨⟨by simpa [Value.cells]using m,λi a u p V=>h i a u p (by simpa [Value.cells]using V)⟩,λi u E=>p i u (by simpa [Value.cells]using E)⟩
 |F G O m h=>simp[kN]at k
 |Y rs rows r A c b o u y J z D H M p L=>
  simp only[kN]at k;injection k with k;subst k
  exact one _ _ (.Y rs rows r A c b o u y J z D H M p L) R R
 |k rs q row b o u D I M p L=>
  simp only[kN]at k;injection k with k;subst k
  exact one _ _ (.k rs q row b o u D I M p L) R R
 |ptr s q l m=>simp only[kN]at k;injection k with k;subst k;exact one _ _ (.ptr s q l m) R R
 |x s row q l m=>simp only[kN]at k;injection k with k;subst k;exact one _ _ (.x s row q l m) R R
 |X s lo len r l A c m y J z H G e U I N=>
  simp only[kN]at k;injection k with k;subst k
  exact one _ _ (.X s lo len r l A c m y J z H G e U I N) R R
 |a f first F O X m h T h'=>
  simp only[kN]at k;injection k with k;subst k
  exact one _ _ (.a f first F O X m h T h') R R
 |Zr g a x W h=>simp[kN]at k
 |Zm g a W=>simp[kN]at k
 |any x=>simp[kN]at k
def uV{b:Bool}{v:Value}(h:av S w β (.v (.bool b)) v):v=.bool b:=by cases h;rfl
def lV{x v:Value}(h:av S w β (.v x) v):v=x:=by cases h;rfl
def Hy{g:Bool}{a:AV}{v:Value}(h:av S w β (.ZY g a) v)(b:g=true):av S w β a v:=by
 cases h with
 |Zr _ _ _ _ h=>exact h
 |Zm _ _ h=>rw[b]at h;cases h
def Wr{P:Program}{ac k l:AV}{q m p:Value}(e:av S w β ac q)(a:av S w β k m)(b:av S w β l p):
  rN P S w β (do pure (if<-asBool q then m else p))
   (v6 ac k l):=by
 unfold v6;split
 .rename_i c x y;cases uV e;cases uV a;cases uV b
  refine⟨_,R,?_⟩;cases c<;>exact .v _
 .rename_i c g x y;cases uV e;cases uV b
  intro f
  cases c with
  |true=>cases uV (Hy a (f R));exact⟨_,R,.v _⟩
  |false=>exact⟨_,R,.v _⟩
 .rename_i c x g y;cases uV e;cases uV a
  intro f
  cases c with
  |false=>cases uV (Hy b (f R));exact⟨_,R,.v _⟩
  |true=>exact⟨_,R,.v _⟩
 .trivial
def Tq{P:Program}(c:BinOp)(t:TypeId)(k:IntKind)(a b:Int)(h:EA c=false):rN P S w β (binOp c t (.int k a) (.int k b)) (HE c k a b):=by
 cases c<;>simp only[EA,Bool.true_eq_false]at h<;>simp only[HE,rN,binOp,ne_eq,not_true_eq_false,eE,Op.intArith,Op.intBits,Op.intCmp]<;>first
  |exact⟨_,rfl,.v _⟩
  |(intro e;simp only[Op.intDiv,e,eE];exact⟨_,R,.v _⟩)
  |trivial
def Ws{P:Program}(c:BinOp)(t:TypeId)(k f:IntKind)(a b:Int)(h:EA c=true):rN P S w β (binOp c t (.int k a) (.int f b)) (Ty c k a b):=by
 cases c<;>simp only[EA,cS]at h<;>simp only[Ty,rN,binOp]<;>(intro e;simp only[Op.shift,dZ (Int.not_lt.2 e)];exact⟨_,R,.v _⟩)
def Ey{a b:IntKind}(h:yU a b=true):a=b:=by cases a<;>cases b<;>first|rfl|(simp[yU]at h)
def PQ{P:Program}(c:BinOp)(t:TypeId)(a b:Bool)(f:P.underlying t=some .bool):rN P S w β (binOp c t (.bool a) (.bool b)) (BT c a b):=by
 have e:(Op.equal t (.bool a) (.bool b)).run P w=.ok (a==b) w:=by
  unfold Op.equal;rw[show Op.maxDepth=9999+1 from R,Op.equalIn];simp only[Sem.run_bind,run_underlying f,Result.andThen_ok,Sem.run_pure]
 cases c<;>simp only[BT,rN,binOp]<;>exact⟨_,by simp only[Sem.run_bind,e,Result.andThen_ok,Sem.run_pure],.v _⟩
def Ts{P:Program}(c:BinOp)(t:TypeId)(a b:ByteArray):rN P S w β (binOp c t (.string a) (.string b)) (HG c a b):=by
 cases c<;>simp only[HG,rN,binOp,Op.stringOp]<;>first
  |exact⟨_,rfl,.v _⟩
  |(intro e;rw[dZ (Int.not_lt.2 e)];exact⟨_,R,.v _⟩)
def Wt{k:CK}{a b:AV}{u v:Value}{r:Bool}(c:av S w β a u)(e:av S w β b v)(h:rR k a b=some r):ma k u v=some r:=by
 unfold rR at h;split at h
 .cases lV c;cases lV e;exact h
 .cases lV c;cases lV e;exact h
 .cases lV c;cases lV e;exact h
 cases h
theorem Hz:∀(l:List CK) (m s:List AV) (f g:List Value) (r:Bool),b6 S w β m f->b6 S w β s g->k9 l m s=some r->fp l f g=some r
 |[],[],[],f,g,r,c,e,h=>by
  have A:f=[]:=gq (sU c.1.symm);have D:g=[]:=gq (sU e.1.symm);subst A;subst D
  exact h
 | k::l,x::m,y::s,f,g,r,c,e,h=>by
  match f,g,c,e with
  |[],_,c,_=>simp[b6]at c
  |_::_,[],_,e=>simp[b6]at e
  | u::f,v::g,c,e=>
   simp only[k9]at h;split at h
   .rename_i a b A D;have F:=Wt (c.2 0 x u R R) (e.2 0 y v R R) A;have G:=Hz l m s f g b ⟨sU c.1,λi z E p q=>c.2 (i+1) z E (sU p) (sU q)⟩ ⟨sU e.1,λi z E p q=>e.2 (i+1) z E (sU p) (sU q)⟩ D;simp only[fp,F,G];exact h
   .cases h
 |[],_::_,_,_,_,_,_,_,h=>by simp[k9]at h
 |[],[],_::_,_,_,_,_,_,h=>by simp[k9]at h
 |_::_,[],_,_,_,_,_,_,h=>by simp[k9]at h
 |_::_,_::_,[],_,_,_,_,_,h=>by simp[k9]at h
def x1(T:cb C)(c:BinOp)(t:TypeId)(x y:Operand){O P:AV}{vx e:Value}(F:av S w β O vx)(G:av S w β P e):
  rN C.P S w β (do eqGuard c t x y vx e;binOp c t vx e) (Tz C c t O P):=by
 have f:∀(r:b1) (vx e:Value),(eqGuard c t x y vx e).run C.P w=.ok () w->rN C.P S w β (binOp c t vx e) r->rN C.P S w β (do eqGuard c t x y vx e;binOp c t vx e) r:=by
  intro r vx e E m;have g:∀z,hM C.P S w β z (binOp c t vx e)->hM C.P S w β z (do eqGuard c t x y vx e;binOp c t vx e):=by
   rintro z ⟨v,A,I⟩;exact⟨v,by simp only[Sem.run_bind,E,Result.andThen_ok,A],I⟩
  cases r<;>simp only[rN]at m⊢
  .exact g _ m
  .exact λhp=>g _ (m hp)
  .exact λrow z H A I=>g _ (m row z H A I)
  .exact λl hp H=>g _ (m l hp H)
 unfold Tz;split
 .rename_i k a V b;cases lV F;cases lV G;have E:(eqGuard c t x y (.int k a) (.int V b)).run C.P w=.ok () w:=by unfold eqGuard;cases c<;>rfl
  split
  .rename_i L;exact f _ _ _ E (Ws c t k V a b L)
  .rename_i L;split
   .rename_i Y;obtain rfl:=Ey Y;exact f _ _ _ E (Tq c t k a b L)
   .trivial
 .rename_i a b;cases lV F;cases lV G;split
  .rename_i s;have D:=(T.ty t _ s).kd;exact f _ _ _ (by unfold eqGuard;cases c<;>rfl) (PQ c t a b D)
  .trivial
 .rename_i a b;cases lV F;cases lV G;exact f _ _ _ (by unfold eqGuard;cases c<;>rfl) (Ts c t a b)
 .rename_i xs ys;split
  .rename_i s;have D:=(T.ty t _ s).eq (by simp)
   cases F with
   |agg _ M Z A h=>
   cases G with
   |agg _ N U ag h'=>
   have W:b6 S w β xs M.toList:=⟨sU Z,λi a u p q=>h i a u p (sU q)⟩;have X:b6 S w β ys N.toList:=⟨sU U,λi a u p q=>h' i a u p (sU q)⟩;split
   .rename_i b J;exact⟨_,(D M N b x y w (Hz _ _ _ _ _ _ W X J)).1,.v _⟩
   .rename_i b J;exact⟨_,(D M N b x y w (Hz _ _ _ _ _ _ W X J)).2,.v _⟩
   .trivial
  .trivial
 .trivial
theorem Bx(P:Program)(w:World)(n:Nat)(t:TypeId)(e:TypeId)(b:P.underlying t=some (.slice e))(a:Option Addr)(l c:Nat):(Op.equalIn (n+1) t (.slice a l c) (.slice none 0 0)).run P w=.ok (a.isNone) w:=by
 have f:(underlying t).run P w=.ok (.slice e) w:=by
  unfold underlying;rw[Sem.run_bind];show (match P.underlying t with|some d=>(pure d:Sem TypeDesc)|none=>stuck "no such type").run P w=_;rw[b];rfl
 cases a<;>simp only[Op.equalIn,Sem.run_bind,f,Result.andThen_ok]<;>rfl
def x2(H:cb C)(m:BinOp)(t:TypeId)(x y:Operand){a:Bool}{z:AV}{vx p:Value}(f:Ww m y=some a)(q:∀v,y=.const v->p=v)(s:av S w β z vx):
  rN C.P S w β (do eqGuard m t x y vx p;binOp m t vx p) (BU C a t z):=by
 have k:∀(e:TypeId) (A:Option Addr) (l c:Nat),C.P.underlying t=some (.slice e)->vx=.slice A l c->(do eqGuard m t x y vx p;binOp m t vx p:Sem Value).run C.P w=.ok (.bool (A.isNone != a)) w:=by
  intro e A l c g I;subst I;have D:(Op.equal t (.slice A l c) (.slice none 0 0)).run C.P w=.ok A.isNone w:=Bx C.P w 9999 t e g A l c;unfold Ww at f;split at f
  .injection f with f;subst f;obtain rfl:=q _ R;have r:(eqGuard .eql t x (.const (.slice none 0 0)) (.slice A l c) (.slice none 0 0)).run C.P w=.ok () w:=by unfold eqGuard;rfl
   simp only[Sem.run_bind,r,Result.andThen_ok,binOp,D,Sem.run_pure];cases A<;>rfl
  .injection f with f;subst f;obtain rfl:=q _ R;have r:(eqGuard .neq t x (.const (.slice none 0 0)) (.slice A l c) (.slice none 0 0)).run C.P w=.ok () w:=by unfold eqGuard;rfl
   simp only[Sem.run_bind,r,Result.andThen_ok,binOp,D,Sem.run_pure];cases A<;>rfl
  .cases f
 unfold BU;split
 .rename_i E;have g:=(H.ty t _ E).kd;split
  .cases lV s;exact⟨_,k _ _ _ _ g R,by cases a<;>exact .v _⟩
  .cases lV s;exact⟨_,k _ _ _ _ g R,by cases a<;>exact .v _⟩
  .cases s with
   |Y rs rows F A c b o u N O J L G T M P=>
    obtain⟨rfl, -⟩:=G (by simp);exact⟨_,k _ _ _ _ g R,by cases a<;>exact .v _⟩
  .trivial
 .trivial
def zy{P:Program}(c:UnOp){b:AV}{vx:Value}(a:av S w β b vx):rN P S w β (Op.unary c vx) (j5 c b):=by
 unfold j5;split
 .cases lV a;exact⟨_,R,.v _⟩
 .cases lV a;exact⟨_,R,.v _⟩
 .cases lV a;exact⟨_,R,.v _⟩
 trivial
def Wu(c:cb C)(src a:TypeId){b:AV}{vx:Value}(l:av S w β b vx):rN C.P S w β (convert src a vx) (DF C src a b):=by
 unfold DF;split
 rotate_left 2
 .trivial
 all_goals
  rename_i g k;cases lV l
  have e:=(c.ty _ _ g).kd;have f:=(c.ty _ _ k).kd;exact⟨_,by simp only[convert,Sem.run_bind,run_underlying e,run_underlying f,Result.andThen_ok];rfl,.v _⟩
def x3{P:Program}(e:Array TypeId)(ty:TypeId){x y:AV}{vx a:Value}(b:av S w β x vx)(c:av S w β y a):rN P S w β (Builtin.min_ e ty #[vx,a]) (TB x y):=by
 unfold TB;split
 .cases lV b;cases lV c;split
  .exact⟨_,R,.v _⟩
  trivial
 trivial
def x4{P:Program}(e:Array TypeId)(ty:TypeId){x y:AV}{vx a:Value}(b:av S w β x vx)(c:av S w β y a):rN P S w β (Builtin.max_ e ty #[vx,a]) (TC x y):=by
 unfold TC;split
 .cases lV b;cases lV c;split
  .exact⟨_,R,.v _⟩
  trivial
 trivial
theorem fW:∀(e:List AV),eW e=true->∀(i:Nat) a,e[i]?=some a->eP a=true
 |[],_,i,a,h=>by simp at h
 | x::g,b,i,a,c=>by
  simp only[eW]at b;split at b
  .rename_i f
   cases i with
   |zero=>simp at c;subst c;exact f
   |succ i=>exact fW g b i a (sU c)
  .cases b
def mB{a:AV}{v:Value}(r:av S w β a v):eP a=true->∀g,av S w g a v:=by
 induction r with
 |v x=>intro _ g;exact .v x
 |agg k y m l h ih=>intro e g;exact .agg k y m l λi a u p q=>ih i a u p q (fW k (by simpa [eP]using e) i a p) g
 |F k y m h ih=>intro e g;exact .F k y m λi a u p q=>ih i a u p q (fW k (by simpa [eP]using e) i a p) g
 |Y rs rows D A c b o u e N G s J E l r ih=>intro _ g;exact .Y rs rows D A c b o u e N G s J E l r
 |k rs F row b o u s L E l r ih=>intro _ g;exact .k rs F row b o u s L E l r
 | a f first z y O m h H h' ih I=>
  intro e g;simp only[eP]at e;split at e
  .rename_i M;exact .a f first z y O m (λi a u p q=>ih i a u p q (fW _ M i a p) g) H λi a u p q=>I i a u p q (fW _ e i a p) g
  .cases e
 |ptr=>intro e;simp[eP]at e
 |x=>intro e;simp[eP]at e
 |X=>intro e;simp[eP]at e
 |Zr=>intro e;simp[eP]at e
 |Zm=>intro e;simp[eP]at e
 |any=>intro e;simp[eP]at e
end
end Go.Proofs.YtiaekocjeinkjaaGreatDoor
namespace Go.Proofs.YtiaekocjeinkjaaGreatDoor
open Go.RowKit
section
variable {C:a5}{S:Nat->Prop}{w:World}{β:Bt}{B:Nat}{h:AH}
theorem Do{b:Nat}:∀(c:List AV) (o:Nat),(∀(j:Nat) a,c[j]?=some a->∃u,w.cell? ⟨b,o+j,none⟩=some u/\u.oneCell'=true/\av S w β a u)->
  ∃g:List Value,g.length=c.length/\w.rangeAt b o g/\jw S w β c g
 |[],o,_=>⟨[],R,λj v f=>by simp at f,⟨b6.nil _ _ _,λi u e=>by simp at e⟩⟩
 | a::c,o,H=>by
  obtain⟨u,r,s,y⟩:=H 0 a R;obtain⟨g,p,q,l⟩:=Do c (o+1) λj m z=>by
   obtain⟨k,A,D⟩:=H (j+1) m (sU z);exact⟨k,by rw[<-A];congr 2;omega,D⟩
  refine⟨u::g,by simp[p],λj v f=>?_,⟨b6.cons y l.ZX,λi k e=>?_⟩⟩
  .cases j with
   |zero=>simp at f;subst f;exact r
   |succ j=>rw[(oT:o+(j+1)=(o+1)+j)];exact q j v (sU f)
  .cases i with
   |zero=>simp at e;subst e;exact s
   |succ i=>exact l.one i k (sU e)
theorem jw.agg{b:List AV}{c:List Value}(h:jw S w β b c):av S w β (.agg b) (.agg c.toArray):=
 .agg b _ (sU h.ZX.1) (λi u g=>h.one i u (sU g)) λi a u e f=>h.ZX.2 i a u e (sU f)
def Tt(S:Nat->Prop)(w:World)(β:Bt)(b o:Nat)(row:List AV):Prop:=∀(j:Nat) a,row[j]?=some a->∃u,w.cell? ⟨b,o+j,none⟩=some u/\u.oneCell'=true/\av S w β a u
def BS(E:cb C){t:TypeId}{rs c b o:Nat}{row:List AV}{x:AV}(k:Tt S w β b o row)(F:row.length=rs)(e:HI C t rs c row=some x):
  hM C.P S w β x (loadVar t ⟨b,o+c,none⟩):=by
 have agg:∀(l:Nat) (f:List AV) (r:Kd) (z:AV) (m:Nat) (q:List CK),C.ty t=some ⟨r,l,true,z,m,q⟩->f.length=l->(∀(j:Nat) a,f[j]?=some a->∃u,w.cell? ⟨b,o+c+j,none⟩=some u/\u.oneCell'=true/\av S w β a u)->
   hM C.P S w β (.agg f) (loadVar t ⟨b,o+c,none⟩):=by
  intro l f r z m q p y H;have T:=E.ty t _ p;obtain⟨V,L,M,N⟩:=Do f (o+c) H;obtain⟨d,v,A⟩:=T.ag;obtain⟨inf,z,O,I,_⟩:=T.ZR;exact⟨_,run_loadVar_mid w b (o+c) t V d M v A (by rw[O,L,y];simpa using I),N.agg⟩
 unfold HI at e;split at e
 .rename_i r l z m q p;split at e
  .rename_i P;have G:=aO P;injection e with e;subst e;exact agg l row _ _ _ _ p (by rw[F,G]) (λj a g=>by have:=k j a g;simpa using this)
  split at e
  .rename_i y;injection e with e;subst e;refine agg l _ _ _ _ _ p (aO y) λj a g=>?_;rw[Hu,Hv,cU]at g;split at g
   .rw[cL]at g;obtain⟨u,D,J⟩:=k _ _ g;exact⟨u,by rw[<-D];congr 2;omega,J⟩
   cases g
  cases e
 .rename_i r l z m q p;have T:=E.ty t _ p;rw[Ht]at e;obtain⟨u,D,J,U⟩:=k _ _ e;obtain⟨d,v,A⟩:=T.ag;have s:(isAgg t).run C.P w=.ok false w:=by
   unfold isAgg;rw[Sem.run_bind,run_underlying v w];cases d<;>first|rfl|(simp[TypeDesc.isRow]at A)
  refine⟨u,?_,U⟩;simp only[loadVar,Sem.run_bind,s,Result.andThen_ok,cS,eE,run_load,D]
 cases e
def PR(H:c3 B S w β h){s:Nat}{cells:List AV}(p:h s=some (.box cells)):∃l b e c,β s=some l/\w.heap[l.l]?=some (.cells b e c)/\Tt S w β l.l l.base cells:=by
 obtain⟨l,b,e,c,g,f,_,_,_,k⟩:=H.own s _ p;exact⟨l,b,e,c,g,f,λj a m=>let ⟨u,q,r⟩:=k j a m;⟨u,by rw[gP f];exact q,r⟩⟩
def PS(H:c3 B S w β h){s:Nat}{cells:List AV}(p:h s=some (.row cells)):∃l b e c,β s=some l/\w.heap[l.l]?=some (.cells b e c)/\l.rs=1/\Tt S w β l.l l.base cells:=by
 obtain⟨l,b,e,c,k,f,_,_,_,g⟩:=H.own s _ p;exact⟨l,b,e,c,k,f,g.1,λj a m=>let ⟨u,q,r⟩:=g.2 j a m;⟨u,by rw[gP f];exact q,r⟩⟩
def Ly(H:c3 B S w β h){s:Nat}{rows:List (List AV)}{rs:Nat}(q:h s=some (.arr rows rs)):∃l b e c,β s=some l/\w.heap[l.l]?=some (.cells b e c)/\l.rs=rs/\(∀row∈rows,row.length=rs)/\∀(i:Nat) row,rows[i]?=some row->Tt S w cy l.l (l.base+i*rs) row:=by
 obtain⟨l,b,e,c,k,g,_,_,_,f⟩:=H.own s _ q;exact⟨l,b,e,c,k,g,f.1,f.2.1,λi row m j a p=>let ⟨u,r,v⟩:=f.2.2 i row j a m p;⟨u,by rw[gP g];exact r,v⟩⟩
def GB{P:Program}{x:Option AV}{r:Sem Value}(h:∀y,x=some y->hM P S w β y r):rN P S w β r (et x):=by
 cases x with
 |none=>trivial
 |some y=>exact h y R
def AJ{P:Program}{t:TypeId}{a:Addr}{x:AV}(h:hM P S w β x (loadVar t a)):hM P S w β x (Instr.loadAt t (.pointer (some a))):=h
def Wv(D:cb C)(H:c3 B S w β h)(t:TypeId){a:AV}{v:Value}(E:av S w β a v):
  rN C.P S w β (Instr.loadAt t v)
   (tG C h t a):=by
 unfold tG;split
 .rename_i b c;split
  .rename_i cells p;obtain⟨l,I,e,J,g,L,q⟩:=PR H p
   cases E with
   |ptr _ _ m z=>
   obtain rfl:m=l:=by rw[z]at g;exact fj g
   exact GB λy A=>AJ (BS D q R A)
  .trivial
 .rename_i b r c;split
  .rename_i rows rs p;obtain⟨l,I,e,J,g,L,q,F,O⟩:=Ly H p
   cases E with
   |x _ _ _ m z=>
   obtain rfl:m=l:=by rw[z]at g;exact fj g
   subst q;intro row x N f G;exact AJ (BS D (λj a k=>let ⟨u,U,V,W⟩:=O r row (sU f) j a k;⟨u,U,V,W.mono (λ_ h=>h) (cp.refl _ _) (λs l x=>by cases x)⟩) (F row (aB f)) G)
  .rename_i cells p;obtain⟨l,I,e,J,g,L,q,F⟩:=PS H p
   cases E with
   |x _ _ _ m z=>
   obtain rfl:m=l:=by rw[z]at g;exact fj g
   intro row x N f G;have f:(cells.map λx=>[x])[r]?=some row:=sU f;rw[aX]at f;obtain⟨y,A,rfl⟩:=Gi.1 f;refine AJ (BS D (b:=m.l) (o:=m.base+r*m.rs) (row:=[y]) (λj a k=>?_) R G)
   cases j with
   |zero=>
    simp only[cP,jc]at k;subst k;rw[q,iD]
    exact F r y A
   |succ j=>simp at k
  .trivial
 .rename_i rs c row
  cases E with
  |k _ _ _ b o u M p T g P=>
  refine GB λy A=>AJ (BS D (λj a k=>⟨u j,T j a k,g j,(P j a k).mono (λ_ x=>x) (cp.refl _ _) (λs l x=>by cases x)⟩) M A)
 .trivial
def PT(y:cb C){t:TypeId}{m:List AV}{g:Array Value}{b:Nat}{x:AV}(A:m.length=g.size)(H:∀(i:Nat) u,g[i]?=some u->u.oneCell'=true)(D:∀(i:Nat) a u,m[i]?=some a->g[i]?=some u->av S w β a u)
  (c:Ot C t m b=some x):hM C.P S w β x (part t g b):=by
 unfold Ot at c;split at c
 .rename_i J F z v G s;have T:=y.ty t _ s;obtain⟨d,r,f⟩:=T.ag;obtain⟨inf,z,I,E,_⟩:=T.ZR;have e:(isAgg t).run C.P w=.ok true w:=by
   unfold isAgg;rw[Sem.run_bind,run_underlying r w];cases d<;>first|rfl|(simp[TypeDesc.isRow]at f)
  injection c with c;subst c;refine⟨.agg (g.extract b (b+F)),by simp only[part,Sem.run_bind,e,Result.andThen_ok,fD,sizeOf,typeInfo,program,Sem.run,I,Sem.run_pure,E],?_⟩;rw[Hu,Hv];refine .agg _ _ (by simp[A];omega) (λi u k=>?_) λi a u p q=>?_
  .rw[mQ]at k;split at k
   .exact H _ _ k
   cases k
  rw[mQ]at q;rw[cU]at p;split at p
  .rw[cL]at p;split at q
   .exact D _ _ _ p q
   cases q
  cases p
 .rename_i J F z v G s;have T:=y.ty t _ s;obtain⟨d,r,f⟩:=T.ag;have e:(isAgg t).run C.P w=.ok false w:=by
   unfold isAgg;rw[Sem.run_bind,run_underlying r w];cases d<;>first|rfl|(simp[TypeDesc.isRow]at f)
  rw[Ht]at c;have l:b<g.size:=by rw[<-A];exact(Em.1 c).1
  refine⟨g[b],by simp only[part,Sem.run_bind,e,Result.andThen_ok,cS,eE,aT l,Sem.run_pure],D b x _ c (aT l)⟩
 cases c
def Tu(c:cb C)(t:TypeId)(f:Nat){a:AV}{v:Value}(s:av S w β a v):
  rN C.P S w β (Instr.field t v f)
   (Ab C t f a):=by
 unfold Ab;split
 .rename_i O T L z I N D;obtain⟨b,E,l,_⟩:=(c.ty t _ D).kd;split
  .rename_i J P M e
   cases s with
   |agg _ U u r A=>
   rw[Hw, <-l,aX]at e;obtain⟨q,g,k⟩:=Gi.1 e;injection k with m p;subst m;subst p;refine GB λy F=>?_;obtain⟨v,G,H⟩:=PT c u r A F;refine⟨v,?_,H⟩;simp only[Instr.field,Sem.run_bind,run_underlying E,Result.andThen_ok];rw[(sU g:b[f]?=some q)];simpa [asAgg]using G
  .trivial
 .trivial
def FJ{P:Program}{f:Field}{inf:TypeInfo}(b:P.info? f.type=some inf)(c:inf.size≠0)(a:Addr):(fieldPlace a f).run P w=.ok (a.add f.offset) w:=by
 simp only[fieldPlace,Sem.run_bind,sizeOf,typeInfo,program,Sem.run,b,Sem.run_pure,Result.andThen_ok,dZ c]
def JI(M:cb C)(t:TypeId)(f:Nat){a:AV}{v:Value}(s:av S w β a v):
  rN C.P S w β (Instr.fieldAt t v f)
   (oJ C t f a):=by
 unfold oJ;split
 .rename_i J sz Y z X Z U;obtain⟨m,V,E,F⟩:=(M.ty t _ U).kd;have p:∀(e:Nat) (g:TypeId) (a:Addr),PU J f=some (e,g)->(Instr.fieldAt t (.pointer (some a)) f).run C.P w=.ok (.pointer (some (a.add e))) w:=by
   intro e g a k;rw[Hw, <-E,aX]at k;obtain⟨A,q,D⟩:=Gi.1 k;injection D with H I;subst H;subst I;obtain⟨inf,O,T⟩:=F A (aB q);simp only[Instr.fieldAt,Sem.run_bind,run_underlying V,Result.andThen_ok];rw[(sU q:m[f]?=some A)];simp only[Instr.sureAddr,Sem.run_pure,Sem.run_bind,Result.andThen_ok,FJ O T]
  split
  .rename_i e g b c k
   cases s with
   |ptr _ _ l y=>exact⟨_,p e g _ k,by rw[Addr.add_mid,dW];exact .ptr b (c+e) l y⟩
  .rename_i e g b r c k
   cases s with
   |x _ _ _ l y=>exact⟨_,p e g _ k,by rw[Addr.add_mid,dW];exact .x b r (c+e) l y⟩
  .rename_i e g rs c row k
   cases s with
   |k _ _ _ b o u G N W L P=>exact⟨_,p e g _ k,by rw[Addr.add_mid,dW];exact .k rs (c+e) row b o u G N W L P⟩
  .trivial
 .trivial
end
end Go.Proofs.YtiaekocjeinkjaaGreatDoor
namespace Go.Proofs.YtiaekocjeinkjaaGreatDoor
open Go.RowKit
section
variable {C:a5}{S:Nat->Prop}{w:World}{β:Bt}{B:Nat}{h:AH}
def x5(e:cb C)(t ty:TypeId){a:AV}{v:Value}(f:av S w β a v):rN C.P S w β (Builtin.len_ #[t] ty #[v]) (TA C t a):=by
 unfold TA;split
 .rename_i b;cases lV f
  have c:=(e.ty t _ b).kd;exact⟨_,by simp[Builtin.len_,run_underlying c,goInt],.v _⟩
 .rename_i b;have c:=(e.ty t _ b).kd
  cases f with
  |Y=>exact⟨_,by simp[Builtin.len_,run_underlying c,goInt],.v _⟩
 .rename_i b;have c:=(e.ty t _ b).kd
  cases f with
  |X=>exact⟨_,by simp[Builtin.len_,run_underlying c,goInt],.v _⟩
 .rename_i b;have c:=(e.ty t _ b).kd;exact⟨_,by simp[Builtin.len_,run_underlying c,goInt],.v _⟩
 .trivial
def AK(c:cb C){e:TypeId}{a:TI}(f:C.ty e=some a)(w:World):(sizeOf e).run C.P w=.ok a.j w:=by
 obtain⟨inf,z,g,b,_⟩:=(c.ty e _ f).ZR;simp only[sizeOf,typeInfo,program,Sem.run_bind,Sem.run,g,Sem.run_pure,Result.andThen_ok,b]
def JJ(N:cb C)(H:c3 B S w β h)(t:TypeId){a i:AV}{v u:Value}(F:av S w β a v)(hi:av S w β i u):
  rN C.P S w β (Instr.indexAt t v u)
   (iW C h t a i):=by
 unfold iW pN;split
 .rename_i e sz ag aj aa eq k n V;cases lV hi;have W:=(N.ty t _ V).kd;have s:∀(g:TI) (A:Addr) (len c:Nat),C.ty e=some g->0<=n->n<(len:Int)->(Instr.indexAt t (.slice (some A) len c) (.int k n)).run C.P w=.ok (.pointer (some (A.add (n.toNat*g.j)))) w:=by
   intro g A len c q m p;simp[Instr.indexAt,asIntOf,run_underlying W,m,p,AK N q]
  split
  .rename_i g rs rows P q;split
   .rename_i f;have f:=aO f;intro row x m D Y;injection Y with Y;subst Y
    cases F with
    |Y _ _ _ A c b o u hc hm O J G X p U=>
    have ai:n.toNat<rows.length:=(Em.1 D).1;obtain⟨E,ab⟩:=G oT;subst E;refine⟨_,s g _ _ _ q m oT,?_⟩;rw[Addr.add_mid, <-f];exact .k rs 0 row b (o+n.toNat*rs) (λj=>u n.toNat j) (J row (aB D)) ab (λj a T=>X _ _ _ _ D T) (λj=>p _ _) λj a T=>U _ _ _ _ D T
   .trivial
  .rename_i g b lo len P q;split
   .rename_i rows rs I;split
    .rename_i f;have f:=aO f;rintro⟨m,p⟩;obtain⟨l,cs,e',fr,L,k2,Z,k4,k5⟩:=Ly H (s:=b) I
     cases F with
     |X _ _ _ _ M A c y hc hm O G ds bb bd cf z=>
     obtain rfl:M=l:=by rw[y]at L;exact fj L
     have E:=G oT;subst E;refine⟨_,s g _ _ _ q m p,?_⟩;rw[Addr.add_mid, <-f, <-Z,dW, <-cG];exact .x b (lo+n.toNat) 0 M y
    .trivial
   .rename_i cells I;split
    .rename_i f;have f:=aO f;rintro⟨m,p⟩;obtain⟨l,cs,e',fr,L,k2,Z,k4⟩:=PS H (s:=b) I
     cases F with
     |X _ _ _ _ M A c y hc hm O G ds bb bd cf z=>
     obtain rfl:M=l:=by rw[y]at L;exact fj L
     have E:=G oT;subst E;refine⟨_,s g _ _ _ q m p,?_⟩;rw[Addr.add_mid, <-f, <-Z,dW, <-cG];exact .x b (lo+n.toNat) 0 M y
    .trivial
   .trivial
  .trivial
 .rename_i len e sz ag aj aa eq k n V;cases lV hi;have W:=(N.ty t _ V).kd;have s:∀(g:TI) (A:Addr),C.ty e=some g->0<=n->n<(len:Int)->(Instr.indexAt t (.pointer (some A)) (.int k n)).run C.P w=.ok (.pointer (some (A.add (n.toNat*g.j)))) w:=by
   intro g A q m p;simp[Instr.indexAt,asIntOf,run_underlying W,m,p,AK N q,Instr.sureAddr]
  split
  .rename_i g b c q;rintro⟨m,p⟩
   cases F with
   |ptr _ _ l y=>exact⟨_,s g _ q m p,by rw[Addr.add_mid,dW];exact .ptr b _ l y⟩
  .rename_i g b r c q;rintro⟨m,p⟩
   cases F with
   |x _ _ _ l y=>exact⟨_,s g _ q m p,by rw[Addr.add_mid,dW];exact .x b r _ l y⟩
  .rename_i g rs c row q;rintro⟨m,p⟩
   cases F with
   |k _ _ _ b o u J I X b4 U=>exact⟨_,s g _ q m p,by rw[Addr.add_mid,dW];exact .k rs _ row b o u J I X b4 U⟩
  .trivial
 .trivial
def Tv(b:cb C)(t:TypeId){a i:AV}{v u:Value}(A:av S w β a v)(D:av S w β i u):
  rN C.P S w β (Instr.index t v u)
   (BW C t a i):=by
 unfold BW;split
 .rename_i N E z p G s k n l;cases lV A;cases lV D;have m:=(b.ty t _ l).kd;rintro⟨f,q⟩;have c:n.toNat<s.size:=oT;refine⟨_,?_,.v _⟩;have F:s[n.toNat]?=some (s.data.toList.getD n.toNat 0):=by
   have g:n.toNat<s.data.toList.length:=sU c;rw[getElem?_pos s n.toNat c];congr 1;rw[aR,aA g,gI];rfl
  simp only[Instr.index,asIntOf,Sem.run_bind,Sem.run_pure,Result.andThen_ok,run_underlying m,aa f,F]
 .rename_i len e N E z p G O k n l;cases lV D;have m:=(b.ty t _ l).kd;split
  .rename_i P H;split
   .rename_i x J;rintro⟨f,q⟩
    cases A with
    |agg _ T g y I=>
    obtain⟨r,L,M⟩:=PT b g y I J;exact⟨r,by simp only[Instr.index,asIntOf,Sem.run_bind,Sem.run_pure,Result.andThen_ok,run_underlying m,aa (And.intro f q),AK b H,L],M⟩
   .trivial
  .trivial
 .trivial
def Oq{P:Program}(i:Nat){a:AV}{v:Value}(f:av S w β a v):
  rN P S w β (Instr.extract v i) (rY i a):=by
 unfold rY;split
 .rename_i l
  cases f with
  |F _ e g k=>
  refine GB λy c=>?_;rw[Ht]at c;have b:i<e.size:=by rw[<-g];exact(Em.1 c).1
  exact⟨e[i],by simp only[Instr.extract,aT b,Sem.run_pure],k i y _ c (aT b)⟩
 .trivial
def HA{x:Option AV}{v:Option Value}{r:Option Int}(g:∀a,x=some a->∃u,v=some u/\av S w β a u)(f:x=none->v=none)(b:mm x=some r):
  (r=none/\v=none)\/∃k n,r=some n/\v=some (.int k n):=by
 unfold mm at b;split at b
 .injection b with b;exact .inl ⟨b.symm,f R⟩
 .obtain⟨u,c,e⟩:=g _ R;injection b with b;cases lV e
  exact .inr ⟨_,_,b.symm,c⟩
 cases b
def xU{P:Program}(z:Bool)(len b:Nat)(lo s g:Option Value)(l h:Int)(m:Nat)(u:(lo=none/\l=0)\/∃k,lo=some (.int k l))
  (v:(s=none/\g=none/\h=len)\/∃k,s=some (.int k h)) (E:(g=none/\m=b)\/∃k,g=some (.int k (m:Int))) (r:0<=l) (D:l<=h) (f:h<=m) (F:m<=b):
  (Instr.sliceBounds z len b lo s g).run P w=.ok (l.toNat,h.toNat,m) w:=by
 have a:∀(k:IntKind) (i:Int) (y:Nat) (cm:BoundsCode),0<=i->i<=y->(Instr.sliceBound (.int k i) y cm).run P w=.ok i.toNat w:=λk i y cm p q=>by
  simp only[Instr.sliceBound,asIntOf,Sem.run_bind,Sem.run_pure,Result.andThen_ok,aa (And.intro p q)]
 rcases E with ⟨rfl,rfl⟩|⟨A,rfl⟩
 .rcases v with ⟨rfl,_,rfl⟩|⟨c,rfl⟩
  .rcases u with ⟨rfl,rfl⟩|⟨e,rfl⟩
   .simp[Instr.sliceBounds]
   simp[Instr.sliceBounds,a e l _ _ r D]
  rcases u with ⟨rfl,rfl⟩|⟨e,rfl⟩
  .simp[Instr.sliceBounds,a c h _ _ oT f]
  simp[Instr.sliceBounds,a c h _ _ oT f,a e l _ _ r (by omega:l<=(h.toNat:Int))]
 rcases v with ⟨_,h',_⟩|⟨c,rfl⟩
 .cases h'
 rcases u with ⟨rfl,rfl⟩|⟨e,rfl⟩
 .simp[Instr.sliceBounds,a A (m:Int) b _ oT oT,a c h m _ oT f]
 simp[Instr.sliceBounds,a A (m:Int) b _ oT oT,a c h m _ oT f,a e l _ _ r (by omega:l<=(h.toNat:Int))]
def Tw(hC:cb C)(aB:c3 B S w β h)(t:TypeId){a:AV}{v:Value}{lo G mx:Option AV}{y f g:Option Value}(ha:av S w β a v)
  (am:∀a,lo=some a->∃u,y=some u/\av S w β a u) (ab:lo=none->y=none) (O:∀a,G=some a->∃u,f=some u/\av S w β a u) (aa:G=none->f=none)
  (z:∀a,mx=some a->∃u,g=some u/\av S w β a u) (ai:mx=none->g=none):
  rN C.P S w β (Instr.sliceAt t v y f g) (uQ C h t a lo G mx):=by
 unfold uQ BV;split
 .rename_i len l0 h0 m0 F al ak an;have aD:=HA am ab al;have ax:=HA O aa ak;have M:=HA z ai an;clear am ab O aa z ai al ak an;have hL:(y=none/\l0.getD 0=0)\/∃k,y=some (.int k (l0.getD 0)):=by
   rcases aD with ⟨rfl,rfl⟩|⟨k,n,rfl,rfl⟩
   .exact .inl ⟨rfl,rfl⟩
   .exact .inr ⟨k,rfl⟩
  have hU:∀vm,vm=none->(f=none/\vm=(none:Option Value)/\h0.getD (len:Int)=len)\/∃k,f=some (.int k (h0.getD len)):=by
   intro vm aw;rcases ax with ⟨rfl,rfl⟩|⟨k,n,rfl,rfl⟩
   .exact .inl ⟨rfl,aw,rfl⟩
   .exact .inr ⟨k,rfl⟩
  split
  .rename_i ht;have hu:=(hC.ty t _ ht).kd;split
   .rename_i s;cases lV ha;have Z:s.size=len:=by simpa [e']using F
    have L:g=none:=by rcases M with ⟨_,h⟩|⟨_,_,h,_⟩<;>first|exact h|cases h
    subst L;rintro⟨J,N,T⟩;have X:=xU (P:=C.P) (w:=w) false len len y f none _ _ len hL (hU none R) (.inl ⟨R,R⟩) J N T (aC _);refine⟨_,?_,.v _⟩;simp only[Instr.sliceAt,Sem.run_bind,run_underlying hu,Result.andThen_ok,Instr.slice,Z,Option.isSome_none,cS,eE,Sem.run_pure,X]
   .trivial
  .rename_i e sz ag aF ay eq ht;have hu:=(hC.ty t _ ht).kd;split
   .rename_i ei he;have ap:∀(A:Option Addr) (n c m:Nat) (f g:Option Value) (l h:Int),(Instr.sliceBounds true n c y f g).run C.P w=.ok (l.toNat,h.toNat,m) w->
      (Instr.sliceAt t (.slice A n c) y f g).run C.P w=.ok (.slice (if m=l.toNat then A else A.map (·.add (l.toNat*ei.j))) (h.toNat-l.toNat) (m-l.toNat)) w:=by
     intro A n c m f g l h X;simp only[Instr.sliceAt,Sem.run_bind,run_underlying hu,Result.andThen_ok,Instr.slice,X,AK hC he,Sem.run_pure]
    have H:∀(rs:Nat) (rows:List (List AV)) (D r:Bool) (v:Value) (l p:Int) (V:Option Nat) (f g:Option Value),av S w β (.Y rs rows D) v->rs=ei.j->0<=l->l<=p->p<=(rows.length:Int)->
      ((y=none/\l=0)\/∃k,y=some (.int k l))->((f=none/\g=none/\p=(rows.length:Int))\/∃k,f=some (.int k p))->
      ((V=none/\g=none)\/(∃k,V=some p.toNat/\g=some (.int k p)))->(r=true->(V=none->D=true/\p=(rows.length:Int)))->
      hM C.P S w β (.Y rs ((rows.take p.toNat).drop l.toNat) r) (Instr.sliceAt t v y f g):=by
     intro rs rows D r v l p V f g hr I J N T Z O P Y
     cases hr with
     |Y _ _ _ A c b o u hc z U b4 hA hw h1 da=>
     have F:((rows.take p.toNat).drop l.toNat).length=p.toNat-l.toNat:=by
      rw[bD,aM];omega
     have W:∀m:Nat,p<=(m:Int)->m<=c->(r=true->(m:Int)=p)->(Instr.sliceBounds true rows.length c y f g).run C.P w=.ok (l.toNat,p.toNat,m) w->
       hM C.P S w β (.Y rs ((rows.take p.toNat).drop l.toNat) r) (Instr.sliceAt t (.slice A rows.length c) y f g):=by
      intro m q1 q2 q3 X;refine⟨_,ap A _ c m f g l p X,?_⟩;rw[<-F];refine .Y rs _ r _ (m-l.toNat) b (o+l.toNat*rs) (λi j=>u (i+l.toNat) j) (by rw[F];omega) oT (λq=>by have:=q3 q;rw[F];omega) (λrow aq=>b4 row (cQ (eT aq)))
       (λaj=>?_) (λi row j a G hj=>?_) (λi j=>h1 _ _) λi row j a G hj=>?_
      .rw[F]at aj;obtain⟨ar,au⟩:=hA oT;refine⟨?_,au⟩;rw[dZ oT,ar,dF,Addr.add_mid,I]
      .rw[cL,cU]at G;split at G
       .have:=hw _ _ _ _ G hj;rw[<-gJ i]at this;rw[<-this];congr 2;rw[cG];omega
       .cases G
      .rw[cL,cU]at G;split at G
       .have:=da _ _ _ _ G hj
        rwa [<-gJ i]at this
       .cases G
     rcases P with ⟨rfl,rfl⟩|⟨k,rfl,rfl⟩
     .refine W c oT (aC _) (λq=>?_) (xU true _ c y f none l p c Z O (.inl ⟨R,R⟩) J N oT (aC _));obtain⟨q1,q2⟩:=Y q R;rw[U q1];omega
     .have eh:((p.toNat:Nat):Int)=p:=lU oT;refine W p.toNat oT oT (λ_=>eh) (xU true _ c y f _ l p p.toNat Z O (.inr ⟨k,by rw[eh]⟩) J N oT oT)
    have ao:∀(s lo len rs:Nat) (rows:List (List AV)) (D r:Bool) (v:Value) (l p:Int) (V:Option Nat) (f g:Option Value),av S w β (.X s lo len D) v->h s=some (.arr rows rs)->rs=ei.j->0<=l->l<=p->p<=(len:Int)->
      ((y=none/\l=0)\/∃k,y=some (.int k l))->((f=none/\g=none/\p=(len:Int))\/∃k,f=some (.int k p))->
      ((V=none/\g=none)\/(∃k,V=some p.toNat/\g=some (.int k p)))->(r=true->(V=none->D=true/\p=(len:Int)))->
      hM C.P S w β (.X s (lo+l.toNat) (p-l).toNat r) (Instr.sliceAt t v y f g):=by
     intro s lo len rs rows D r v l p V f g hr hs I J N T Z O P Y;obtain⟨l',az,aE,aA,k1,k2,k3,k4,k5⟩:=Ly aB hs
     cases hr with
     |X _ _ _ _ l1 A c bd hc z U hA cs e1 fr X c'=>
     obtain rfl:l1=l':=by rw[bd]at k1;exact fj k1
     have W:∀m:Nat,p<=(m:Int)->m<=c->(r=true->(m:Int)=p)->(Instr.sliceBounds true len c y f g).run C.P w=.ok (l.toNat,p.toNat,m) w->
       hM C.P S w β (.X s (lo+l.toNat) (p-l).toNat r) (Instr.sliceAt t (.slice A len c) y f g):=by
      intro m q1 q2 q3 X;refine⟨_,ap A _ c m f g l p X,?_⟩;rw[(oT:p.toNat-l.toNat=(p-l).toNat)];refine .X s _ _ r l1 _ (m-l.toNat) bd oT oT (λq=>by have:=q3 q;omega) (λaj=>?_) cs e1 fr (by assumption) ?_
      .rw[dZ oT,hA oT,dF,Addr.add_mid, <-I,k3,dW, <-cG]
      .refine aL (oQ (eF _ ?_) _) c';omega
     rcases P with ⟨rfl,rfl⟩|⟨k,rfl,rfl⟩
     .refine W c oT (aC _) (λq=>?_) (xU true _ c y f none l p c Z O (.inl ⟨R,R⟩) J N oT (aC _));obtain⟨q1,q2⟩:=Y q R;rw[U q1];omega
     .have eh:((p.toNat:Nat):Int)=p:=lU oT;refine W p.toNat oT oT (λ_=>eh) (xU true _ c y f _ l p p.toNat Z O (.inr ⟨k,by rw[eh]⟩) J N oT oT)
    split
    .rename_i rs rows D;split
     .rename_i I;rintro⟨J,N,T⟩;have E:rows.length=len:=by simpa [e']using F
      have L:g=none:=by rcases M with ⟨_,h⟩|⟨_,_,h,_⟩<;>first|exact h|cases h
      subst L;refine H rs rows D _ v _ _ none f none ha (aO I) J N (by rw[E];exact T) hL (by rw[E];exact hU none rfl) (.inl ⟨rfl,rfl⟩) (λq _=>?_);simp only[aP,iO]at q;rw[q.2,E];exact⟨q.1,R⟩
     .trivial
    .rename_i rs rows D m G;split
     .rename_i I;rintro⟨J,N,T,p3⟩;subst T;have E:rows.length=len:=by simpa [e']using F
      rcases M with ⟨h,_⟩|⟨c0,n,P,cf⟩
      .cases h
      injection P with P;subst P;rcases ax with ⟨h,_⟩|⟨kh,df,hn,bb⟩
      .cases h
      injection hn with hn;subst hn;exact H rs rows D true v _ _ (some G.toNat) f g ha (aO I) J N (by rw[E];exact p3) hL (.inr ⟨kh,bb⟩) (.inr ⟨c0,R,cf⟩) (λ_ q=>by cases q)
     .trivial
    .rename_i s o n D;split
     .rename_i rows rs hs;split
      .rename_i I;rintro⟨J,N,T⟩;have E:n=len:=by simpa [e']using F
       have L:g=none:=by rcases M with ⟨_,h⟩|⟨_,_,h,_⟩<;>first|exact h|cases h
       subst L;subst E;refine ao s o n rs rows D _ v _ _ none f none ha hs (aO I) J N T hL (hU none rfl) (.inl ⟨rfl,rfl⟩) (λq _=>?_);simp only[aP,iO]at q;rw[q.2];exact⟨q.1,R⟩
      .trivial
     .trivial
    .rename_i s o n D m G;split
     .rename_i rows rs hs;split
      .rename_i I;rintro⟨J,N,T,p3⟩;subst T;have E:n=len:=by simpa [e']using F
       subst E;rcases M with ⟨h,_⟩|⟨c0,df,P,cf⟩
       .cases h
       injection P with P;subst P;rcases ax with ⟨h,_⟩|⟨kh,dp,hn,bb⟩
       .cases h
       injection hn with hn;subst hn;exact ao s o n rs rows D true v _ _ (some G.toNat) f g ha hs (aO I) J N p3 hL (.inr ⟨kh,bb⟩) (.inr ⟨c0,R,cf⟩) (λ_ q=>by cases q)
      .trivial
     .trivial
    .trivial
   .trivial
  .trivial
 .trivial
end
end Go.Proofs.YtiaekocjeinkjaaGreatDoor
namespace Go.Proofs.YtiaekocjeinkjaaGreatDoor
open Go.RowKit
section
variable {C:a5}{S:Nat->Prop}{w:World}{β:Bt}{B:Nat}{h:AH}
theorem JK(a:Nat):∀(l:List Value) (s:Nat) (cells:Array Value),a+s+l.length<=cells.size->
  ((l.zipIdx s).foldl (λ(c:Array Value) (p:Value×Nat)=>c.setIfInBounds (a+p.2) p.1) cells).size=cells.size/\
  ∀k,((l.zipIdx s).foldl (λ(c:Array Value) (p:Value×Nat)=>c.setIfInBounds (a+p.2) p.1) cells)[k]?=if a+s<=k/\k<a+s+l.length then l[k-(a+s)]? else cells[k]?
 |[],s,cells,_=>by
  refine⟨R,λk=>?_⟩;simp only[List.zipIdx_nil,List.foldl_nil,cX,iU]
  rw[dZ oT]
 | x::l,s,cells,m=>by
  simp only[bN]at m;obtain⟨e,f⟩:=JK a l (s+1) (cells.setIfInBounds (a+s) x) (by simp;omega);simp only[List.zipIdx_cons,mK];refine⟨by rw[e];simp,λk=>?_⟩;rw[f k];simp only[bN];by_cases g:k=a+s
  .subst g;rw[dZ oT,aa oT,eK,cP,cZ oT]
  .by_cases b:a+(s+1)<=k/\k<a+(s+1)+l.length
   .rw[aa b,aa oT,(oT:k-(a+s)=(k-(a+(s+1)))+1),dL]
   .rw[dZ b,dZ oT,cY oT]
def Ez(S:Nat->Prop)(w:World)(β:Bt):List (Nat×AV)->List (Nat×Value)->Prop
 |[],[]=>True
 |(i,a)::b,(j,v)::c=>i=j/\av S w β a v/\Ez S w β b c
 |_,_=>False
theorem HC{O pv:Nat->Option (Nat×Nat)}(hp:∀i x,O i=some x->pv i=some x):∀(A:List (Nat×AV)) (G:List (Nat×Value)) (cells r:List AV) (f:Array Value),Ez S w β A G->jw S w β cells f.toList->
  HJ C O cells A=some r->∃H,Instr.fill pv f G=some H/\jw S w β r H.toList
 |[],[],cells,r,f,_,q,b=>by simp only[HJ]at b;injection b with b;subst b;exact⟨f,R,q⟩
 |[],_::_,_,_,_,z,_,_=>z.elim
 |(i,a)::A,[],_,_,_,z,_,_=>z.elim
 | (i, a)::A,(j,v)::G,cells,r,f,z,q,b=>by
  obtain⟨rfl,P,F⟩:=z;simp only[HJ]at b;split at b
  .rename_i l T m N M;have s:=vE P M;split at b
   .rename_i D E;have D:=aO D;have E:=aJ E;have J:v.cells.size=T:=by rw[<-D,s.ZX.1];simp
    have L:f.size=cells.length:=by rw[q.ZX.1];simp
    obtain⟨f1,f2⟩:=JK l v.cells.toList 0 f (by simp only[cV,iU,J,L];omega);have I:jw S w β (zS l m cells) ((v.cells.toList.zipIdx 0).foldl (λ(m:Array Value) (p:Value×Nat)=>m.setIfInBounds (l+p.2) p.1) f).toList:=by
     refine⟨⟨(vO _ _ _ E).trans (L.symm.trans (f1.symm.trans (cV).symm)),λk U u y e=>?_⟩,λk u e=>?_⟩
     .rw[bQ,f2 k]at e;rw[BQ _ _ _ _ E]at y;simp only[iU,cV,J]at e;rw[D]at y;split at y
      .rename_i g;rw[aa g]at e;exact s.ZX.2 _ _ _ y e
      .rename_i g;rw[dZ g]at e;exact q.ZX.2 _ _ _ y (sU e)
     .rw[bQ,f2 k]at e;split at e
      .exact s.one _ _ e
      .exact q.one _ _ (sU e)
    obtain⟨H,g1,g2⟩:=HC hp A G _ r _ F I b;refine⟨H,?_,g2⟩;simp only[Instr.fill,hp _ _ N];rw[dZ (by simp[J,L];omega)];have:v.cells.zipIdx.foldl (λ(m:Array Value) (x:Value×Nat)=>match x with|(c,j)=>m.setIfInBounds (l+j) c) f=(v.cells.toList.zipIdx 0).foldl (λ(m:Array Value) (p:Value×Nat)=>m.setIfInBounds (l+p.2) p.1) f:=by
     rw[<-Array.foldl_toList,Array.toList_zipIdx]
    rw[<-this]at g1;exact g1
   .cases b
  .cases b
theorem JL{P:Program}:∀(a:List Field),(∀f∈a,∃inf,P.info? f.type=some inf/\inf.size≠0)->∃b,a.mapM (λ(f:Field)=>(P.info? f.type).map λi=>(f.offset,i.size))=some b/\
  ∀i:Nat,b[i]?=(a[i]?).bind λ(f:Field)=>(P.info? f.type).map λi=>(f.offset,i.size)
 |[],_=>⟨[],R,λi=>by simp⟩
 |f::a,c=>by
  obtain⟨b,k,l⟩:=JL a λg m=>c g (bY _ m);obtain⟨inf,e,_⟩:=c f (ce);refine⟨(f.offset,inf.size)::b,by simp[tR,e,k],λi=>?_⟩
  cases i with
  |zero=>simp[e]
  |succ i=>simpa using l i
def CP(q:cb C){t:TypeId}{i:TI}(r:C.ty t=some i){b:List AV}(a:kN i.zero=some b):∃inf z,C.P.info? t=some inf/\inf.size=i.j/\inf.zero=some z/\jw S w β b z.cells.toList/\z.cells.size=i.j/\inf.bytes=i.bytes/\0<i.j/\i.bytes<=1000:=by
 obtain⟨inf,z,c,e,f,g,k,l,m,p⟩:=(q.ty t _ r).ZR;rw[k]at a;exact⟨inf,z,c,e,g,vE (Hx z) a,l,f,m,p⟩
def Tx(f:cb C)(t:TypeId)(Z:List (Nat×AV))(p:Array (Nat×Value))(Y:Ez S w β Z p.toList):
  rN C.P S w β (Instr.build t p)
   (BX C t Z):=by
 unfold BX;split
 .rename_i fs sz ag z I eq l;obtain⟨g,u,P,U⟩:=(f.ty t _ l).kd;split
  .rename_i zs m;obtain⟨inf,zv,A,i2,D,E,_⟩:=CP (S:=S) (w:=w) (β:=β) f l m;refine GB λy v=>?_;obtain⟨r,s,k⟩:=Gi.1 v;subst k;obtain⟨b,W,V⟩:=JL g.toList U;have X:∀i x,(match PU fs i with|some (q,L)=>(match C.ty L with|some J=>some (q,J.j)|none=>none)|none=>none)=some x->b.toArray[i]?=some x:=by
    intro i x a;split at a
    .rename_i q L T;split at a
     .rename_i J O;injection a with a;subst a;rw[Hw, <-P,aX]at T;obtain⟨fd,M,N⟩:=Gi.1 T;injection N with e1 e2;subst e1;subst e2;obtain⟨c,z',F,G,_⟩:=(f.ty _ _ O).ZR;simp only[eM,V,M,Option.bind_some,F,dF,G]
     cases a
    cases a
   obtain⟨H,g1,g2⟩:=HC (pv:=(b.toArray[·]?)) X _ _ _ _ _ Y E s;exact⟨_,run_build w t p H (by simp only[Program.built,A,u,D,W];exact g1),sU g2.agg⟩
  trivial
 .rename_i n e sz ag z I eq l;have u:C.P.underlying t=some (.array n e):=(f.ty t _ l).kd;split
  .rename_i zs ei m he;obtain⟨inf,zv,A,i2,D,E,_⟩:=CP (S:=S) (w:=w) (β:=β) f l m;obtain⟨c,z',F,G,_⟩:=(f.ty _ _ he).ZR;refine GB λy v=>?_;obtain⟨r,s,k⟩:=Gi.1 v;subst k;obtain⟨H,g1,g2⟩:=HC (pv:=λi=>some (i*c.size,c.size)) (λi x a=>by rw[G];exact a) _ _ _ _ _ Y E s;exact⟨_,run_build w t p H (by simp only[Program.built,A,u,D,F];exact g1),sU g2.agg⟩
  trivial
 trivial
end
end Go.Proofs.YtiaekocjeinkjaaGreatDoor
