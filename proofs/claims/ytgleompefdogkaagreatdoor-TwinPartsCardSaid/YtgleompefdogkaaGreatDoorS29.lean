/- Joined texts. -/
import Derived.Test.YtgleompefdogkaaGreatDoorS1
import Derived.Test.YtgleompefdogkaaGreatDoorS15
import Derived.Test.YtgleompefdogkaaGreatDoorS16
import Derived.Test.YtgleompefdogkaaGreatDoorS17
import Derived.Test.YtgleompefdogkaaGreatDoorS18
import Derived.Test.YtgleompefdogkaaGreatDoorS19
import Derived.Test.YtgleompefdogkaaGreatDoorS28
set_option linter.unusedVariables false
set_option linter.unusedSimpArgs false
set_option linter.defProp false
namespace Go.Proofs.YtgleompefdogkaaGreatDoor
open Go.RowKit
structure St where
 pc:Nat
 r:Nat->Nat
 mem:ByteArray
 halt:Int
structure Sp where
 pc:Nat
 next:Nat
 rd:Int
 value:Nat
 addr:Nat
 size:Int
 store:Bool
 halt:Int
 took:Int
abbrev stL(pc:Nat)(r:Nat->Nat)(m:ByteArray)(h:Int):List AV:=
 [.v (.int .u32 (pc:Int)),.v (.int .u32 (r 0:Int)),.v (.int .u32 (r 1:Int)),.v (.int .u32 (r 2:Int)),.v (.int .u32 (r 3:Int)),.v (.int .u32 (r 4:Int)),.v (.int .u32 (r 5:Int)),.v (.int .u32 (r 6:Int)),.v (.int .u32 (r 7:Int)),.v (.int .u32 (r 8:Int)),.v (.int .u32 (r 9:Int)),.v (.int .u32 (r 10:Int)),.v (.int .u32 (r 11:Int)),.v (.int .u32 (r 12:Int)),.v (.int .u32 (r 13:Int)),.v (.int .u32 (r 14:Int)),.v (.int .u32 (r 15:Int)),.v (.int .u32 (r 16:Int)),.v (.int .u32 (r 17:Int)),.v (.int .u32 (r 18:Int)),.v (.int .u32 (r 19:Int)),.v (.int .u32 (r 20:Int)),.v (.int .u32 (r 21:Int)),.v (.int .u32 (r 22:Int)),.v (.int .u32 (r 23:Int)),.v (.int .u32 (r 24:Int)),.v (.int .u32 (r 25:Int)),.v (.int .u32 (r 26:Int)),.v (.int .u32 (r 27:Int)),.v (.int .u32 (r 28:Int)),.v (.int .u32 (r 29:Int)),.v (.int .u32 (r 30:Int)),.v (.int .u32 (r 31:Int)),.v (.string m),.v (.int .i64 h)]
abbrev stA(s:St):AV:=.agg (stL s.pc s.r s.mem s.halt)
abbrev spL(x:Sp):List AV:=[.v (.int .u32 (x.pc:Int)),.v (.int .u32 (x.next:Int)),.v (.int .i64 x.rd),.v (.int .u32 (x.value:Int)),.v (.int .u32 (x.addr:Int)),.v (.int .i64 x.size),.v (.bool x.store),.v (.int .i64 x.halt),.v (.int .i64 x.took)]
abbrev spA(x:Sp):AV:=.agg (spL x)
abbrev siA(i:SI):AV:=.agg [.v (.int .i64 i.op),.v (.int .i64 i.rd),.v (.int .i64 i.rs1),.v (.int .i64 i.rs2),.v (.int .u32 (i.imm:Int))]
abbrev two(x:St×Sp):AV:=.tup [stA x.1,spA x.2]
structure St.ok(s:St):Prop where
 pc:s.pc<=4294967295
 r:∀k,s.r k<=4294967295
 mem:s.mem.size<=256
def setR(r:Nat->Nat)(k v:Nat):Nat->Nat:=λj=>if j=k then v else r j
def ldR(pc:Nat)(r:Nat->Nat)(m:ByteArray)(h:Int)(n:Nat)(hn:n<32):okO (Km (stL pc r m h) (1+n*1))=.ok (.v (.int .u32 (r n:Int))):=by
 have:∀(n:_root_.Fin 32),okO (Km (stL pc r m h) (1+n.1*1))=.ok (.v (.int .u32 (r n.1:Int))):=by
  intro n
  match n with
  |⟨0,_⟩=>rfl
  |⟨1,_⟩=>rfl
  |⟨2,_⟩=>rfl
  |⟨3,_⟩=>rfl
  |⟨4,_⟩=>rfl
  |⟨5,_⟩=>rfl
  |⟨6,_⟩=>rfl
  |⟨7,_⟩=>rfl
  |⟨8,_⟩=>rfl
  |⟨9,_⟩=>rfl
  |⟨10,_⟩=>rfl
  |⟨11,_⟩=>rfl
  |⟨12,_⟩=>rfl
  |⟨13,_⟩=>rfl
  |⟨14,_⟩=>rfl
  |⟨15,_⟩=>rfl
  |⟨16,_⟩=>rfl
  |⟨17,_⟩=>rfl
  |⟨18,_⟩=>rfl
  |⟨19,_⟩=>rfl
  |⟨20,_⟩=>rfl
  |⟨21,_⟩=>rfl
  |⟨22,_⟩=>rfl
  |⟨23,_⟩=>rfl
  |⟨24,_⟩=>rfl
  |⟨25,_⟩=>rfl
  |⟨26,_⟩=>rfl
  |⟨27,_⟩=>rfl
  |⟨28,_⟩=>rfl
  |⟨29,_⟩=>rfl
  |⟨30,_⟩=>rfl
  |⟨31,_⟩=>rfl
  |⟨k+32,h⟩=>exact absurd h (by omega)
 exact this ⟨n,hn⟩
def abD(pc:Nat)(r:Nat->Nat)(m:ByteArray)(h:Int)(n v:Nat)(hn:n<32):zR (1+n*1) [.v (.int .u32 (v:Int))] (stL pc r m h)=stL pc (setR r n v) m h:=by
 have:∀(n:_root_.Fin 32),zR (1+n.1*1) [.v (.int .u32 (v:Int))] (stL pc r m h)=stL pc (setR r n.1 v) m h:=by
  intro n
  match n with
  |⟨0,_⟩=>rfl
  |⟨1,_⟩=>rfl
  |⟨2,_⟩=>rfl
  |⟨3,_⟩=>rfl
  |⟨4,_⟩=>rfl
  |⟨5,_⟩=>rfl
  |⟨6,_⟩=>rfl
  |⟨7,_⟩=>rfl
  |⟨8,_⟩=>rfl
  |⟨9,_⟩=>rfl
  |⟨10,_⟩=>rfl
  |⟨11,_⟩=>rfl
  |⟨12,_⟩=>rfl
  |⟨13,_⟩=>rfl
  |⟨14,_⟩=>rfl
  |⟨15,_⟩=>rfl
  |⟨16,_⟩=>rfl
  |⟨17,_⟩=>rfl
  |⟨18,_⟩=>rfl
  |⟨19,_⟩=>rfl
  |⟨20,_⟩=>rfl
  |⟨21,_⟩=>rfl
  |⟨22,_⟩=>rfl
  |⟨23,_⟩=>rfl
  |⟨24,_⟩=>rfl
  |⟨25,_⟩=>rfl
  |⟨26,_⟩=>rfl
  |⟨27,_⟩=>rfl
  |⟨28,_⟩=>rfl
  |⟨29,_⟩=>rfl
  |⟨30,_⟩=>rfl
  |⟨31,_⟩=>rfl
  |⟨k+32,h⟩=>exact absurd h (by omega)
 exact this ⟨n,hn⟩
def stR{ev:Operand->AV}{h:AH}{s b n v:Nat}{a x:Operand}{pc:Nat}{r:Nat->Nat}{m:ByteArray}{hl:Int}(ha:ev a=.ptr b (1+n*1))(hb:h b=some (.box (stL pc r m hl)))(hx:ev x=.v (.int .u32 (v:Int)))(hn:n<32):
  opA C0 ev h s (.store 28 a x)=.fx True .any (upd h b (some (.box (stL pc (setR r n v) m hl)))):=by
 have hty:C0.ty 28=some ZK:=rfl;have hc:(1+n*1+([.v (.int .u32 (v:Int))]:List AV).length).ble (stL pc r m hl).length=true:=iN (by simp;omega);simp only[opA,hty,hx,kK,ha,hb];rw[show([AV.v (Value.int IntKind.u32 (v:Int))].length.beq 1)=true from rfl];simp only;rw[hc];simp only;rw[abD _ _ _ _ _ _ hn]
def wr(i:SI):Int:=if uS (cS i.op)then i.rd else 0
def fetchP(prog:List Nat)(pc:Nat):Option Nat:=if pc%4=0 then prog[pc/4]? else none
def zO(m:ByteArray)(addr:Nat)(b:ByteArray):ByteArray:=⟨(m.data.toList.take addr++b.data.toList++m.data.toList.drop (addr+b.size)).toArray⟩
def rJ(m:ByteArray)(addr n:Nat):ByteArray:=m.extract addr (addr+n)
def Lh(s:St)(why:Int)(addr:Nat):St×Sp:=({s with halt:=why},⟨s.pc,s.pc,0,0,addr,0,false,why,0⟩)
def up4(pc:Nat):Nat:=(pc+4)%4294967296
def addrOf(i:SI)(a:Nat):Nat:=(a+i.imm)%4294967296
def valB(b n:Nat):Nat:=joinTo (jH b n).data.toList (jH b n).size
def cF(s:St)(i:SI)(a b:Nat):St×Sp:=
 if iR (s.mem.size:Int) (addrOf i a) (bC i.op:Nat)=true then
  if kindOf i.op=4 then({s with pc:=up4 s.pc,mem:=zO s.mem (addrOf i a) (jH b (bC i.op))},⟨s.pc,up4 s.pc,wr i,valB b (bC i.op),addrOf i a,(bC i.op:Nat),kindOf i.op==4,0,0⟩)
  else if wr i=0 then({s with pc:=up4 s.pc},⟨s.pc,up4 s.pc,wr i,0,addrOf i a,(bC i.op:Nat),kindOf i.op==4,0,0⟩)
  else({s with pc:=up4 s.pc,r:=setR s.r (wr i).toNat (loadP i.op (rJ s.mem (addrOf i a) (bC i.op)))},⟨s.pc,up4 s.pc,wr i,loadP i.op (rJ s.mem (addrOf i a) (bC i.op)),addrOf i a,(bC i.op:Nat),kindOf i.op==4,0,0⟩)
 else Lh s (if kindOf i.op=4 then 5 else 4) (addrOf i a)
def FD(s:St)(i:SI)(a b nx:Nat)(tk:Int):St×Sp:=
 if wr i=0 then({s with pc:=nx},⟨s.pc,nx,wr i,0,0,0,false,0,tk⟩)
 else({s with pc:=nx,r:=setR s.r (wr i).toNat (rD i.op i.imm s.pc a b)},⟨s.pc,nx,wr i,rD i.op i.imm s.pc a b,0,0,false,0,tk⟩)
def dG(s:St)(i:SI)(a b:Nat):St×Sp:=
 if kindOf i.op=5 then
  if iI i.op i.imm s.pc a b%4=0 then FD s i a b (iI i.op i.imm s.pc a b) 0 else Lh s 3 0
 else FD s i a b (up4 s.pc) (if kindOf i.op=2 then pW i.op a b else 0)
def abE:Sp:=⟨0,0,0,0,0,0,false,0,0⟩
def doI(s:St)(i:SI):St×Sp:=
 if i.op=47 then Lh s 6 0
 else if i.op=48 then Lh s 7 0
 else if kindOf i.op=3∨kindOf i.op=4 then cF s i (s.r i.rs1.toNat) (s.r i.rs2.toNat)
 else dG s i (s.r i.rs1.toNat) (s.r i.rs2.toNat)
def fetchW(prog:List Nat)(pc:Nat):Nat:=(fetchP prog pc).getD 0
def aO(prog:List Nat)(s:St):SI:=kJ (fetchW prog s.pc)
def Ig(prog:List Nat)(s:St):St×Sp:=
 if s.halt=0 then
  if(fetchP prog s.pc).isSome=true then
   if EM (fetchW prog s.pc)=0 then Lh s 2 0 else doI s (aO prog s)
  else Lh s 1 0
 else(s,abE)
def Qj(x:Nat):0<=(kJ x).rd∧(kJ x).rd<32∧0<=(kJ x).rs1∧(kJ x).rs1<32∧0<=(kJ x).rs2∧(kJ x).rs2<32∧(kJ x).imm<4294967296:=by
 unfold kJ;split
 ·exact⟨by decide,by decide,by decide,by decide,by decide,by decide,by decide⟩
 ·have h1:=wZ x 7 5;have h2:=wZ x 15 5;have h3:=wZ x 20 5;refine⟨?_,?_,?_,?_,?_,?_,EU _ _ (uM _)⟩<;>simp only[lQ]<;>split<;>omega
def ZJ(x:Nat):0<=wr (kJ x)∧wr (kJ x)<32:=by
 have:=Qj x;unfold wr;split<;>omega
def Ze:AV->Option Value
 | .tup cs=>match IJ cs with|some l=>some (.tuple l.toArray)|none=>none
 |x=>RE x
def Tf{S:Nat->Prop}{w:World}{β:Bt}{a:AV}{u:Value}(h:Ze a=some u):Rep S w β a u:=by
 cases a with
 | tup cs=>
  simp only[Ze]at h;split at h
  ·rename_i l hl;injection h with h;subst h;have:=DE (S:=S) (w:=w) (β:=β) hl;exact .tup cs l.toArray (by simpa using this.1) λi a u h1 h2=>this.2 i a u h1 (by simpa using h2)
  ·cases h
 |_=>exact GN h
theorem cA.of_tupG{C:Ctx}{f:FuncId}{fn:Func}{args:List AV}{vs:List Value}{r:AV}{v:Value}(hf:C.P.funcs[f]?=some fn)(hb:fn.body.isSome=true)(hnm:(fn.name== "runtime.NumGoroutine")=false)
  (ha:IJ args=some vs) (hr:Ze r=some v) (hc:∀S w,GOk C S w->Calls C.P f vs.toArray w λe w'=>e=.returned v∧Below w.heap.size w w'):cA C f args r:=
 ⟨⟨fn,hf,hb,hnm⟩,λS w us hS hG hu=>by
  rw[Ko ha hu];exact(hc S w hG).mono λe w' ⟨he,hB⟩=>⟨v,he,hB,Tf hr⟩⟩
theorem cA.of_tup{C:Ctx}{f:FuncId}{fn:Func}{args:List AV}{vs:List Value}{r:AV}{v:Value}(hf:C.P.funcs[f]?=some fn)(hb:fn.body.isSome=true)(hnm:(fn.name== "runtime.NumGoroutine")=false)
  (ha:IJ args=some vs) (hr:Ze r=some v) (hc:∀w,Calls C.P f vs.toArray w λe w'=>e=.returned v∧Below w.heap.size w w'):cA C f args r:=
 .of_tupG hf hb hnm ha hr λ_ w _=>hc w
section
variable (i:SI)
def pV:cA C0 59 [siA i] (.v (.int .i64 ((kindOf i.op:Nat):Int))):=
 .of_flat Tryz.func59 rfl rfl rfl rfl λw=>Ik i.op i.rd i.rs1 i.rs2 i.imm w
def FE:cA C0 99 [siA i] (.v (.int .i64 ((bC i.op:Nat):Int))):=
 .of_flat Tryz.func99 rfl rfl rfl rfl λw=>MO i.op i.rd i.rs1 i.rs2 i.imm w
def CJ:cA C0 95 [siA i] (.v (.int .i64 (wr i))):=
 .of_flat Tryz.func95 rfl rfl rfl rfl λw=>NW i.op i.rd i.rs1 i.rs2 i.imm w
def Li(pc a b:Nat)(hi:i.imm<4294967296)(hp:pc<4294967296)(ha:a<4294967296)(hb:b<4294967296):cA C0 147 [siA i,.v (.int .u32 (pc:Int)),.v (.int .u32 (a:Int)),.v (.int .u32 (b:Int))] (.tup [.v (.int .u32 ((iI i.op i.imm pc a b:Nat):Int)),.v (.bool (decide (iI i.op i.imm pc a b%4=0)))]):=
 .of_tup Tryz.func147 rfl rfl rfl rfl λw=>NU i.op i.rd i.rs1 i.rs2 i.imm pc a b w hi hp ha hb
def MI(pc a b:Nat)(hi:i.imm<4294967296)(hp:pc<4294967296)(ha:a<4294967296)(hb:b<4294967296):cA C0 145 [siA i,.v (.int .u32 (pc:Int)),.v (.int .u32 (a:Int)),.v (.int .u32 (b:Int))] (.v (.int .u32 ((rD i.op i.imm pc a b:Nat):Int))):=
 .of_flat Tryz.func145 rfl rfl rfl rfl λw=>Qr i.op i.rd i.rs1 i.rs2 i.imm pc a b w hi hp ha hb
def VX(op:Int)(a b:Nat)(ha:a<4294967296)(hb:b<4294967296):cA C0 146 [.v (.int .i64 op),.v (.int .u32 (a:Int)),.v (.int .u32 (b:Int))] (.v (.int .i64 (pW op a b))):=
 .of_flat Tryz.func146 rfl rfl rfl rfl λw=>(Tj op a b w ha hb).mono λ_ _ ⟨h1,h2⟩=>⟨h1,h2 ▸ Below.refl _ _⟩
def Gz(size:Int)(addr:Nat)(many:Int)(hs:size<9223372036854775808)(ha:addr<4294967296):cA C0 45 [.v (.int .i64 size),.v (.int .u32 (addr:Int)),.v (.int .i64 many)] (.v (.bool (iR size addr many))):=
 .of_flat Tryz.func45 rfl rfl rfl rfl λw=>(Qw size addr many w hs ha).mono λ_ _ ⟨h1,h2⟩=>⟨h1,h2 ▸ Below.refl _ _⟩
def MJ(x n:Nat)(hx:x<4294967296)(hn:n<=4):cA C0 106 [.v (.int .u32 (x:Int)),.v (.int .i64 (n:Int))] (.tup [.v (.string (jH x n)),.v (.int .i64 0)]):=
 .of_tup Tryz.func106 rfl rfl rfl rfl λw=>Qz x n w hx hn
def Yn(s:ByteArray)(hs:s.size<=4):cA C0 132 [.v (.string s)] (.tup [.v (.int .u32 ((joinTo s.data.toList s.size:Nat):Int)),.v (.int .i64 0)]):=
 .of_tup Tryz.func132 rfl rfl rfl rfl λw=>(MQ s w hs).mono λ_ _ ⟨h1,h2⟩=>⟨h1,h2 ▸ Below.refl _ _⟩
def Yo(op:Int)(s:ByteArray)(hs:s.size<9223372036854775808):cA C0 96 [.v (.int .i64 op),.v (.string s)] (.v (.int .u32 ((loadP op s:Nat):Int))):=
 .of_flat Tryz.func96 rfl rfl rfl rfl λw=>Tl op s w hs
end
structure Req where
 kind:Int
 line:Nat
 left:Int
 data:ByteArray
structure Wy where
 line:Nat
 dirty:Bool
 data:ByteArray
structure Ca where
 ways:Int
 sets:List (List Wy)
structure Pt where
 addr:Nat
 data:ByteArray
structure Gs where
 pc:Nat
 next:Nat
structure Gu where
 slots:List Gs
 hist:Nat
 rets:List Nat
structure Ft where
 pc:Nat
 guess:Nat
structure Cf where
 mode:Int
 width:Int
 rob:Int
 queue:Int
 stores:Int
 slots:Int
 sets:Int
 ways:Int
 lat:List Int
 tables:Bool
 tape:List Nat
structure Ent where
 no:Int
 pc:Nat
 i:SI
 guess:Nat
 is:Int
 left:Int
 value:Nat
 next:Nat
 addr:Nat
 halt:Int
 took:Int
 known:Bool
 filled:Bool
structure Co where
 conf:Cf
 prog:List Nat
 cycle:Int
 r:Nat->Nat
 fetch:Nat
 stop:Bool
 fetched:List Ft
 rob:List Ent
 next:Int
 stores:List Pt
 data:Ca
 words:Ca
 bus:List Req
 asked:Int
 guessed:Int
 mem:ByteArray
 guess:Gu
 halt:Int
 retired:List Sp
def oX:ByteArray:=⟨#[]⟩
def Ck:Ent:=⟨0,0,ZL,0,0,0,0,0,0,0,0,false,false⟩
def NO:Req:=⟨0,0,0,oX⟩
def qI:Wy:=⟨0,false,oX⟩
def bW(n lo hi:Int):Int:=if(if n<lo then lo else n)>hi then hi else(if n<lo then lo else n)
def cD(c:Cf):Cf:=
 {mode:=bW c.mode 0 2,width:=bW c.width 1 2,rob:=bW c.rob 2 8,queue:=bW c.queue 1 4,stores:=bW c.stores 1 4,slots:=bW c.slots 2 6
  sets:=if bW c.sets 1 4=3 then 2 else bW c.sets 1 4,ways:=bW c.ways 1 2
  lat:=(c.lat.take 64).map λn=>bW n 1 8,tables:=c.tables,tape:=c.tape.take 64}
def inI(n lo hi:Int):Bool:=decide (n>=lo)&&decide (n<=hi)
def wA(c:Cf):Bool:=
 (c.lat.all λn=>inI n 1 8)&&inI c.mode 0 2&&inI c.width 1 2&&inI c.rob 2 8&&inI c.queue 1 4&&inI c.stores 1 4&&inI c.slots 2 6&&inI c.sets 1 4&&decide (c.sets≠3)&&inI c.ways 1 2&&decide (c.lat.length<=64)&&decide (c.tape.length<=64)
def kM(c:Cf)(k:Int):Int:=
 match(cD c).lat with
 |[]=>1
 |l=>l.getD ((max k 0).toNat%l.length) 1
def yF(c:Cf)(k:Int)(pc:Nat):Nat:=
 match(cD c).tape with
 |[]=>up4 pc
 |l=>l.getD ((max k 0).toNat%l.length) 0
def lineOf(a:Nat):Nat:=a-a%16
def xK(q:List Req)(kind:Int)(line:Nat)(left:Int)(data:ByteArray):List Req:=q++[⟨kind,line,max left 1,data⟩]
def eA(q:List Req):List Req×Req×Bool:=
 match q with
 |[]=>([],NO,false)
 |x::r=>if wrap64 (x.left-1)>0 then({x with left:=wrap64 (x.left-1)}::r,NO,false)else(r,{x with left:=wrap64 (x.left-1)},true)
def DN(q:List Req)(line:Nat)(kind:Int):Bool:=q.any λx=>decide (x.line=line)&&decide (x.kind=kind)
def mZ(q:List Req):Nat:=(q.filter λx=>decide (x.kind≠4)).length
def tU(c:Ca)(line:Nat):Nat:=line/16%c.sets.length
def jG:List Wy->Nat->Option Nat
 |[],_=>none
 |w::l,line=>if w.line=line then some 0 else(jG l line).map (· +1)
def vD(c:Ca)(k:Nat)(set:List Wy):Bool:=
 decide ((set.length:Int)<=c.ways)&&(List.range set.length).all λat_=>match set[at_]? with
  |some w=>decide (lineOf w.line=w.line)&&decide (tU c w.line=k)&&(decide (w.data.size=0)||decide (w.data.size=16))&&(jG (set.take at_) w.line).isNone
  |none=>true
def fS(c:Ca):Bool:=
 (decide (c.sets.length=1)||decide (c.sets.length=2)||decide (c.sets.length=4))&&(decide (c.ways=1)||decide (c.ways=2))&&(List.range c.sets.length).all λk=>match c.sets[k]? with
  |some s=>vD c k s
  |none=>true
def Cl(sets ways:Int):Ca:=⟨bW ways 1 2,List.replicate (if bW sets 1 4=3 then 2 else bW sets 1 4).toNat []⟩
def eU{α:Type}(l:List α)(k:Nat):List α:=(match l[k]? with|some x=>[x]|none=>[])++l.take k++l.drop (k+1)
def qJ(c:Ca)(k:Nat)(set:List Wy):Ca:=⟨c.ways,c.sets.set k set⟩
def bG(c:Ca)(line:Nat):Nat×Option Nat:=
 if fS c=true then(tU c (lineOf line),jG ((c.sets[tU c (lineOf line)]?).getD []) (lineOf line))else(0,none)
def pH(c:Ca)(k:Nat):List Wy:=(c.sets[k]?).getD []
def oK(c:Ca)(line:Nat):Ca:=
 match bG c line with
 |(k,some j)=>qJ c k (eU (pH c k) j)
 |(_,none)=>c
def dB(d:ByteArray):ByteArray:=if d.size=16 then d else oX
def modHd{α:Type}(f:α->α):List α->List α
 |[]=>[]
 |x::l=>f x::l
def pC(c:Ca)(line:Nat)(data:ByteArray)(dirty:Bool):Ca×Wy×Bool:=
 if fS c=true then
  match bG c line with
  |(k,some j)=>(qJ c k (modHd (λw=>{w with data:=if(dB data).size=0 then w.data else dB data,dirty:=w.dirty||dirty}) (eU (pH c k) j)),qI,false)
  | (k,none)=>
   if((pH c k).length:Int)=c.ways then
    (qJ c k (⟨lineOf line,dirty,dB data⟩::(pH c k).dropLast),(pH c k).getLast?.getD qI,true)
   else(qJ c k (⟨lineOf line,dirty,dB data⟩::pH c k),qI,false)
 else(c,qI,false)
def EL(d:ByteArray)(from_:Nat)(b:ByteArray):ByteArray:=d.extract 0 from_++b++d.extract (from_+b.size) d.size
def tV(c:Ca)(addr:Nat)(bytes:ByteArray):Ca×Bool:=
 match bG c addr with
 | (k,some j)=>
  match(pH c k)[j]? with
  |some w=>if w.data.size=0∨bytes.size+addr%16>16 then(c,false)
   else(qJ c k (modHd (λw=>{w with data:=EL w.data (addr%16) bytes,dirty:=true}) (eU (pH c k) j)),true)
  |none=>(c,false)
 |(_,none)=>(c,false)
def qO(c:Ca)(line:Nat):Ca:=
 match bG c line with
 |(k,some j)=>qJ c k ((pH c k).modify j λw=>{w with dirty:=false})
 |(_,none)=>c
def cT(c:Ca):Option Wy:=if fS c=true then c.sets.flatten.find? (·.dirty)else none
def fE(c:Ca):List (List Wy):=if fS c=true then c.sets.map λs=>s.map λw=>{w with data:=oX}else []
def Bq(m:ByteArray)(p:Pt):ByteArray:=
 if p.addr<m.size then m.extract 0 p.addr++p.data.extract 0 (min p.data.size (m.size-p.addr))++m.extract (p.addr+min p.data.size (m.size-p.addr)) m.size else m
def qP(m:ByteArray)(l:List Pt):ByteArray:=l.foldl Bq m
def fU(q:List Req):List Pt:=(q.filter λx=>decide (x.kind=4)).map λx=>⟨x.line,x.data⟩
def jR(q:List Req)(m:ByteArray):ByteArray:=qP m (fU q)
def Lg(c:Ca):List Pt:=c.sets.flatten.map λw=>⟨w.line,w.data⟩
def Cm(c:Ca)(q:List Req)(m:ByteArray):ByteArray:=qP (jR q m) (Lg c)
def Yl(stores:List Pt)(c:Ca)(q:List Req)(m:ByteArray):ByteArray:=qP (Cm c q m) stores
def Fl(m:ByteArray)(line:Nat):ByteArray:=if lineOf line<m.size then m.extract (lineOf line) (lineOf line+min (m.size-lineOf line) 16)else oX
def Ym:Gu:=⟨List.replicate 8 ⟨0,0⟩,0,[]⟩
def sR(g:Gu):Bool:=decide (g.slots.length=8)&&decide (g.hist<8)&&decide (g.rets.length<=4)
def gL(g:Gu)(pc:Nat):Nat:=(pc/4^^^g.hist)%8
def Qi(i:SI):Bool:=(decide (i.op=3)||decide (i.op=4))&&decide (i.rd=1)
def FC(i:SI):Bool:=decide (i.op=4)&&decide (i.rd=0)&&decide (i.rs1=1)
def wY(g:Gu)(pc:Nat)(i:SI):Nat:=
 if sR g=true∧kindOf i.op=5 then
  if FC i=true∧0<g.rets.length then g.rets.getLast?.getD 0
  else match g.slots[gL g pc]? with
   |some s=>if s.pc=pc∧ ¬(s.pc=0∧s.next=0)then s.next else up4 pc
   |none=>up4 pc
 else up4 pc
def fR(g:Gu)(pc next:Nat)(i:SI):Gu:=
 if sR g=true∧kindOf i.op=5 then
  {slots:=g.slots.set (gL g pc) ⟨pc,next⟩
   hist:=(2*g.hist+(if next≠up4 pc then 1 else 0))%8
   rets:=if Qi i=true then(if(g.rets++[up4 pc]).length>4 then(g.rets++[up4 pc]).drop 1 else g.rets++[up4 pc])
    else if FC i=true∧0<g.rets.length then g.rets.dropLast else g.rets}
 else g
@[reducible] def Ctx.at(C:Ctx)(s:Nat):Ctx:={C with fr:=s}
def FF(r:AV):Nat->AV:=λi=>match i with|0=>r|_=>.any
def abP(C:Ctx)(fn:Func)(Post:AV->AH->Prop)(s:Nat):AEx->ASt->Prop
 | .exit _,_=>False
 |_,st=>∃rs,resA C st fn.results.toList=some rs∧GhostN ⟨FF (Da rs),st.h,st.n⟩ (λstg=>∃r h' σ,Post r h'∧keepB s σ (s+1)=true∧Weak stg ⟨FF r,h',s+1⟩ σ)
def fullB(h:AH):Nat->Bool
 |0=>true
 |k+1=>match h k with|some _=>fullB h k|none=>false
theorem uN{h:AH}:∀{s:Nat},fullB h s=true->∀x,x<s->h x≠none
 |0,_,x,hx=>absurd hx (dD _)
 | k+1,hf,x,hx=>by
  simp only[fullB]at hf;split at hf
  ·rename_i b hb;rcases al_Nat_lt_or_ge x k with h|h
   ·exact uN hf x h
   ·have:x=k:=by omega
    subst this;rw[hb];simp
  ·cases hf
theorem JN:∀{fr:Nat} {σ:Nat->Nat} {n:Nat},keepB fr σ n=true->∀x,x<fr->σ x=x∧x<n
 |0,_,_,_,x,hx=>absurd hx (dD _)
 | k+1,σ,n,hf,x,hx=>by
  simp only[keepB]at hf;split at hf
  ·rename_i h1 h2;rcases al_Nat_lt_or_ge x k with h|h
   ·exact JN hf x h
   ·have:x=k:=by omega
    subst this;exact⟨aK h1,aP h2⟩
  ·cases hf
section
variable (S:Nat->Prop)(w:World)(β:Bt)
def OwnB(b:Nat):Prop:=∃x l,β x=some l∧l.blk=b
structure FrP(s:Nat)(S':Nat->Prop)(w':World)(β':Bt):Prop where
 hS:∀b,S b->S' b
 hE:Evo S w w'
 sz:w.heap.size<=w'.heap.size
 keep:∀x l,x<s->β x=some l->β' x=some l
 own:∀x l,β' x=some l->OwnB β l.blk∨w.heap.size<=l.blk
 nw:∀b,S' b->S b∨w.heap.size<=b∨OwnB β b
 still:∀b,b<w.heap.size-> ¬OwnB β b->w'.heap[b]?=w.heap[b]?
def To{S:Nat->Prop}{w w' w2:World}(h:Evo S w w')(e:w2.heap=w'.heap):Evo S w w2:=⟨λb hb=>by rw[e];exact h.stable b hb,λb cs t fr hb=>by rw[e];exact h.shape b cs t fr hb⟩
def FG(s:Nat):Inv s where
 p:=FrP S w β s
 mono:=by
  intro B S1 w1 β1 s1 S2 w2 β2 P K
  refine⟨λb hb=>K.hS b (P.hS b hb),P.hE.trans P.hS K.hE,aN P.sz K.hB.size,λx l hx hl=>K.hle _ _ (P.keep x l hx hl),λx l hl=>?_,λb hb=>?_,λb hb hn=>?_⟩
  ·rcases K.hdom x l hl with h|⟨_,h|⟨y,k,h1,h2⟩⟩
   ·exact P.own x l h
   ·exact .inr (aN P.sz h)
   ·rw[<-h2];exact P.own y k h1
  ·rcases K.hN b hb with h|⟨_,h|⟨y,k,h1,h2⟩⟩
   ·exact P.nw b h
   ·exact .inr (.inl (aN P.sz h))
   ·rcases P.own y k h1 with h|h
    ·exact .inr (.inr (h2 ▸ h))
    ·exact .inr (.inl (h2 ▸ h))
  ·refine(K.hO b (Nat.lt_of_lt_of_le hb P.sz) λy k h1 h2=>?_).trans (P.still b hb hn)
   rcases P.own y k h1 with h|h
   ·exact hn (h2 ▸ h)
   ·rw[h2]at h;omega
 weak:=by
  intro S1 w1 β1 σ n P hk
  refine⟨P.hS,P.hE,P.sz,λx l hx hl=>?_,λx l hl=>?_,P.nw,P.still⟩
  ·obtain⟨h1,h2⟩:=JN hk x hx
   simp only[h2,kY,h1]
   exact P.keep x l hx hl
  ·by_cases hx:x<n
   ·rw[if_pos hx]at hl;exact P.own _ l hl
   ·rw[if_neg hx]at hl;cases hl
 frz:=by
  intro S1 w1 β1 x l P hl
  refine⟨λb hb=>.inl (P.hS b hb),P.hE,P.sz,P.keep,P.own,λb hb=>?_,P.still⟩
  rcases hb with hb|rfl
  ·exact P.nw b hb
  ·exact(P.own x l hl).elim (λh=>.inr (.inr h)) λh=>.inr (.inl h)
 heap:=by
  intro S1 w1 w2 β1 P e
  exact⟨P.hS,To P.hE e,by rw[e];exact P.sz,P.keep,P.own,P.nw,λb hb hn=>by rw[e];exact P.still b hb hn⟩
end
theorem HCall.intro{C:Ctx}{s:Nat}(hC:CtxOk (C.at s)){f:FuncId}{fn:Func}{body:Code}{args:List AV}{h:AH}{Post:AV→AH→Prop}(hf:C.P.funcs[f]?=some fn)(hb:fn.body=some body)(hnm:(fn.name== "runtime.NumGoroutine")=false)
  (hN:uT fn.ntmps body=true) (hlen:Nat.ble args.length fn.ntmps=true) (hfull:fullB h s=true) (hw:eJ (C.at s) (cA (C.at s)) body ⟨argsT args,h,s⟩ (abP (C.at s) fn Post s)) (hdf:C.df=[]:=by rfl):qE C.P C.G f args h s Post:=by
 refine⟨⟨fn,hf,by rw[hb];rfl,hnm⟩,λB S w β vs H hdom hG hargs=>?_⟩;have hlen:=aP hlen;refine calls_of_wp hf hb ?_;have hB0:({w with heap:=w.heap.extract 0 B}:World).heap.size=B:=by
  show(w.heap.extract 0 B).size=B;rw[Array.size_extract];have:=H.big;omega
 have hget:∀b,b<B->(w.heap.extract 0 B)[b]?=w.heap[b]? :=λb hb=>by
  rw[mK,if_pos (by have:=H.big;omega),bF]
 have M0:SimD (C.at s) (FG S w β s) {w with heap:=w.heap.extract 0 B} S fn.ntmps (· <s) (argsT args) h {tmps:=vs.toArray++Array.replicate (fn.ntmps-vs.toArray.size) undef,defers:=[]} w S β:=by
  have hl:vs.length=args.length:=hargs.1.symm;refine⟨λi=>?_,by rw[hB0];exact H,⟨rfl,rfl,rfl,by rw[hB0];exact H.big,λb hb=>?_⟩,hdom,hdf.symm,by simp;omega,hG,λ_ h=>.inl h,⟨λ_ h=>h,Evo.refl _ _,aC _,λ_ _ _ h=>h,λx l h=>.inl ⟨x,l,h,rfl⟩,λ_ h=>.inl h,λ_ _ _=>rfl⟩⟩
  ·rw[zX]
   cases ha:args[i]? with
   |none=>exact .any _
   | some x=>
    have hi:i<vs.length:=by rw[hl];exact(DS.1 ha).1
    have hv:vs[i]?=some vs[i]:=aA hi;have:(vs.toArray++Array.replicate (fn.ntmps-vs.toArray.size) undef).getD i undef=vs[i]:=by
     rw[aI,dL (by simpa using hi),eK,hv];rfl
    rw[this];exact hargs.2 i x _ ha hv
  ·rw[hB0]at hb;exact(hget b hb).symm
 refine wp_mono (Cx hC body hN ⟨argsT args,h,s⟩ _ hw _ w S β M0) ?_;rintro e a' w' ⟨e',st,S',β',rfl,hfin,M⟩;have fin:(∃rs,resA (C.at s) st fn.results.toList=some rs∧GhostN ⟨FF (Da rs),st.h,st.n⟩ (λstg=>∃r h' σ,Post r h'∧keepB s σ (s+1)=true∧Weak stg ⟨FF r,h',s+1⟩ σ))->a'.defers=[]∧∃v,(results fn a'.tmps).run C.P w'=.ok v w'∧∃v' S2 β2 r h',Post r h'∧Ending.returned v=.returned v'∧Rep S2 w' β2 r v'∧SimH B S2 w' β2 h'∧StepK B S w β s S2 w' β2:=by
  rintro⟨rs,h1,stg,hgs,r,h',σ,hP,hk,hW⟩;obtain⟨t,hh,n⟩:=st;obtain⟨us,g1,g2⟩:=IL hC M _ rs h1;have hret:Rep S' w' β' (Da rs) (if h:us.toArray.size=1 then us.toArray[0]else .tuple us.toArray):=by
   match rs,us,g2 with
   |[],us,g2=>
    have:us=[]:=aR g2.1.symm;subst this
    exact .tup [] #[] rfl λi a u p=>by simp at p
   |[x],us,g2=>
    match us,g2 with
    |[u],g2=>simpa [Da]using g2.2 0 x u rfl rfl
    |[],g2=>exact absurd g2.1 (by simp)
    |_::_::_,g2=>exact absurd g2.1 (by simp)
   | x::y::zs,us,g2=>
    have hne: ¬us.toArray.size=1:=by
     have:=g2.1;simp at this⊢;omega
    rw[dif_neg hne];exact .tup _ _ (by simpa using g2.1) λi a u p q=>g2.2 i a u p (by simpa using q)
  refine⟨M.df.trans hdf,_,yN _ us g1 fn rfl,?_⟩;generalize hv:(if h:us.toArray.size=1 then us.toArray[0]else .tuple us.toArray)=v at hret⊢;have M1:SimD (C.at s) (FG S w β s) {w with heap:=w.heap.extract 0 B} S 1 (· <n) (FF (Da rs)) hh {tmps:= #[v],defers:=a'.defers} w' S' β':=by
   refine⟨λi=>?_,M.H,M.B,M.dom,M.df,rfl,M.G,M.nw,M.iv⟩
   cases i with
   |zero=>exact hret
   |succ i=>exact .any _
  obtain⟨S2,M2⟩:=nJ hgs M1;have M3:=pM hW hk M2;have hr:=M3.T 0;refine⟨v,S2,_,r,h',hP,rfl,hr,by have:=M3.H;rwa [hB0]at this,?_⟩;have P:FrP S w β s S2 w' _:=M3.iv;have hfl:=uN hfull;refine⟨P.hS,P.hE,⟨M3.B.os,M3.B.tape,M3.B.output,P.sz,λb hb=>?_⟩,λx l hl=>P.keep x l (hdom x l hl) hl,λx l hl=>?_,λb hb=>?_,λb hb hn=>P.still b hb λ⟨x,l,h1,h2⟩=>hn x l h1 h2⟩
  ·rw[M3.B.block b (by rw[hB0];exact hb)];exact hget b hb
  ·rcases al_Nat_lt_or_ge x s with hx|hx
   ·obtain⟨blk,hblk⟩:=DD.1 (hfl x hx);obtain⟨l0,_,_,_,k1,_⟩:=H.own x blk hblk;have:=P.keep x l0 hx k1;rw[hl]at this;injection this with this;subst this;exact .inl k1
   ·have hx':x=s:=by
     have:=M3.dom x l hl;have:x<s+1:=this;omega
    refine .inr ⟨hx',?_⟩;rcases P.own x l hl with ⟨y,k,h1,h2⟩|h
    ·exact .inr ⟨y,k,h1,h2⟩
    ·exact .inl h
  ·rcases P.nw b hb with h|h|⟨y,k,h1,h2⟩
   ·exact .inl h
   ·exact .inr ⟨aN H.big h,.inl h⟩
   ·rcases M3.nw b hb with h|h
    ·exact .inl h
    ·exact .inr ⟨by rwa [hB0]at h,.inr ⟨y,k,h1,h2⟩⟩
 cases e' with
 |normal=>exact fin hfin
 |ret=>exact fin hfin
 |exit i=>exact hfin.elim
def Lq{S:Nat->Prop}{w:World}{β:Bt}{a:AV}{v:Value}(hr:Rep S w β a v):∀{β':Bt} {ρ:Nat->Nat},(∀x l,β x=some l->β' (ρ x)=some l)->Rep S w β' (uX ρ a) v:=by
 induction hr with
 |v x=>intro β' ρ _;exact .v x
 |agg cs vs hl h1 h ih=>
  intro β' ρ hb;refine .agg _ vs (by rw[uA];exact hl) h1 λi a u p q=>?_;rw[pL]at p;obtain⟨y,hy,rfl⟩:=FI.1 p
  exact ih i y u hy q hb
 |tup cs vs hl h ih=>
  intro β' ρ hb;refine .tup _ vs (by rw[uA];exact hl) λi a u p q=>?_;rw[pL]at p;obtain⟨y,hy,rfl⟩:=FI.1 p
  exact ih i y u hy q hb
 |sl rs rows clip A c b o u hc hm hcl hrs hA hw h1 hr ih=>intro β' ρ _;exact .sl rs rows clip A c b o u hc hm hcl hrs hA hw h1 hr
 |dp rs col row b o u hrs hb hw h1 hr ih=>intro β' ρ _;exact .dp rs col row b o u hrs hb hw h1 hr
 |ptr s col l hl=>intro β' ρ hb;exact .ptr _ col l (hb _ _ hl)
 |ptr2 s row col l hl=>intro β' ρ hb;exact .ptr2 _ row col l (hb _ _ hl)
 |osl s lo len clip l A c hl hc hm hcl hA cs e fr hb room=>intro β' ρ hb';exact .osl _ lo len clip l A c (hb' _ _ hl) hc hm hcl hA cs e fr hb room
 | clo f first caps vs us hl h hl' h' ih ih'=>
  intro β' ρ hb;refine .clo f _ _ vs us (by rw[uA];exact hl) (λi a u p q=>?_) (by rw[uA];exact hl') λi a u p q=>?_
  ·rw[pL]at p;obtain⟨y,hy,rfl⟩:=FI.1 p;exact ih i y u hy q hb
  ·rw[pL]at p;obtain⟨y,hy,rfl⟩:=FI.1 p
   exact ih' i y u hy q hb
 |optT g a x hg h ih=>intro β' ρ hb;exact .optT g _ x hg (ih hb)
 |optF g a hg=>intro β' ρ _;exact .optF g _ hg
 |any x=>intro β' ρ _;exact .any x
def QA{S:Nat->Prop}{w:World}{β β':Bt}{ρ:Nat->Nat}{l:Loc}{cs:Array Value}{blk:Blk}(k:Ba S w β l cs blk)(hb:∀x l,β x=some l->β' (ρ x)=some l):Ba S w β' l cs (Du ρ blk):=by
 cases blk with
 |box cells=>
  intro j a hj;rw[pL]at hj;obtain⟨y,hy,rfl⟩:=FI.1 hj;obtain⟨u,p1,p2,p3⟩:=k j y hy
  exact⟨u,p1,p2,Lq p3 hb⟩
 |arr rows rs=>exact k
 |row cells=>
  refine⟨k.1,λj a hj=>?_⟩;rw[pL]at hj;obtain⟨y,hy,rfl⟩:=FI.1 hj;obtain⟨u,p1,p2,p3⟩:=k.2 j y hy;exact⟨u,p1,p2,Lq p3 hb⟩
def NZ{S:Nat->Prop}{w:World}{β:Bt}{ρ:Nat->Nat}{n:Nat}{l:Loc}{cs:Array Value}{blk:Blk}(hb:qU n blk=true)(k:Ba S w β l cs (Du ρ blk)):Ba S w (λs=>if s<n then β (ρ s)else none) l cs blk:=by
 cases blk with
 |box cells=>
  intro j a hj;obtain⟨u,q1,q2,q3⟩:=k j (uX ρ a) (by rw[pL,hj];rfl)
  exact⟨u,q1,q2,Cv _ _ _ (aC _) (tH _ cells (by simpa [qU]using hb) j a hj) q3⟩
 |arr rows rs=>exact k
 |row cells=>
  refine⟨k.1,λj a hj=>?_⟩;obtain⟨u,q1,q2,q3⟩:=k.2 j (uX ρ a) (by rw[pL,hj];rfl);exact⟨u,q1,q2,Cv _ _ _ (aC _) (tH _ cells (by simpa [qU]using hb) j a hj) q3⟩
def FH(ρ:Nat->Nat)(s s2:Nat):Nat->Nat:=λx=>match Nat.beq x s with|true=>s2|false=>ρ x
def wD(ρ:Nat->Nat)(s s2:Nat):FH ρ s s2 s=s2:=by simp[FH]
def rY(ρ:Nat->Nat){s s2 x:Nat}(h:x≠s):FH ρ s s2 x=ρ x:=by
 unfold FH;have:Nat.beq x s=false:=by rw[<-eI];exact λe=>h (aK e)
 rw[this]
theorem qE.frame{P:Program}{G:Nat->Option (List AV)}{f:FuncId}{args:List AV}{h:AH}{s:Nat}{Post:AV->AH->Prop}(H:qE P G f args h s Post)(ρ:Nat->Nat)(K:AH)(s2:Nat)(hfull:fullB h s=true)(hlt:∀x,h x≠none->x<s)
  (h1:∀x blk,h x=some blk->ρ x<s2∧qU s blk=true∧K (ρ x)=some (Du ρ blk)) (h2:∀x y,x<s->y<s->ρ x=ρ y->x=y) (ha:mM s args=true)
  (Post':AV->AH->Prop) (hPost:∀r h',Post r h'->∃K',Post' (uX (FH ρ s s2) r) K'∧∀y blk,K' y=some blk->(∃x blk0,h' x=some blk0∧y=FH ρ s s2 x∧blk=Du (FH ρ s s2) blk0)∨(K y=some blk∧∀x,x<s->ρ x≠y)):
  qE P G f (Bb ρ args) K s2 Post':=by
 refine⟨H.1,λB S w β vs HK hdom hG hargs=>?_⟩;have hfl:=uN hfull;have hβ:∀x,x<s->∃l,β (ρ x)=some l∧K (ρ x)≠none:=λx hx=>by
  obtain⟨blk,hblk⟩:=DD.1 (hfl x hx);obtain⟨_,_,e⟩:=h1 x blk hblk;obtain⟨l,_,_,_,k1,_⟩:=HK.own _ _ e;exact⟨l,k1,by rw[e];simp⟩
 have HS:SimH B S w (λx=>if x<s then β (ρ x)else none) h:=by
  refine⟨λx blk hx=>?_,λx x' l l' hx hx' e e' hb=>?_,HK.lt,HK.big⟩
  ·obtain⟨_,b1,e⟩:=h1 x blk hx;have hxs:=hlt x (by rw[hx];simp);obtain⟨l,cs,t,fr,k1,k2,k3,k4,k5,k6⟩:=HK.own _ _ e;exact⟨l,cs,t,fr,by simp only[hxs,kY];exact k1,k2,k3,k4,k5,NZ b1 k6⟩
  ·have g1:=hlt x hx;have g2:=hlt x' hx';rw[if_pos g1]at e;rw[if_pos g2]at e';exact h2 x x' g1 g2 (HK.inj _ _ _ _ (hβ x g1).choose_spec.2 (hβ x' g2).choose_spec.2 e e' hb)
 have hL:RepL S w (λx=>if x<s then β (ρ x)else none) args vs:=by
  refine⟨by rw[<-hargs.1,uA],λi a u p q=>?_⟩;exact Cv _ _ _ (aC _) (tH _ args ha i a p) (hargs.2 i (uX ρ a) u (by rw[pL,p];rfl) q)
 refine(H.2 B S w _ vs HS (λx l hl=>?_) hG hL).mono ?_
 ·by_cases hx:x<s
  ·exact hx
  ·rw[if_neg hx]at hl;cases hl
 rintro e w' ⟨v,S',βc,r,h',hP,rfl,hr,HS',KK⟩;obtain⟨K',hP',h3⟩:=hPost r h' hP;have old:∀x l,(if x<s then β (ρ x)else none)=some l->x<s∧β (ρ x)=some l:=λx l hl=>by
  by_cases hx:x<s
  ·rw[if_pos hx]at hl;exact⟨hx,hl⟩
  ·rw[if_neg hx]at hl;cases hl
 have hmap:∀x l,βc x=some l->(λy=>if y=s2 then βc s else β y) (FH ρ s s2 x)=some l:=λx l hl=>by
  rcases KK.hdom x l hl with h|⟨h,_⟩
  ·obtain⟨hx,hx'⟩:=old x l h;have:ρ x<s2:=hdom _ _ hx';rw[rY ρ (by omega)];show(if ρ x=s2 then βc s else β (ρ x))=some l;rw[if_neg (by omega)];exact hx'
  ·subst h;rw[wD];show(if s2=s2 then βc x else β s2)=some l;rw[if_pos rfl];exact hl
 have hle:LY β (λy=>if y=s2 then βc s else β y):=λy l hl=>by
  have:=hdom y l hl;show(if y=s2 then βc s else β y)=some l;rw[if_neg (by omega)];exact hl
 have other:∀y blk l,K y=some blk->β y=some l->(∀x,x<s->ρ x≠y)->∀x k,(if x<s then β (ρ x)else none)=some k->k.blk≠l.blk:=λy blk l hy hl hne x k hk e=>by
  obtain⟨hx,hx'⟩:=old x k hk;exact hne x hx (HK.inj _ _ _ _ (hβ x hx).choose_spec.2 (by rw[hy];simp) hx' hl e)
 refine⟨v,S',λy=>if y=s2 then βc s else β y,_,K',hP',rfl,Lq hr hmap,⟨λy blk hy=>?_,λy y' l l' hy hy' e1 e2 hb=>?_,HS'.lt,HS'.big⟩,⟨KK.hS,KK.hE,KK.hB,hle,λy l hl=>?_,λb hb=>?_,λb hb hn=>KK.hO b hb λx k hk=>?_⟩⟩
 ·rcases h3 y blk hy with ⟨x,blk0,e1,rfl,rfl⟩|⟨e1,hne⟩
  ·obtain⟨l,cs,t,fr,k1,k2,k3,k4,k5,k6⟩:=HS'.own x blk0 e1;exact⟨l,cs,t,fr,hmap x l k1,k2,k3,k4,k5,QA k6 hmap⟩
  ·obtain⟨l,cs,t,fr,k1,k2,k3,k4,k5,k6⟩:=HK.own y blk e1;have hdiff:=other y blk l e1 k1 hne;have hlt:=fQ k2;refine⟨l,cs,t,fr,hle _ _ k1,(KK.hO _ hlt hdiff).trans k2,k3,k4,λhS=>?_,k6.mono KK.hS KK.hE hle⟩;rcases KK.hN _ hS with h|⟨_,h|⟨x,k,q1,q2⟩⟩
   ·exact k5 h
   ·omega
   ·exact hdiff x k q1 q2
 ·
  have sort:∀y l,K' y≠none->(if y=s2 then βc s else β y)=some l->(∃x,h' x≠none∧βc x=some l∧y=FH ρ s s2 x)∨(K y≠none∧β y=some l∧∀x,x<s->ρ x≠y):=λy l hy hl=>by
   obtain⟨blk,hblk⟩:=DD.1 hy;rcases h3 y blk hblk with ⟨x,blk0,e1,e2,_⟩|⟨e1,hne⟩
   ·obtain⟨l0,_,_,_,k1,_⟩:=HS'.own x blk0 e1;have:=hmap x l0 k1;rw[<-e2]at this;rw[show(λy=>if y=s2 then βc s else β y) y=(if y=s2 then βc s else β y)from rfl,hl]at this;injection this with this;subst this;exact .inl ⟨x,by rw[e1];simp,k1,e2⟩
   ·obtain⟨l0,_,_,_,k1,_⟩:=HK.own y blk e1;have hys:y<s2:=hdom y l0 k1;rw[if_neg (by omega)]at hl;exact .inr ⟨by rw[e1];simp,hl,hne⟩
  have mix:∀y l x l',K y≠none->β y=some l->(∀x,x<s->ρ x≠y)->h' x≠none->βc x=some l'->l.blk≠l'.blk:=λy l x l' hy hl hne hx hl' e=>by
   obtain⟨blk,hblk⟩:=DD.1 hy;have hdiff:=other y blk l hblk hl hne;obtain⟨l0,_,_,_,k1,k2,_⟩:=HK.own y blk hblk;rw[hl]at k1;injection k1 with k1;subst k1;have hlt:=fQ k2;rcases KK.hdom x l' hl' with h|⟨_,h|⟨z,k,q1,q2⟩⟩
   ·exact hdiff x l' h e.symm
   ·omega
   ·exact hdiff z k q1 (q2.trans e.symm)
  rcases sort y l hy e1 with ⟨x,a1,a2,a3⟩|⟨a1,a2,a3⟩<;>rcases sort y' l' hy' e2 with ⟨x',b1,b2,b3⟩|⟨b1,b2,b3⟩
  ·rw[a3,b3,HS'.inj x x' l l' a1 b1 a2 b2 hb]
  ·exact absurd hb.symm (mix y' l' x l b1 b2 b3 a1 a2)
  ·exact absurd hb (mix y l x' l' a1 a2 a3 b1 b2)
  ·exact HK.inj y y' l l' a1 b1 a2 b2 hb
 ·have hl:(if y=s2 then βc s else β y)=some l:=hl;by_cases hy:y=s2
  ·rw[if_pos hy]at hl;refine .inr ⟨hy,?_⟩;rcases KK.hdom s l hl with h|⟨_,h|⟨z,k,q1,q2⟩⟩
   ·exact absurd (old s l h).1 (dU _)
   ·exact .inl h
   ·exact .inr ⟨_,k,(old z k q1).2,q2⟩
  ·rw[if_neg hy]at hl;exact .inl hl
 ·rcases KK.hN b hb with h|⟨hB,h|⟨x,k,q1,q2⟩⟩
  ·exact .inl h
  ·exact .inr ⟨hB,.inl h⟩
  ·exact .inr ⟨hB,.inr ⟨_,k,(old x k q1).2,q2⟩⟩
 ·exact hn _ k (old x k hk).2
theorem qE.frame1{P:Program}{G:Nat->Option (List AV)}{f:FuncId}{args:List AV}{blk blk1:Blk}{r:AV}(H:qE P G f args (heapF [(0,blk)]) 1 (λx h'=>x=r∧h'=heapF [(0,blk1)]))(b:Nat)(K:AH)(s2:Nat)(hb:b<s2)
  (hbl:qU 1 blk=true) (hK:K b=some (Du (λ_=>b) blk)) (ha:mM 1 args=true):
  qE P G f (Bb (λ_=>b) args) K s2 (λx h'=>x=uX (FH (λ_=>b) 1 s2) r∧h'=upd K b (some (Du (FH (λ_=>b) 1 s2) blk1))):=by
 refine H.frame (λ_=>b) K s2 rfl (λx hx=>?_) (λx blk0 hx=>?_) (λx y hx hy _=>by omega) ha _ λr' h' hP=>?_
 ·cases x with
  |zero=>omega
  |succ x=>exact absurd rfl hx
 ·cases x with
  |zero=>injection hx with hx;subst hx;exact⟨hb,hbl,hK⟩
  |succ x=>cases hx
 ·obtain⟨rfl,rfl⟩:=hP;refine⟨_,⟨rfl,rfl⟩,λy blk0 hy=>?_⟩;by_cases he:y=b
  ·subst he;rw[cZ]at hy;injection hy with hy;exact .inl ⟨0,blk1,rfl,rfl,hy.symm⟩
  ·rw[cH _ _ he]at hy;exact .inr ⟨hy,λx hx e=>he e.symm⟩
theorem CtxOk.at{C:Ctx}{s:Nat}(h:CtxOk C):CtxOk (C.at s):=⟨h.ty,h.mixed,h.hH⟩
def CO{C:Ctx}{R:FuncId->List AV->AV->Prop}{Q:AEx->ASt->Prop}{κ:Type}(S:κ->ASt)(G:κ->Prop){a b:Code}{st:ASt}(ka:eJ C R a st (λe st'=>match e with| .normal=>GhostN st' (λst''=>∃k σ,Weak st'' (S k) σ∧keepB C.fr σ (S k).n=true∧G k)|e=>Q e st'))(kb:∀k,G k->eJ C R b (S k) Q):eJ C R (.seq a b) st Q:=
 Zi S G ka kb kV
def pK{C:Ctx}{fn:Func}{Post:AV->AH->Prop}{s:Nat}{st:ASt}{rs:List AV}(h1:resA C st fn.results.toList=some rs){r:AV}{h':AH}{σ:Nat->Nat}(hP:Post r h')(hk:keepB s σ (s+1)=true)(hW:Weak ⟨FF (Da rs),st.h,st.n⟩ ⟨FF r,h',s+1⟩ σ):
  ∃rs,resA C st fn.results.toList=some rs∧GhostN ⟨FF (Da rs),st.h,st.n⟩ (λstg=>∃r h' σ,Post r h'∧keepB s σ (s+1)=true∧Weak stg ⟨FF r,h',s+1⟩ σ):=
 ⟨rs,h1,.mk _ (.refl _) ⟨r,h',σ,hP,hk,hW⟩⟩
def cI{st:ASt}{x r:AV}{hp:List (Nat×Blk)}{n:Nat}(σ:Nat->Nat)(hx:x=uX σ r)(hb:mL n r=true)(hh:WH ⟨FF x,st.h,st.n⟩ n σ hp)(hi:DT ((hp.map (·.1)).map σ)=true):Weak ⟨FF x,st.h,st.n⟩ ⟨FF r,heapF hp,n⟩ σ:=by
 have W:=Weak.of_lists (st:=⟨FF x,st.h,st.n⟩) (l:=[(0,r)]) (hp:=hp) (n:=n) σ ⟨⟨hx,hb⟩,trivial⟩ hh hi;refine⟨λi=>?_,W.h,W.inj⟩;have:=W.t i
 cases i with
 |zero=>exact this
 |succ i=>exact .inl rfl
def LeL(fz:Fz):List AV->List AV->Prop
 |[],[]=>True
 |a::as_,b::bs=>LeZ fz a b∧LeL fz as_ bs
 |_,_=>False
theorem LeL.get{fz:Fz}:∀{as_ bs:List AV},LeL fz as_ bs->as_.length=bs.length∧∀(i:Nat) a d,as_[i]?=some a->bs[i]?=some d->LeZ fz a d
 |[],[],_=>⟨rfl,λi a d h=>by simp at h⟩
 |a::as_,b::bs,h=>by
  obtain⟨h1,h2⟩:=LeL.get h.2;refine⟨by simp[h1],λi x y hx hy=>?_⟩
  cases i with
  |zero=>simp at hx hy;subst hx hy;exact h.1
  |succ i=>exact h2 i x y (by simpa using hx) (by simpa using hy)
 |[],_::_,h=>h.elim
 |_::_,[],h=>h.elim
theorem LeB.boxL{fz:Fz}{as_ bs:List AV}(h:LeL fz as_ bs):LeB fz (.box as_) (.box bs):=.box as_ bs h.get.1 h.get.2
def GT(st:ASt)(fz:Fz):List (Nat×AV)->Prop
 |[]=>True
 |(i,x)::l=>LeZ fz (st.t i) x∧GT st fz l
def GH(st:ASt)(fz:Fz):List (Nat×Blk)->Prop
 |[]=>True
 |(i,x)::l=>((match fz with|some (b,_,_)=>Nat.beq i b=false|none=>True)∧∃b0,st.h i=some b0∧LeB fz b0 x)∧GH st fz l
theorem Ghost.of_lists{st:ASt}{fz:Fz}{l:List (Nat×AV)}{hp:List (Nat×Blk)}(hb:match fz with|some (x,rs,rows)=>st.h x=some (.arr rows rs)|none=>True)(ht:GT st fz l)(hh:GH st fz hp):Ghost st ⟨slotsF l,heapF hp,st.n⟩ fz:=by
 refine⟨λx rs rows h=>(by subst h;exact hb),rfl,λi=>?_,λs blk hs=>?_⟩
 ·clear hh hb
  induction l with
  |nil=>exact .any _
  |cons p l ih=>
   obtain⟨j,x⟩:=p;simp only[slotsF]
   cases hq:Nat.beq j i with
   |true=>rw[<-aK hq];exact ht.1
   |false=>exact ih ht.2
 ·clear ht hb
  induction hp with
  |nil=>cases hs
  | cons p hp ih=>
   obtain⟨j,x⟩:=p
   change heapF _ _=_ at hs
   simp only[heapF]at hs
   cases hq:Nat.beq j s with
   |true=>
    rw[hq]at hs;injection hs with hs;subst hs;rw[<-aK hq];refine⟨λx rs rows hz e=>?_,hh.1.2⟩;have:=hh.1.1;subst hz;simp only at this;rw[e]at this
    simp at this
   |false=>rw[hq]at hs;exact ih hh.2 hs
set_option maxRecDepth 100000
set_option maxHeartbeats 4000000
abbrev eE(n:Nat):List AV:=[.v (.int .u32 (n:Int))]
theorem sU:∀(l:List UInt8),iG (l.map λb=>[.v (.int .u8 (b.toNat:Int))])=some l
 |[]=>rfl
 |b::l=>by
  simp only[jI,iG,sU l];simp
def dF{C:Ctx}{fn:Func}{r:AV}{st:ASt}{rs:List AV}(h1:resA C st fn.results.toList=some rs)(h2:jT st.h (Da rs))(h3:eL (vR st.h (Da rs))=true)(h4:vR st.h (Da rs)=r):Uc C fn r st:=yL h1 h2 h3 h4
def fT{C:Ctx}{fn:Func}{r:AV}{st:ASt}{rs:List AV}(h1:resA C st fn.results.toList=some rs)(h4:vR st.h (Da rs)=r)(h2:jT st.h (Da rs):=by exact trivial)(h3:eL (vR st.h (Da rs))=true:=by exact rfl):Uc C fn r st:=dF h1 h2 h3 h4
def EV(i:SI):cA C0 60 [siA i] (.tup [.v (.int .i64 i.rs1),.v (.int .i64 i.rs2)]):=by
 refine cA.intro c0Ok Tryz.func60 rfl rfl (by kernel_rfl) rfl<|qSC 0 rfl<|kO rfl<|oR 6 rfl<|rE 9<|qXF 0 rfl ?_;exact yL rfl trivial rfl rfl
def Tp{prog:List Nat}{pc:Nat}(h1:pc%4=0)(h2:pc/4<prog.length):∃x,fetchP prog pc=some x∧prog[((pc/4:Nat):Int).toNat]?=some x:=by
 refine⟨prog[pc/4],?_,?_⟩
 ·unfold fetchP;rw[if_pos h1,aA h2]
 ·rw[Int.toNat_natCast,aA h2]
def Tq{prog:List Nat}{pc:Nat}(h:pc%4≠0∨prog.length<=pc/4):fetchP prog pc=none:=by
 unfold fetchP;split
 ·exact bO (by omega)
 ·rfl
def QB{prog:List Nat}(hp:∀x∈prog,x<=4294967295)(pc:Nat):fetchW prog pc<=4294967295:=by
 unfold fetchW fetchP;split
 ·cases h:prog[pc/4]? with
  |none=>exact aE _
  |some x=>exact hp x (aB h)
 ·exact aE _
def Ls(i:SI)(a:Nat):addrOf i a<=4294967295:=by unfold addrOf;omega
def zP(a:Nat):up4 a<=4294967295:=by unfold up4;omega
def Ts{m:ByteArray}(h:m.size<=256)(a n:Nat):(rJ m a n).size<9223372036854775808:=by
 unfold rJ;rw[dX];omega
def CP(x:Nat):(decE x != 0)=true↔EM x=0:=by
 unfold decE;split<;>simp_all
def Wh{n:Nat}(h:n<=1000000):IntKind.wrap .u64 ((n:Int))=(n:Int):=by
 simp only[IntKind.wrap,IntKind.signed,IntKind.bits];simp;omega
def MR(prog:List Nat)(pc:Nat)(clip:Bool)(hp:∀x∈prog,x<=4294967295)(hl:prog.length<=1000000)(hpc:pc<=4294967295):cA C0 73 [.sl 1 (prog.map eE) clip,.v (.int .u32 (pc:Int))] (.tup [.v (.int .u32 (fetchW prog pc:Int)),.v (.bool (fetchP prog pc).isSome)]):=by
 refine cA.intro c0Ok Tryz.func73 rfl rfl (by kernel_rfl) rfl ?_;have b1:pc%4<=3:=aY (bE _ (by decide));refine qS 0 rfl<|cU (x:=.v (.int .u32 ((pc%4:Nat):Int))) rfl rfl rfl (by decide)<|rOk (x:=.v (.bool ((pc%4) != 0))) rfl rfl (okB (neN _ _)) ?_;have b2:pc/4<=1073741823:=jA hpc;refine qR 0 rfl<|uV (x:=.v (.int .u32 ((pc/4:Nat):Int))) (g:= !((pc%4) != 0)) rfl rfl rfl rfl (λh=>h) rfl (IK (IC b2 rfl)) (λhg=>by decide)<|gBS (x:=.v (.int .u64 ((pc/4:Nat):Int))) rfl id (okI (IC b2 rfl))<|qR 0 rfl<|gBS (x:=.v (.int .i64 ((prog.map eE).length:Int))) rfl id rfl<|gBS (x:=.v (.int .u64 ((prog.length:Nat):Int))) rfl id (by show Res.ok (.v (.int .u64 (IntKind.wrap .u64 ((((prog.map eE).length:Nat):Int)))))=_;rw[aG,Wh hl])<|gBS (x:=.v (.bool (decide ((pc/4)>=prog.length)))) rfl hsT (okB (geN _ _))<|cU rfl rfl rfl (by simp) ?_;refine qRC 0 rfl<|aS rfl (λh1=>?_) (λh1=>?_)
 ·refine qCF 0 rfl ?_;exact dF rfl trivial rfl (by unfold fetchW;rw[Tq (by simp[cR,bne]at h1;split at h1<;>first|(left;assumption)|(right;assumption)|simp_all)];rfl)
 ·skip
  have b3:pc/4<=1073741823:=jA hpc;refine qC 0 rfl<|cU (x:=.v (.int .u32 ((pc/4:Nat):Int))) rfl rfl (IK (IC b3 rfl)) (by decide) ?_;obtain⟨x,hf,hxx⟩:=Tp (prog:=prog) (pc:=pc) (by simp[cR,bne]at h1;split at h1<;>simp_all) (by simp[cR,bne]at h1;split at h1<;>simp_all);have hx:x<=4294967295:=hp x (aB hxx);refine ID (eE x) (x:=.dp 1 0 (eE x)) rfl rfl rfl (⟨by omega,by rw[bD];exact congrArg (Option.map eE) hxx⟩) rfl ?_;refine qRF 0 rfl ?_;exact dF rfl trivial rfl (by unfold fetchW;rw[hf];rfl)
def xD{size:Nat}{addr:Nat}{n:Nat}(h:iR (size:Int) addr (n:Int)=true):addr+n<=size∧0<n∧n<=4:=by
 simp only[iR,aJ,bB]at h;omega
def aaC(m:ByteArray)(addr n:Nat)(hr:iR (m.size:Int) addr (n:Int)=true)(hm:m.size<=256)(ha:addr<=4294967295):cA C0 97 [.v (.string m),.v (.int .u32 (addr:Int)),.v (.int .i64 (n:Int))] (.tup [.v (.string (rJ m addr n)),.v (.int .i64 0)]):=by
 refine cA.intro c0Ok Tryz.func97 rfl rfl (by kernel_rfl) rfl ?_;have hn:n<=4:=(xD hr).2.2;refine qS 0 rfl<|rOk (x:=.v (.int .i64 (m.size:Int))) rfl rfl rfl<|qR 0 rfl<|rCl rfl (.inl rfl) (Gz _ _ _ (by omega) (by omega)) ?_;refine qRC 0 rfl<|aS rfl (λh1=>by rw[hr]at h1;cases h1) (λ_=>?_);refine qC 0 rfl<|rOk (x:=.v (.int .i64 (addr:Int))) rfl rfl (okI (bJ ha rfl)) ?_;have b1:addr+n<=4294967299:=aF ha hn;refine qR 0 rfl<|rOk (x:=.v (.int .i64 ((addr+n:Nat):Int))) rfl rfl (okI (bJ b1 rfl)) ?_;refine cU (x:=.v (.string (m.extract addr (addr+n)))) rfl rfl rfl (by have q:=xD hr;refine⟨?_,?_,?_⟩<;>simp<;>omega) ?_;refine qRF 0 rfl ?_;exact yL rfl trivial rfl rfl
def rH(m:ByteArray):(aW m).length=m.size:=by simp[aW]
def Oa(m b:ByteArray)(addr:Nat)(h:addr+b.size<=m.size)(h':addr<=m.size):
  iG (((((((List.take addr (List.drop 0 (aW m)))++aW b).drop 0).take ((List.take addr (List.drop 0 (aW m))).length+(aW b).length))++((aW m).drop (0+(addr+b.size))).take (((m.size:Int)-((addr+b.size:Nat):Int)).toNat)).drop 0).take
   ((((((List.take addr (List.drop 0 (aW m)))++aW b).drop 0).take ((List.take addr (List.drop 0 (aW m))).length+(aW b).length))).length+(((aW m).drop (0+(addr+b.size))).take (((m.size:Int)-((addr+b.size:Nat):Int)).toNat)).length))=some (m.data.toList.take addr++b.data.toList++m.data.toList.drop (addr+b.size)):=by
 simp only[cB,bF];rw[<-aQ,cM, <-aQ,cM];have e:(((m.size:Int)-((addr+b.size:Nat):Int)).toNat)=((aW m).drop (addr+b.size)).length:=by
  rw[aU,rH];omega
 rw[e,cM];simp only[aW];rw[<-eZ, <-kI, <-dY, <-dY];exact sU _
def Yu(m:ByteArray)(addr:Nat)(b:ByteArray)(hr:iR (m.size:Int) addr (b.size:Int)=true)(hm:m.size<=256)(ha:addr<=4294967295):cA C0 183 [.v (.string m),.v (.int .u32 (addr:Int)),.v (.string b)] (.tup [.v (.string (zO m addr b)),.v (.int .i64 0)]):=by
 refine cA.intro c0Ok Tryz.func183 rfl rfl (by kernel_rfl) rfl ?_;have hn:b.size<=4:=(xD hr).2.2;refine qS 0 rfl<|rOk (x:=.v (.int .i64 ((m.size:Nat):Int))) rfl rfl rfl<|qR 0 rfl<|rOk (x:=.v (.int .i64 ((b.size:Nat):Int))) rfl rfl rfl<|rCl rfl (.inl rfl) (Gz _ _ _ (by omega) (by omega)) ?_;refine qRC 0 rfl<|aS rfl (λh1=>by rw[hr]at h1;cases h1) (λ_=>?_);refine qC 0 rfl<|rOk (x:=.v (.int .i64 (addr:Int))) rfl rfl (okI (bJ ha rfl))<|qR 0 rfl<|rFx (x:=.osl 12 0 m.size false) (h':=upd _ 12 (some (.arr (aW m) 1))) rfl rfl (rfl) (by show m.size<=1000000;omega)<|qRC 0 rfl<|kO rfl<|oR 3 rfl<|cU (x:=.osl 12 0 addr true) rfl rfl rfl (have q:=xD hr;⟨iE _,aH _,rfl,by show(addr:Int)<=(m.size:Int);omega⟩)<|oR 3 rfl<|rOk (x:=.v (.int .i64 ((b.size:Nat):Int))) rfl rfl rfl ?_;have b1:addr+b.size<=4294967299:=aF ha hn;refine rOk (x:=.v (.int .i64 ((addr+b.size:Nat):Int))) rfl rfl (okI (bJ b1 rfl))<|cU (x:=.osl 12 (0+(addr+b.size)) (((m.size:Int)-((addr+b.size:Nat):Int)).toNat) false) rfl rfl rfl (have q:=xD hr;⟨aH _,by show((addr+b.size:Nat):Int)<=(m.size:Int);omega,iE _⟩)<|oR 2 rfl<|rE 27<|qX 0 rfl<|rFx (x:=.osl 29 0 ((List.take addr (List.drop 0 (aW m))).length+(aW b).length) false) (h':=upd _ 29 (some (.arr ((List.take addr (List.drop 0 (aW m)))++aW b) 1))) rfl rfl (rfl) (have q:=xD hr;have q1:=rH m;have q2:=rH b;⟨by simp only[cB,aL,q1,q2,gJ];omega,by show 0<(aW b).length;omega,by show 0+addr<=(aW m).length;omega,trivial⟩)<|qR 0 rfl<|rFx (x:=.osl 31 0 (((((List.take addr (List.drop 0 (aW m)))++aW b).drop 0).take ((List.take addr (List.drop 0 (aW m))).length+(aW b).length)).length+(((aW m).drop (0+(addr+b.size))).take (((m.size:Int)-((addr+b.size:Nat):Int)).toNat)).length) false) (h':=upd (upd _ 29 none) 31 (some (.arr (((((List.take addr (List.drop 0 (aW m)))++aW b).drop 0).take ((List.take addr (List.drop 0 (aW m))).length+(aW b).length))++(((aW m).drop (0+(addr+b.size))).take (((m.size:Int)-((addr+b.size:Nat):Int)).toNat))) 1))) rfl rfl (rfl) (have q:=xD hr;have q1:=rH m;have q2:=rH b;⟨by show List.length ((((List.take addr (List.drop 0 (aW m)))++aW b).drop 0).take ((List.take addr (List.drop 0 (aW m))).length+(aW b).length))+List.length (((aW m).drop (0+(addr+b.size))).take (((m.size:Int)-((addr+b.size:Nat):Int)).toNat))<=gJ;simp only[cB,aL,aQ,aU,q1,q2,gJ];omega,by show 0+((List.take addr (List.drop 0 (aW m))).length+(aW b).length)=List.length ((List.take addr (List.drop 0 (aW m)))++aW b);rw[aQ];omega,by show 0+(addr+b.size)+(((m.size:Int)-((addr+b.size:Nat):Int)).toNat)<=(aW m).length;omega⟩)<|YZ (m.data.toList.take addr++b.data.toList++m.data.toList.drop (addr+b.size)) (d:=38) rfl rfl rfl (by show 0+(((((List.take addr (List.drop 0 (aW m)))++aW b).drop 0).take ((List.take addr (List.drop 0 (aW m))).length+(aW b).length)).length+(((aW m).drop (0+(addr+b.size))).take (((m.size:Int)-((addr+b.size:Nat):Int)).toNat)).length)<=List.length (((((List.take addr (List.drop 0 (aW m)))++aW b).drop 0).take ((List.take addr (List.drop 0 (aW m))).length+(aW b).length))++(((aW m).drop (0+(addr+b.size))).take (((m.size:Int)-((addr+b.size:Nat):Int)).toNat)));rw[aQ];omega) (by have q:=xD hr;exact Oa m b addr (by omega) (by omega))<|qRF 0 rfl ?_;exact yL rfl trivial rfl rfl
def upS(n:Nat):Nat:=if n<=16 then 16 else if n<=32 then 32 else if n<=64 then 64 else if n<=128 then 128 else 256
def sW(m:ByteArray):ByteArray:=⟨((m.extract 0 (min m.size 256)).data.toList++List.replicate (upS (min m.size 256)-min m.size 256) 0).toArray⟩
def Cp(m:ByteArray):(m.extract 0 (min m.size 256)).size=min m.size 256:=by rw[dX];omega
def EW(m:ByteArray):(sW m).size=upS (min m.size 256):=by
 have h:=Cp m;have h1:(m.extract 0 (min m.size 256)).data.size=min m.size 256:=h;show(sW m).data.size=_;simp only[sW,mR,aQ,dQ,cV,h1];unfold upS
 repeat' (split<;>try omega)
def adI(n:Nat):upS n<=256:=by unfold upS;repeat' (split<;>try omega)
def Ux{n j:Nat}(h4:j<=4)(h1:n<=16*2 ^ j)(h2:j=0∨16*2 ^ (j-1)<n):16*2 ^ j=upS n:=by
 have:j=0∨j=1∨j=2∨j=3∨j=4:=by omega
 unfold upS;rcases this with rfl|rfl|rfl|rfl|rfl<;>simp at h1 h2⊢ <;>repeat' (split<;>try omega)
def MS{j n:Nat}(h4:j<=4)(h:16*2 ^ j<min n 256):j<4:=by
 have:j=0∨j=1∨j=2∨j=3∨j=4:=by omega
 rcases this with rfl|rfl|rfl|rfl|rfl<;>simp at h⊢ <;>omega
def Ob(m:ByteArray)(s:Nat)(h:m.size<=s):iG (List.take s (List.drop 0 (List.take 0 (List.replicate s [AV.v (.int .u8 0)])++List.take (min (aW m).length s) (aW m)++List.drop (0+min (aW m).length s) (List.replicate s [AV.v (.int .u8 0)]))))=some (m.data.toList++List.replicate (s-m.size) 0):=by
 have q:=rH m;simp only[pZ,iZ,cB,bF,q,tB h];have e1:List.take m.size (aW m)=aW m:=aM (by rw[q];exact aC _);rw[e1,List.drop_replicate,aM (by simp[q];omega)];have:List.replicate (s-m.size) [AV.v (.int .u8 0)]=(List.replicate (s-m.size) (0:UInt8)).map λb=>[.v (.int .u8 (b.toNat:Int))]:=by simp
 rw[this];simp only[aW];rw[<-dY];exact sU _
def Uy(m:ByteArray):cA C0 21 [.v (.string m)] (.v (.string (sW m))):=by
 refine cA.intro c0Ok Tryz.func21 rfl rfl (by kernel_rfl) rfl<|qS 0 rfl<|rOk (x:=.v (.int .i64 (m.size:Int))) rfl rfl rfl<|rOk (x:=.v (.int .i64 ((min m.size 256:Nat):Int))) rfl rfl (by show Res.ok (.v (.int .i64 (if(256:Int)<(m.size:Int)then 256 else(m.size:Int))))=_;congr 3;split<;>omega)<|cU (x:=.v (.string (m.extract 0 (min m.size 256)))) rfl rfl rfl (by refine⟨?_,?_,?_⟩<;>simp<;>omega)<|qRC 0 rfl<|jX (κ:=Nat) (λj=>⟨slotsF [(0,.v (.string (m.extract 0 (min m.size 256)))),(3,.v (.int .i64 ((16*2 ^ j:Nat):Int)))],heapF [],8⟩) (λj=>j<=4∧(j=0∨16*2 ^ (j-1)<min m.size 256)) (λj=>4-j) 0 (λs=>s) (Weak.of_lists (λs=>s) wT trivial rfl) (⟨by decide,.inl rfl⟩) ?_;intro j hj;refine qS 0 rfl<|rOk (x:=.v (.int .i64 ((min m.size 256:Nat):Int))) rfl rfl (congrArg (λn:Nat=>Res.ok (.v (.int .i64 (n:Int)))) (Cp m))<|rOk (x:=.v (.bool (decide ((16*2 ^ j)<(min m.size 256))))) rfl rfl (okB (ltN _ _))<|qRC 0 rfl<|aS rfl (λh1=>?_) (λh1=>?_)
 ·refine qC 0 rfl<|rOk (x:=.v (.int .i64 ((16*2 ^ (j+1):Nat):Int))) rfl rfl (by show Res.ok (.v (.int .i64 (IntKind.wrap .i64 (((16*2 ^ j:Nat):Int)*2))))=_;have p5:=eQ (n:=2) (by decide) hj.1;rw[wrap_i64 (by omega) (by omega)];congr 3;rw[Nat.pow_succ];omega)<|qRF 0 rfl<|⟨j+1,λs=>s,Weak.of_lists (λs=>s) wT trivial rfl,⟨by have:=MS hj.1 (of_decide_eq_true h1);omega,.inr (by simpa using of_decide_eq_true h1)⟩,by have:=MS hj.1 (of_decide_eq_true h1);omega⟩
 ·refine qCF 0 rfl<|qX 0 rfl<|rFx (x:=.osl 13 0 (16*2 ^ j) false) (h':=upd _ 13 (some (.arr (List.replicate (16*2 ^ j) [AV.v (.int .u8 0)]) 1))) rfl rfl (rfl) (by have p5:=eQ (n:=2) (by decide) hj.1;refine⟨by omega,by omega,?_⟩;simp only[gJ];omega)<|qR 0 rfl<|rFx (x:=.v (.int .i64 ((min (aW (m.extract 0 (min m.size 256))).length (16*2 ^ j):Nat):Int))) (h':=upd _ 13 (some (.arr (List.take 0 (List.replicate (16*2 ^ j) [AV.v (.int .u8 0)])++List.take (min (aW (m.extract 0 (min m.size 256))).length (16*2 ^ j)) (aW (m.extract 0 (min m.size 256)))++List.drop (0+min (aW (m.extract 0 (min m.size 256))).length (16*2 ^ j)) (List.replicate (16*2 ^ j) [AV.v (.int .u8 0)])) 1))) rfl rfl (rfl) (⟨by simp,trivial⟩)<|qR 0 rfl<|YZ ((m.extract 0 (min m.size 256)).data.toList++List.replicate (upS (min m.size 256)-min m.size 256) 0) rfl rfl rfl (by show 0+16*2 ^ j<=List.length (List.take 0 (List.replicate (16*2 ^ j) [AV.v (.int .u8 0)])++List.take (min (aW (m.extract 0 (min m.size 256))).length (16*2 ^ j)) (aW (m.extract 0 (min m.size 256)))++List.drop (0+min (aW (m.extract 0 (min m.size 256))).length (16*2 ^ j)) (List.replicate (16*2 ^ j) [AV.v (.int .u8 0)]));have q:=rH (m.extract 0 (min m.size 256));have q2:=Cp m;have:=aD h1;simp only[aQ,aL,aU,cV,q,q2];omega) (by have e:=Ob (m.extract 0 (min m.size 256)) (16*2 ^ j) (by have:=aD h1;rw[Cp];omega);rw[Cp,Ux hj.1 (by have:=aD h1;omega) hj.2]at e;rw[Ux hj.1 (by have:=aD h1;omega) hj.2];exact e)<|qRF 0 rfl ?_;exact yL rfl trivial rfl rfl
def afD(p:AV)(m:ByteArray):cA C0 127 [p,.v (.string m)] (stA ⟨0,λ_=>0,sW m,0⟩):=by
 refine cA.intro c0Ok Tryz.func127 rfl rfl (by kernel_rfl) rfl<|qS 0 rfl<|rCl rfl (.inl rfl) (Uy m)<|rOk (x:=.agg (stL 0 (λ_=>0) (sW m) 0)) rfl rfl rfl<|qRF 0 rfl ?_;exact yL rfl tvT rfl rfl
abbrev iK(n:Int):List AV:=[.v (.int .i64 n)]
abbrev cfL(c:Cf)(cl ct:Bool):List AV:=[.v (.int .i64 c.mode),.v (.int .i64 c.width),.v (.int .i64 c.rob),.v (.int .i64 c.queue),.v (.int .i64 c.stores),.v (.int .i64 c.slots),.v (.int .i64 c.sets),.v (.int .i64 c.ways),.sl 1 (c.lat.map iK) cl,.v (.bool c.tables),.sl 1 (c.tape.map eE) ct]
structure Cf.ok(c:Cf):Prop where
 lat:c.lat.length<=9223372036854775807
 tape:c.tape.length<=9223372036854775807
 tp:∀x∈c.tape,x<=4294967295
mutual
theorem zD(σ:Nat->Nat):∀(a:AV),eL a=true->uX σ a=a
 | .v _,_| .sl _ _ _,_| .dp _ _ _,_=>by simp[uX]
 | .agg cs,h=>by simp only[uX,nQ σ cs (by simpa [eL]using h)]
 | .tup cs,h=>by simp only[uX,nQ σ cs (by simpa [eL]using h)]
 | .clo f a b,h=>by
  simp only[eL]at h;split at h
  ·rename_i ha;simp only[uX,nQ σ a ha,nQ σ b h]
  ·cases h
 | .ptr _ _,h| .ptr2 _ _ _,h| .osl _ _ _ _,h| .opt _ _,h| .any,h=>by cases h
theorem nQ(σ:Nat->Nat):∀(cs:List AV),eR cs=true->Bb σ cs=cs
 |[],_=>by simp[Bb]
 |c::cs,h=>by
  simp only[eR]at h;split at h
  ·rename_i hc;simp only[Bb,zD σ c hc,nQ σ cs h]
  ·cases h
end
mutual
theorem Ic(n:Nat):∀(a:AV),eL a=true->mL n a=true
 | .v _,_| .sl _ _ _,_| .dp _ _ _,_=>by simp[mL]
 | .agg cs,h=>by simp only[mL,kP n cs (by simpa [eL]using h)]
 | .tup cs,h=>by simp only[mL,kP n cs (by simpa [eL]using h)]
 | .clo f a b,h=>by
  simp only[eL]at h;split at h
  ·rename_i ha;simp only[mL,kP n a ha,kP n b h]
  ·cases h
 | .ptr _ _,h| .ptr2 _ _ _,h| .osl _ _ _ _,h| .opt _ _,h| .any,h=>by cases h
theorem kP(n:Nat):∀(cs:List AV),eR cs=true->mM n cs=true
 |[],_=>by simp[mM]
 |c::cs,h=>by
  simp only[eR]at h;split at h
  ·rename_i hc;simp only[mM,Ic n c hc,kP n cs h]
  ·cases h
end
def ZI(σ:Nat->Nat){cs:List AV}(h:eR cs=true):some (Blk.box cs)=some (Du σ (.box cs)):=by simp only[Du,nQ σ cs h]
def aaU(n:Nat){cs:List AV}(h:eR cs=true):qU n (.box cs)=true:=by simp only[qU,kP n cs h]
def Yk(cells:List AV)(col:Nat)(n lo hi:Int)(hn:Km cells col=some (.v (.int .i64 n)))(hc:col+1<=cells.length)(hcl:eR (zR col [.v (.int .i64 (bW n lo hi))] cells)=true):
  qE C0.P C0.G 40 [.ptr 0 col,.v (.int .i64 lo),.v (.int .i64 hi)] (heapF [(0,.box cells)]) 1 (λx h'=>x=.tup []∧h'=heapF [(0,.box (zR col [.v (.int .i64 (bW n lo hi))] cells))]):=by
 refine HCall.intro (C:=C0) (s:=1) c0Ok.at Tryz.func40 rfl rfl (by kernel_rfl) rfl rfl<|cRg<|oR 3 rfl<|rW (.v (.int .i64 n)) rfl (by show okO (Km cells col)=_;rw[hn];rfl)<|oR 1 rfl<|rV (.v (.int .i64 (if lo>n then lo else n))) rfl<|oR 1 rfl<|rV (.v (.int .i64 (if hi<(if lo>n then lo else n)then hi else(if lo>n then lo else n)))) rfl<|oR 1 rfl ?_;have hb:Nat.ble (col+1) cells.length=true:=iN hc;refine tK (p:=True) (h':=upd _ 0 (some (.box (zR col [.v (.int .i64 (bW n lo hi))] cells)))) rfl rfl (by
  show(match Nat.ble (col+1) cells.length with|true=>Res.fx True .any (upd _ 0 (some (.box (zR col [.v (.int .i64 (if hi<(if lo>n then lo else n)then hi else(if lo>n then lo else n)))] cells))))|false=>.bad)=_;rw[hb];rfl) trivial ?_
 refine rE 11 ?_;exact pK (rs:=[]) rfl (σ:=λs=>s) ⟨rfl,rfl⟩ rfl (cI (λs=>s) rfl rfl ⟨⟨rfl,ZI _ hcl,aaU _ hcl⟩,trivial⟩ rfl)
def zE{cells cells':List AV}{b col:Nat}{n lo hi:Int}{K:AH}{s2:Nat}(hn:Km cells col=some (.v (.int .i64 n)))(hc:Nat.ble (col+1) cells.length=true)(he:zR col [.v (.int .i64 (bW n lo hi))] cells=cells')(hcl:eR cells=true)(hcl':eR cells'=true)(hb:Nat.blt b s2=true)(hK:K b=some (.box cells)):
  qE C0.P C0.G 40 [.ptr b col,.v (.int .i64 lo),.v (.int .i64 hi)] K s2 (λx h'=>x=.tup []∧h'=upd K b (some (.box cells'))):=by
 subst he;have:=(Yk cells col n lo hi hn (aP hc) hcl').frame1 b K s2 (aP hb) (aaU 1 hcl) (by rw[hK];exact ZI _ hcl) rfl;rw[<-ZI (FH (λ_=>b) 1 s2) hcl']at this;exact this
def VW(rows:List (List AV))(k:Nat)(n lo hi:Int)(hn:rows[k]?=some [.v (.int .i64 n)]):
  qE C0.P C0.G 40 [.ptr2 0 k 0,.v (.int .i64 lo),.v (.int .i64 hi)] (heapF [(0,.arr rows 1)]) 1 (λx h'=>x=.tup []∧h'=heapF [(0,.arr (rows.set k [.v (.int .i64 (bW n lo hi))]) 1)]):=by
 refine HCall.intro (C:=C0) (s:=1) c0Ok.at Tryz.func40 rfl rfl (by kernel_rfl) rfl rfl<|qS 0 rfl<|ID [.v (.int .i64 n)] (x:=.v (.int .i64 n)) rfl rfl rfl ⟨aH _,hn⟩ rfl<|qR 0 rfl<|rV (.v (.int .i64 (if lo>n then lo else n))) rfl<|qR 0 rfl<|rV (.v (.int .i64 (if hi<(if lo>n then lo else n)then hi else(if lo>n then lo else n)))) rfl<|qR 0 rfl<|nL [.v (.int .i64 n)] (h':=upd _ 0 (some (.arr (rows.set k [.v (.int .i64 (bW n lo hi))]) 1))) rfl rfl rfl ⟨aH _,hn⟩ rfl ?_;exact qRF 0 rfl<|pK (rs:=[]) rfl (σ:=λs=>s) ⟨rfl,rfl⟩ rfl (cI (λs=>s) rfl rfl wH rfl)
def MD{rows rows':List (List AV)}{b k:Nat}{n lo hi:Int}{K:AH}{s2:Nat}(hn:rows[k]?=some [.v (.int .i64 n)])(he:rows.set k [.v (.int .i64 (bW n lo hi))]=rows')(hb:Nat.blt b s2=true)(hK:K b=some (.arr rows 1)):
  qE C0.P C0.G 40 [.ptr2 b k 0,.v (.int .i64 lo),.v (.int .i64 hi)] K s2 (λx h'=>x=.tup []∧h'=upd K b (some (.arr rows' 1))):=by
 subst he;exact(VW rows k n lo hi hn).frame1 b K s2 (aP hb) rfl hK rfl
def EK(a b:Nat):Res.ok (.v (.int .i64 (if(b:Int)<(a:Int)then(b:Int)else(a:Int))))=.ok (.v (.int .i64 ((min a b:Nat):Int))):=by congr 3;split<;>omega
def Cj{α:Type}(f:α->List AV)(l:List α)(z:List AV)(n:Nat)(hn:n=min l.length 64):(List.replicate n z).take 0++(l.map f).take (min (l.map f).length n)++(List.replicate n z).drop (0+min (l.map f).length n)=(l.take 64).map f:=by
 subst hn;rw[aG,pZ,iZ,cC (by rw[cV];omega),dR, <-eZ];congr 1;rcases Nat.le_total l.length 64 with h|h
 ·rw[aM omT,aM omT]
 ·congr 1;omega
def bT{α:Type}(f:α->List AV)(l:List α):Res.ok (.v (.int .i64 ((l.map f).length:Int)))=.ok (.v (.int .i64 ((l.length:Nat):Int))):=by rw[aG]
def Dz(c:Cf)(k:Nat):List (List AV):=((((c.lat.take 64).take k).map λn=>bW n 1 8)++(c.lat.take 64).drop k).map iK
def ME(c:Cf)(k:Nat)(h:(c.lat.take 64).length<=k):Dz c k=(cD c).lat.map iK:=by
 unfold Dz cD;rw[aM h,cC h,dR]
def MF{c:Cf}{k:Nat}{x:Int}(hx:(c.lat.take 64)[k]?=some x):(Dz c k)[k]?=some (iK x):=by
 have hk:=(DS.1 hx).1;unfold Dz;rw[bD,bU (by simp;omega)];simp only[aG,aL];rw[cE,show k+(k-min k (min 64 c.lat.length))=k by have:k<(c.lat.take 64).length:=hk;rw[aL]at this;omega,hx];rfl
def MG{c:Cf}{k:Nat}{x:Int}(hx:(c.lat.take 64)[k]?=some x):(Dz c k).set k [.v (.int .i64 (bW x 1 8))]=Dz c (k+1):=by
 unfold Dz;generalize c.lat.take 64=l at hx⊢;have hk:=(DS.1 hx).1;have hl:((l.take k).map λn=>bW n 1 8).length=k:=by rw[aG,aL];omega
 have hx':l[k]=x:=by rw[aA hk]at hx;exact Option.some.inj hx
 rw[show([.v (.int .i64 (bW x 1 8))]:List AV)=iK (bW x 1 8)from rfl, <-List.map_set,iO _ _ omT,hl,fG,bR hk,gI,bV,hx];simp
def MH(c:Cf)(k:Nat)(h:k<=(c.lat.take 64).length):(Dz c k).length=(c.lat.take 64).length:=by
 unfold Dz;simp only[aG,aQ,aU];rw[List.length_take_of_le h];omega
def Id{p:Prop}{x:AV}{h:AH}{b rs:Nat}{r r':List (List AV)}(e:r=r'):Res.fx p x (upd h b (some (.arr r rs)))=.fx p x (upd h b (some (.arr r' rs))):=by rw[e]
def Ie(c:Cf)(cl ct:Bool)(hok:c.ok):cA C0 18 [.agg (cfL c cl ct)] (.agg (cfL (cD c) false false)):=by
 refine cA.intro c0Ok Tryz.func18 rfl rfl (by kernel_rfl) rfl<|qS 0 rfl<|fV _ rfl rfl rfl (zE (cells:=[vI c.mode,vI c.width,vI c.rob,vI c.queue,vI c.stores,vI c.slots,vI c.sets,vI c.ways,.sl 1 (c.lat.map iK) cl,vB c.tables,.sl 1 (c.tape.map eE) ct]) (cells':=[vI (bW c.mode 0 2),vI c.width,vI c.rob,vI c.queue,vI c.stores,vI c.slots,vI c.sets,vI c.ways,.sl 1 (c.lat.map iK) cl,vB c.tables,.sl 1 (c.tape.map eE) ct]) rfl rfl rfl rfl rfl rfl rfl) ?_;rintro _ _ ⟨rfl,rfl⟩;refine qR 0 rfl<|fV _ rfl rfl rfl (zE (cells:=[vI (bW c.mode 0 2),vI c.width,vI c.rob,vI c.queue,vI c.stores,vI c.slots,vI c.sets,vI c.ways,.sl 1 (c.lat.map iK) cl,vB c.tables,.sl 1 (c.tape.map eE) ct]) (cells':=[vI (bW c.mode 0 2),vI (bW c.width 1 2),vI c.rob,vI c.queue,vI c.stores,vI c.slots,vI c.sets,vI c.ways,.sl 1 (c.lat.map iK) cl,vB c.tables,.sl 1 (c.tape.map eE) ct]) rfl rfl rfl rfl rfl rfl rfl) ?_;rintro _ _ ⟨rfl,rfl⟩;refine qR 0 rfl<|fV _ rfl rfl rfl (zE (cells:=[vI (bW c.mode 0 2),vI (bW c.width 1 2),vI c.rob,vI c.queue,vI c.stores,vI c.slots,vI c.sets,vI c.ways,.sl 1 (c.lat.map iK) cl,vB c.tables,.sl 1 (c.tape.map eE) ct]) (cells':=[vI (bW c.mode 0 2),vI (bW c.width 1 2),vI (bW c.rob 2 8),vI c.queue,vI c.stores,vI c.slots,vI c.sets,vI c.ways,.sl 1 (c.lat.map iK) cl,vB c.tables,.sl 1 (c.tape.map eE) ct]) rfl rfl rfl rfl rfl rfl rfl) ?_;rintro _ _ ⟨rfl,rfl⟩;refine qR 0 rfl<|fV _ rfl rfl rfl (zE (cells:=[vI (bW c.mode 0 2),vI (bW c.width 1 2),vI (bW c.rob 2 8),vI c.queue,vI c.stores,vI c.slots,vI c.sets,vI c.ways,.sl 1 (c.lat.map iK) cl,vB c.tables,.sl 1 (c.tape.map eE) ct]) (cells':=[vI (bW c.mode 0 2),vI (bW c.width 1 2),vI (bW c.rob 2 8),vI (bW c.queue 1 4),vI c.stores,vI c.slots,vI c.sets,vI c.ways,.sl 1 (c.lat.map iK) cl,vB c.tables,.sl 1 (c.tape.map eE) ct]) rfl rfl rfl rfl rfl rfl rfl) ?_;rintro _ _ ⟨rfl,rfl⟩;refine qR 0 rfl<|fV _ rfl rfl rfl (zE (cells:=[vI (bW c.mode 0 2),vI (bW c.width 1 2),vI (bW c.rob 2 8),vI (bW c.queue 1 4),vI c.stores,vI c.slots,vI c.sets,vI c.ways,.sl 1 (c.lat.map iK) cl,vB c.tables,.sl 1 (c.tape.map eE) ct]) (cells':=[vI (bW c.mode 0 2),vI (bW c.width 1 2),vI (bW c.rob 2 8),vI (bW c.queue 1 4),vI (bW c.stores 1 4),vI c.slots,vI c.sets,vI c.ways,.sl 1 (c.lat.map iK) cl,vB c.tables,.sl 1 (c.tape.map eE) ct]) rfl rfl rfl rfl rfl rfl rfl) ?_;rintro _ _ ⟨rfl,rfl⟩;refine qR 0 rfl<|fV _ rfl rfl rfl (zE (cells:=[vI (bW c.mode 0 2),vI (bW c.width 1 2),vI (bW c.rob 2 8),vI (bW c.queue 1 4),vI (bW c.stores 1 4),vI c.slots,vI c.sets,vI c.ways,.sl 1 (c.lat.map iK) cl,vB c.tables,.sl 1 (c.tape.map eE) ct]) (cells':=[vI (bW c.mode 0 2),vI (bW c.width 1 2),vI (bW c.rob 2 8),vI (bW c.queue 1 4),vI (bW c.stores 1 4),vI (bW c.slots 2 6),vI c.sets,vI c.ways,.sl 1 (c.lat.map iK) cl,vB c.tables,.sl 1 (c.tape.map eE) ct]) rfl rfl rfl rfl rfl rfl rfl) ?_;rintro _ _ ⟨rfl,rfl⟩;refine qR 0 rfl<|fV _ rfl rfl rfl (zE (cells:=[vI (bW c.mode 0 2),vI (bW c.width 1 2),vI (bW c.rob 2 8),vI (bW c.queue 1 4),vI (bW c.stores 1 4),vI (bW c.slots 2 6),vI c.sets,vI c.ways,.sl 1 (c.lat.map iK) cl,vB c.tables,.sl 1 (c.tape.map eE) ct]) (cells':=[vI (bW c.mode 0 2),vI (bW c.width 1 2),vI (bW c.rob 2 8),vI (bW c.queue 1 4),vI (bW c.stores 1 4),vI (bW c.slots 2 6),vI (bW c.sets 1 4),vI c.ways,.sl 1 (c.lat.map iK) cl,vB c.tables,.sl 1 (c.tape.map eE) ct]) rfl rfl rfl rfl rfl rfl rfl) ?_;rintro _ _ ⟨rfl,rfl⟩;refine qR 0 rfl<|rV (vB ((bW c.sets 1 4)==3)) rfl<|qRC 0 rfl<|aS rfl (λh1=>?_) (λh1=>?_)
 ·refine qC 0 rfl<|fV _ rfl rfl rfl (zE (cells:=[vI (bW c.mode 0 2),vI (bW c.width 1 2),vI (bW c.rob 2 8),vI (bW c.queue 1 4),vI (bW c.stores 1 4),vI (bW c.slots 2 6),vI 2,vI c.ways,.sl 1 (c.lat.map iK) cl,vB c.tables,.sl 1 (c.tape.map eE) ct]) (cells':=[vI (bW c.mode 0 2),vI (bW c.width 1 2),vI (bW c.rob 2 8),vI (bW c.queue 1 4),vI (bW c.stores 1 4),vI (bW c.slots 2 6),vI 2,vI (bW c.ways 1 2),.sl 1 (c.lat.map iK) cl,vB c.tables,.sl 1 (c.tape.map eE) ct]) rfl rfl rfl rfl rfl rfl rfl) ?_;rintro _ _ ⟨rfl,rfl⟩;refine qR 0 rfl<|rW (vN c.lat.length) rfl (bT iK c.lat)<|rW (vN (min c.lat.length 64)) rfl (EK c.lat.length 64)<|rFx (x:=.osl 36 0 (min c.lat.length 64) false) (h':=upd _ 36 (some (.arr (List.replicate (min c.lat.length 64) [vI 0]) 1))) rfl rfl (rfl) (⟨aH _,iE _,by show(((min c.lat.length 64):Nat):Int)<=1000000;have:=(aN (eT c.lat.length 64) (aC 64));omega⟩)<|qR 0 rfl<|rFx (x:=vI ((min (c.lat.map iK).length (min c.lat.length 64):Nat):Int)) (h':=upd _ 36 (some (.arr (Dz c 0) 1))) rfl rfl (Id (Cj iK c.lat [.v (.int .i64 0)] _ rfl)) (⟨by simp,trivial⟩)<|qR 0 rfl<|rV (vN (min c.lat.length 64)) rfl<|qRC 0 rfl<|jX (κ:=Nat) (λk=>⟨slotsF [(1,.ptr 0 0),(2,.ptr 1 0),(3,.clo 40 [] []),(4,.osl 36 0 (min c.lat.length 64) false),(45,vN (min c.lat.length 64)),(46,vN k)],heapF [(0,.box [vI (bW c.mode 0 2),vI (bW c.width 1 2),vI (bW c.rob 2 8),vI (bW c.queue 1 4),vI (bW c.stores 1 4),vI (bW c.slots 2 6),vI 2,vI (bW c.ways 1 2),.sl 1 (c.lat.map iK) cl,vB c.tables,.sl 1 (c.tape.map eE) ct]),(1,.box [vI 0,vI 0,vI 0,vI 0,vI 0,vI 0,vI 0,vI 0,.sl 0 ([]) true,vB false,.sl 0 ([]) true]),(36,.arr (Dz c k) 1)],45⟩) (λk=>k<=min c.lat.length 64) (λk=>min c.lat.length 64-k) 0 (λs=>s) (Weak.of_lists (λs=>s) wT wH rfl) (aE _) ?_;intro k hk;have hkB:k<=1000000:=by omega
  refine qS 0 rfl<|rW (vB (decide (k<(min c.lat.length 64)))) rfl (okB (ltN _ _))<|qRC 0 rfl<|aS rfl (λh2=>?_) (λh2=>?_)
  ·skip
   have hkl:k<(c.lat.take 64).length:=by have:=of_decide_eq_true h2;rw[aL];omega
   obtain⟨x,hx⟩:∃x,(c.lat.take 64)[k]?=some x:=⟨_,aA hkl⟩;have hxk:(Dz c k)[0+k]?=some [.v (.int .i64 x)]:=by rw[bF];exact MF hx
   refine qC 0 rfl<|nW (.ptr2 36 (0+k) 0) rfl rfl (⟨aH _,by show(k:Int)<((min c.lat.length 64:Nat):Int);have:=of_decide_eq_true h2;omega⟩)<|fV _ rfl rfl rfl (MD (rows:=Dz c k) (rows':=Dz c (k+1)) (k:=0+k) (n:=x) hxk ((bF k).symm ▸ MG hx) rfl rfl) ?_;rintro _ _ ⟨rfl,rfl⟩;have b1:k+1<=1000001:=aF hkB (aC 1);refine qR 0 rfl<|rW (vN (k+1)) rfl (okI (bJ b1 rfl))<|qRF 0 rfl<|⟨k+1,λs=>s,Weak.of_lists _ wT wH rfl,by have:=of_decide_eq_true h2;omega,by have:=of_decide_eq_true h2;show min c.lat.length 64-(k+1)<min c.lat.length 64-k;omega⟩
  ·refine qCF 0 rfl<|qX 0 rfl<|rW (vN c.tape.length) rfl (bT eE c.tape)<|rW (vN (min c.tape.length 64)) rfl (EK c.tape.length 64)<|rFx (x:=.osl 50 0 (min c.tape.length 64) false) (h':=upd _ 50 (some (.arr (List.replicate (min c.tape.length 64) [.v (.int .u32 0)]) 1))) rfl rfl (rfl) (⟨aH _,iE _,by show(((min c.tape.length 64):Nat):Int)<=1000000;have:=(aN (eT c.tape.length 64) (aC 64));omega⟩)<|qR 0 rfl<|rFx (x:=vI ((min (c.tape.map eE).length (min c.tape.length 64):Nat):Int)) (h':=upd _ 50 (some (.arr ((c.tape.take 64).map eE) 1))) rfl rfl (Id (Cj eE c.tape [.v (.int .u32 0)] _ rfl)) (⟨by simp,trivial⟩)<|qRF 0 rfl ?_;have hk2:(c.lat.take 64).length<=k:=by rw[aL];have:=aD h2;omega
   have hll:=MH c k (by rw[aL];omega);have e1:List.take (min c.lat.length 64) (List.drop 0 (Dz c k))=(cD c).lat.map iK:=by rw[cB,aM (by rw[hll,aL];omega),ME c k hk2]
   have e2:List.take (min c.tape.length 64) (List.drop 0 ((c.tape.take 64).map eE))=(cD c).tape.map eE:=by rw[cB,aM (by rw[aG,aL];omega)];rfl
   have e3:(cD c).sets=2:=if_pos (by simpa using h1);refine dF rfl (r4 (r4 ⟨by show 0+min c.lat.length 64<=(Dz c k).length;rw[hll,aL];omega,trivial,by show 0+min c.tape.length 64<=((c.tape.take 64).map eE).length;rw[aG,aL];omega,trivial⟩)) rfl ?_;show AV.agg [vI (bW c.mode 0 2),vI (bW c.width 1 2),vI (bW c.rob 2 8),vI (bW c.queue 1 4),vI (bW c.stores 1 4),vI (bW c.slots 2 6),vI 2,vI (bW c.ways 1 2),.sl 1 (List.take (min c.lat.length 64) (List.drop 0 (Dz c k))) false,vB c.tables,.sl 1 (List.take (min c.tape.length 64) (List.drop 0 ((c.tape.take 64).map eE))) false]=AV.agg (cfL (cD c) false false);rw[e1,e2];show _=AV.agg [vI (cD c).mode,vI (cD c).width,vI (cD c).rob,vI (cD c).queue,vI (cD c).stores,vI (cD c).slots,vI (cD c).sets,vI (cD c).ways,.sl 1 ((cD c).lat.map iK) false,vB (cD c).tables,.sl 1 ((cD c).tape.map eE) false];rw[e3];rfl
 ·refine qC 0 rfl<|fV _ rfl rfl rfl (zE (cells:=[vI (bW c.mode 0 2),vI (bW c.width 1 2),vI (bW c.rob 2 8),vI (bW c.queue 1 4),vI (bW c.stores 1 4),vI (bW c.slots 2 6),vI (bW c.sets 1 4),vI c.ways,.sl 1 (c.lat.map iK) cl,vB c.tables,.sl 1 (c.tape.map eE) ct]) (cells':=[vI (bW c.mode 0 2),vI (bW c.width 1 2),vI (bW c.rob 2 8),vI (bW c.queue 1 4),vI (bW c.stores 1 4),vI (bW c.slots 2 6),vI (bW c.sets 1 4),vI (bW c.ways 1 2),.sl 1 (c.lat.map iK) cl,vB c.tables,.sl 1 (c.tape.map eE) ct]) rfl rfl rfl rfl rfl rfl rfl) ?_;rintro _ _ ⟨rfl,rfl⟩;refine qR 0 rfl<|rW (vN c.lat.length) rfl (bT iK c.lat)<|rW (vN (min c.lat.length 64)) rfl (EK c.lat.length 64)<|rFx (x:=.osl 34 0 (min c.lat.length 64) false) (h':=upd _ 34 (some (.arr (List.replicate (min c.lat.length 64) [vI 0]) 1))) rfl rfl (rfl) (⟨aH _,iE _,by show(((min c.lat.length 64):Nat):Int)<=1000000;have:=(aN (eT c.lat.length 64) (aC 64));omega⟩)<|qR 0 rfl<|rFx (x:=vI ((min (c.lat.map iK).length (min c.lat.length 64):Nat):Int)) (h':=upd _ 34 (some (.arr (Dz c 0) 1))) rfl rfl (Id (Cj iK c.lat [.v (.int .i64 0)] _ rfl)) (⟨by simp,trivial⟩)<|qR 0 rfl<|rV (vN (min c.lat.length 64)) rfl<|qRC 0 rfl<|jX (κ:=Nat) (λk=>⟨slotsF [(1,.ptr 0 0),(2,.ptr 1 0),(3,.clo 40 [] []),(4,.osl 34 0 (min c.lat.length 64) false),(45,vN (min c.lat.length 64)),(46,vN k)],heapF [(0,.box [vI (bW c.mode 0 2),vI (bW c.width 1 2),vI (bW c.rob 2 8),vI (bW c.queue 1 4),vI (bW c.stores 1 4),vI (bW c.slots 2 6),vI (bW c.sets 1 4),vI (bW c.ways 1 2),.sl 1 (c.lat.map iK) cl,vB c.tables,.sl 1 (c.tape.map eE) ct]),(1,.box [vI 0,vI 0,vI 0,vI 0,vI 0,vI 0,vI 0,vI 0,.sl 0 ([]) true,vB false,.sl 0 ([]) true]),(34,.arr (Dz c k) 1)],43⟩) (λk=>k<=min c.lat.length 64) (λk=>min c.lat.length 64-k) 0 (λs=>s) (Weak.of_lists (λs=>s) wT wH rfl) (aE _) ?_;intro k hk;have hkB:k<=1000000:=by omega
  refine qS 0 rfl<|rW (vB (decide (k<(min c.lat.length 64)))) rfl (okB (ltN _ _))<|qRC 0 rfl<|aS rfl (λh3=>?_) (λh3=>?_)
  ·skip
   have hkl:k<(c.lat.take 64).length:=by have:=of_decide_eq_true h3;rw[aL];omega
   obtain⟨x,hx⟩:∃x,(c.lat.take 64)[k]?=some x:=⟨_,aA hkl⟩;have hxk:(Dz c k)[0+k]?=some [.v (.int .i64 x)]:=by rw[bF];exact MF hx
   refine qC 0 rfl<|nW (.ptr2 34 (0+k) 0) rfl rfl (⟨aH _,by show(k:Int)<((min c.lat.length 64:Nat):Int);have:=of_decide_eq_true h3;omega⟩)<|fV _ rfl rfl rfl (MD (rows:=Dz c k) (rows':=Dz c (k+1)) (k:=0+k) (n:=x) hxk ((bF k).symm ▸ MG hx) rfl rfl) ?_;rintro _ _ ⟨rfl,rfl⟩;have b2:k+1<=1000001:=aF hkB (aC 1);refine qR 0 rfl<|rW (vN (k+1)) rfl (okI (bJ b2 rfl))<|qRF 0 rfl<|⟨k+1,λs=>s,Weak.of_lists _ wT wH rfl,by have:=of_decide_eq_true h3;omega,by have:=of_decide_eq_true h3;show min c.lat.length 64-(k+1)<min c.lat.length 64-k;omega⟩
  ·refine qCF 0 rfl<|qX 0 rfl<|rW (vN c.tape.length) rfl (bT eE c.tape)<|rW (vN (min c.tape.length 64)) rfl (EK c.tape.length 64)<|rFx (x:=.osl 48 0 (min c.tape.length 64) false) (h':=upd _ 48 (some (.arr (List.replicate (min c.tape.length 64) [.v (.int .u32 0)]) 1))) rfl rfl (rfl) (⟨aH _,iE _,by show(((min c.tape.length 64):Nat):Int)<=1000000;have:=(aN (eT c.tape.length 64) (aC 64));omega⟩)<|qR 0 rfl<|rFx (x:=vI ((min (c.tape.map eE).length (min c.tape.length 64):Nat):Int)) (h':=upd _ 48 (some (.arr ((c.tape.take 64).map eE) 1))) rfl rfl (Id (Cj eE c.tape [.v (.int .u32 0)] _ rfl)) (⟨by simp,trivial⟩)<|qRF 0 rfl ?_;have hk2:(c.lat.take 64).length<=k:=by rw[aL];have:=aD h3;omega
   have hll:=MH c k (by rw[aL];omega);have e1:List.take (min c.lat.length 64) (List.drop 0 (Dz c k))=(cD c).lat.map iK:=by rw[cB,aM (by rw[hll,aL];omega),ME c k hk2]
   have e2:List.take (min c.tape.length 64) (List.drop 0 ((c.tape.take 64).map eE))=(cD c).tape.map eE:=by rw[cB,aM (by rw[aG,aL];omega)];rfl
   have e3:(cD c).sets=bW c.sets 1 4:=if_neg (by simpa using h1);refine dF rfl (r4 (r4 ⟨by show 0+min c.lat.length 64<=(Dz c k).length;rw[hll,aL];omega,trivial,by show 0+min c.tape.length 64<=((c.tape.take 64).map eE).length;rw[aG,aL];omega,trivial⟩)) rfl ?_;show AV.agg [vI (bW c.mode 0 2),vI (bW c.width 1 2),vI (bW c.rob 2 8),vI (bW c.queue 1 4),vI (bW c.stores 1 4),vI (bW c.slots 2 6),vI (bW c.sets 1 4),vI (bW c.ways 1 2),.sl 1 (List.take (min c.lat.length 64) (List.drop 0 (Dz c k))) false,vB c.tables,.sl 1 (List.take (min c.tape.length 64) (List.drop 0 ((c.tape.take 64).map eE))) false]=AV.agg (cfL (cD c) false false);rw[e1,e2];show _=AV.agg [vI (cD c).mode,vI (cD c).width,vI (cD c).rob,vI (cD c).queue,vI (cD c).stores,vI (cD c).slots,vI (cD c).sets,vI (cD c).ways,.sl 1 ((cD c).lat.map iK) false,vB (cD c).tables,.sl 1 ((cD c).tape.map eE) false];rw[e3];rfl
abbrev wyL(x:Wy):List AV:=[.v (.int .u32 (x.line:Int)),.v (.bool x.dirty),.v (.string x.data)]
abbrev Rz(s:List Wy):AV:=.sl 3 (s.map wyL) false
abbrev aV(s:List Wy):List AV:=[Rz s]
abbrev caL(c:Ca)(k:Bool):List AV:=[.v (.int .i64 c.ways),.sl 1 (c.sets.map aV) k]
abbrev rqL(x:Req):List AV:=[.v (.int .i64 x.kind),.v (.int .u32 (x.line:Int)),.v (.int .i64 x.left),.v (.string x.data)]
def abB(o:Option Nat):AV:=.tup [vN (o.getD 0),vB o.isSome]
structure Wy.ok(x:Wy):Prop where
 line:x.line<=4294967295
structure Ca.ok(c:Ca):Prop where
 sets:c.sets.length<=9223372036854775807
 set:∀s∈c.sets,s.length<=9223372036854775807∧∀x∈s,x.ok
def dT{a:Nat}(h:a<=4294967295):lineOf a<=4294967295:=by unfold lineOf;omega
def abC{a b:Nat}(h:a=b):AV.v (.int .u32 (a:Int))=.v (.int .u32 (b:Int)):=by rw[h]
def Zb{a b:Nat}(h:a=b):AV.v (.int .i64 (a:Int))=.v (.int .i64 (b:Int)):=by rw[h]
def fW{α:Type}{f:α->List AV}{l:List α}{k:Nat}{x:α}(h:l[k]?=some x):(l.map f)[k]?=some (f x):=by rw[bD,h];rfl
def tT(a:Nat)(ha:a<=4294967295):cA C0 52 [vU a] (vU (lineOf a)):=by
 refine cA.intro c0Ok Tryz.func52 rfl rfl (by kernel_rfl) rfl ?_;have b1:a%16<=15:=aY (bE _ (by decide));refine qS 0 rfl<|nW (vU (a%16)) rfl rfl (by decide) ?_;refine rW (vU ((a+4294967296-(a%16))%4294967296)) rfl (okI (Ua b1 rfl))<|qRF 0 rfl ?_;exact fT rfl (abC (by unfold lineOf;omega))
def Uv(c:Ca)(line:Nat)(ck:Bool)(h0:0<c.sets.length)(hl:c.sets.length<=1000000)(hline:line<=4294967295):cA C0 117 [.agg (caL c ck),vU line] (vN (tU c line)):=by
 refine cA.intro c0Ok Tryz.func117 rfl rfl (by kernel_rfl) rfl ?_;have b1:line/16<=268435455:=jA hline;refine qS 0 rfl<|nW (vU (line/16)) rfl (IK (IC b1 rfl)) (by decide)<|qR 0 rfl<|rW (vN c.sets.length) rfl (bT aV c.sets)<|rW (vU c.sets.length) rfl (okI (IC hl rfl)) ?_;have b2:(line/16)%c.sets.length<=268435455:=aN (oF _ _) b1;refine nW (vU ((line/16)%c.sets.length)) rfl rfl omT<|rW (vN ((line/16)%c.sets.length)) rfl (okI (bJ b2 rfl))<|qRF 0 rfl ?_;exact fT rfl rfl
def NM{s:List Wy}{line k:Nat}{x:Wy}(hx:s[k]?=some x)(hn: ¬x.line=line)(h:jG s line=(jG (s.drop k) line).map (· +k)):jG s line=(jG (s.drop (k+1)) line).map (· +(k+1)):=by
 obtain⟨hk,hx'⟩:=DS.1 hx;rw[h,bR hk,hx'];simp only[jG,if_neg hn,Option.map_map];congr 1;funext i;show i+1+k=i+(k+1);omega
def NN{s:List Wy}{line k:Nat}{x:Wy}(hx:s[k]?=some x)(hn:x.line=line)(h:jG s line=(jG (s.drop k) line).map (· +k)):jG s line=some k:=by
 obtain⟨hk,hx'⟩:=DS.1 hx;rw[h,bR hk,hx'];simp[jG,hn]
def Qf{s:List Wy}{line k:Nat}(hk:s.length<=k)(h:jG s line=(jG (s.drop k) line).map (· +k)):jG s line=none:=by
 rw[h,cC hk];rfl
def Uw(s:List Wy)(line:Nat)(ck:Bool)(hs:s.length<=1000000)(ho:∀x∈s,x.ok)(hline:line<=4294967295):cA C0 118 [.sl 3 (s.map wyL) ck,vU line] (abB (jG s line)):=by
 refine cA.intro c0Ok Tryz.func118 rfl rfl (by kernel_rfl) rfl<|qS 0 rfl<|rW (vN s.length) rfl (bT wyL s)<|qRC 0 rfl<|jX (κ:=Nat) (λk=>⟨slotsF [(1,vU line),(8,.sl 3 (s.map wyL) ck),(9,vN s.length),(10,vN k)],heapF [],5⟩) (λk=>k<=s.length∧jG s line=(jG (s.drop k) line).map (· +k)) (λk=>s.length-k) 0 (λs=>s) (Weak.of_lists (λs=>s) wT trivial rfl) (⟨aE _,by simp⟩) ?_;intro k hk;have hkB:k<=1000000:=by have:=hk.1;omega
 refine qS 0 rfl<|rW (vB (decide (k<s.length))) rfl (okB (ltN _ _))<|qRC 0 rfl<|aS rfl (λh1=>?_) (λh1=>?_)
 ·skip
  obtain⟨x,hx⟩:∃x,s[k]?=some x:=⟨_,aA (of_decide_eq_true h1)⟩;refine qC 0 rfl<|rIx (wyL x) (.dp 3 0 (wyL x)) rfl rfl (fW hx) rfl<|qR 0 rfl<|rW (vB (x.line==line)) rfl (okB (eqN _ _))<|qRC 0 rfl<|aS rfl (λh2=>?_) (λh2=>?_)
  ·refine qCF 0 rfl<|qXF 0 rfl ?_;exact fT rfl (by rw[NN hx (by simpa using h2) hk.2];rfl)
  ·skip
   have b1:k+1<=1000001:=aF hkB (aC 1);refine qC 0 rfl<|rW (vN (k+1)) rfl (okI (bJ b1 rfl))<|qRF 0 rfl<|⟨k+1,λs=>s,Weak.of_lists _ wT trivial rfl,⟨of_decide_eq_true h1,NM hx (by simpa using h2) hk.2⟩,by have:=of_decide_eq_true h1;omega⟩
 ·refine qCF 0 rfl<|qXF 0 rfl ?_;exact fT rfl (by rw[Qf (by have:=aD h1;omega) hk.2];rfl)
def EI(c:Ca)(k:Nat)(s:List Wy)(i:Nat)(x:Wy):Prop:=lineOf x.line=x.line∧tU c x.line=k∧(x.data.size=0∨x.data.size=16)∧jG (s.take i) x.line=none
def fN(c:Ca)(k:Nat)(s:List Wy):vD c k s=true↔(s.length:Int)<=c.ways∧∀i x,s[i]?=some x->EI c k s i x:=by
 unfold vD EI;simp only[aJ,bB,lE,nE];refine and_congr_right λ_=>⟨λh i x hx=>?_,λh i hi=>?_⟩
 ·have:=h i (DS.1 hx).1;rw[hx]at this;simp only[aJ,dI,bB,iQ]at this;exact⟨this.1.1.1,this.1.1.2,this.1.2,this.2⟩
 ·rw[aA hi];have:=h i _ (aA hi);simp only[aJ,dI,bB,iQ];exact⟨⟨⟨this.1,this.2.1⟩,this.2.2.1⟩,this.2.2.2⟩
def eS(c:Ca):fS c=true↔((c.sets.length=1∨c.sets.length=2∨c.sets.length=4)∧(c.ways=1∨c.ways=2))∧∀k s,c.sets[k]?=some s->vD c k s=true:=by
 unfold fS;simp only[aJ,dI,bB,lE,nE];refine and_congr ?_ ⟨λh k s hs=>?_,λh k hk=>?_⟩
 ·rw[or_assoc]
 ·have:=h k (DS.1 hs).1
  rwa [hs]at this
 ·rw[aA hk];exact h k _ (aA hk)
def pU{c:Ca}(h: ¬fS c=true):fS c=false:=by simpa using h
def rX{n:Nat}{w:Int}(h:cR (cR (cR (n != 1) (n != 2) false) (n != 4) false) true (cR (w != 1) (w != 2) false)=false):(n=1∨n=2∨n=4)∧(w=1∨w=2):=by
 simp only[c2]at h;constructor
 ·by_cases h1:n=1<;>by_cases h2:n=2<;>by_cases h4:n=4<;>simp_all
 ·by_cases h1:w=1
  ·exact .inl h1
  ·by_cases h2:w=2
   ·exact .inr h2
   ·simp[h1,h2]at h;omega
def Dp{n:Nat}{w:Int}(h:cR (cR (cR (n != 1) (n != 2) false) (n != 4) false) true (cR (w != 1) (w != 2) false)=true): ¬((n=1∨n=2∨n=4)∧(w=1∨w=2)):=by
 rintro⟨rfl|rfl|rfl,rfl|rfl⟩<;>simp[cR]at h
def VT{c:Ca}{k j:Nat}{s:List Wy}{x:Wy}(h1:cR ((lineOf x.line) != x.line) true ((tU c x.line) != k)=false)(h2:cR ((x.data.size:Int) != 0) ((x.data.size:Int) != 16) false=false)(h3:(jG (s.take j) x.line).isSome=false):EI c k s j x:=by
 simp only[c2]at h1 h2;refine⟨?_,?_,?_,by simpa using h3⟩
 ·by_cases h:lineOf x.line=x.line<;>simp_all
 ·by_cases h:tU c x.line=k<;>simp_all
 ·by_cases h:x.data.size=0
  ·exact .inl h
  ·right;simp_all;omega
def SY{c:Ca}{k j:Nat}{s:List Wy}{x:Wy}(h:cR ((lineOf x.line) != x.line) true ((tU c x.line) != k)=true): ¬EI c k s j x:=λq=>by
 rw[q.1,q.2.1]at h;simp[cR]at h
def SZ{c:Ca}{k j:Nat}{s:List Wy}{x:Wy}(h:cR ((x.data.size:Int) != 0) ((x.data.size:Int) != 16) false=true): ¬EI c k s j x:=λq=>by
 rcases q.2.2.1 with e|e<;>rw[e]at h<;>simp[cR]at h
def Ta{c:Ca}{k j:Nat}{s:List Wy}{x:Wy}(h:(jG (s.take j) x.line).isSome=true): ¬EI c k s j x:=λq=>by
 rw[q.2.2.2]at h;cases h
def Gx{c:Ca}{k:Nat}{s:List Wy}(hs:c.sets[k]?=some s)(h:vD c k s=true)(hk:∀i s,i<k->c.sets[i]?=some s->vD c i s=true):∀i s,i<k+1->c.sets[i]?=some s->vD c i s=true:=λi s' hi hs'=>by
 by_cases e:i=k
 ·subst e;rw[hs]at hs';injection hs' with e;exact e ▸ h
 ·exact hk i s' omT hs'
def MA{c:Ca}{k j:Nat}{s:List Wy}{x:Wy}(hx:s[j]?=some x)(h:EI c k s j x)(hj:∀i x,i<j->s[i]?=some x->EI c k s i x):∀i x,i<j+1->s[i]?=some x->EI c k s i x:=λi x' hi hx'=>by
 by_cases e:i=j
 ·subst e;rw[hx]at hx';injection hx' with e;exact e ▸ h
 ·exact hj i x' omT hx'
def AR(c:Ca)(ck:Bool)(hok:c.ok):cA C0 92 [.agg (caL c ck)] (vB (fS c)):=by
 refine cA.intro c0Ok Tryz.func92 rfl rfl (by kernel_rfl) rfl<|qS 0 rfl<|rW (vN c.sets.length) rfl (bT aV c.sets)<|qR 0 rfl<|rW (vB (c.sets.length != 1)) rfl (okB (neN _ _))<|qR 0 rfl<|gBS rfl id (okB (neN _ _))<|cU rfl rfl rfl (λh=>h)<|qR 0 rfl<|gBS rfl id (okB (neN _ _))<|cU rfl rfl rfl (λh=>h)<|qR 0 rfl<|gS rfl id<|gBS rfl id rfl<|gS rfl id<|qR 0 rfl<|gS rfl id<|gBS rfl id rfl<|uV (x:=vB (cR (c.ways != 1) (c.ways != 2) false)) (g:= !(cR (cR (c.sets.length != 1) (c.sets.length != 2) false) (c.sets.length != 4) false)) rfl rfl rfl rfl (λh=>h) rfl rfl (λhg hc=>by first|(rw[hg,hc];rfl)|simp_all)<|cU rfl rfl rfl (by simp)<|qRC 0 rfl<|aS rfl (λh1=>?_) (λh1=>?_)
 ·refine qCF 0 rfl ?_;exact fB (x:=false) rfl (pU (c:=c) (λq=>Dp h1 ((eS c).1 q).1)).symm
 ·refine qC 0 rfl<|rW (vN c.sets.length) rfl (bT aV c.sets)<|qRC 0 rfl<|jX (κ:=Nat) (λk=>⟨slotsF [(1,.ptr 0 0),(3,vN c.sets.length),(34,.sl 1 (c.sets.map aV) ck),(35,vN c.sets.length),(36,vN k)],heapF [(0,.box [vI c.ways,.sl 1 (c.sets.map aV) ck])],30⟩) (λk=>k<=c.sets.length∧∀i s,i<k->c.sets[i]?=some s->vD c i s=true) (λk=>c.sets.length-k) 0 (λs=>s) (Weak.of_lists (λs=>s) wT wH rfl) (⟨aE _,λi s h=>absurd h (dD i)⟩) ?_;intro k hk;have hkB:k<=1000000:=by have:=hk.1;have:=(rX h1).1;omega
  refine qS 0 rfl<|rW (vB (decide (k<c.sets.length))) rfl (okB (ltN _ _))<|qRC 0 rfl<|aS rfl (λh2=>?_) (λh2=>?_)
  ·skip
   obtain⟨s,hs⟩:∃s,c.sets[k]?=some s:=⟨_,aA (of_decide_eq_true h2)⟩;have hso:=hok.set s (aB hs);refine qC 0 rfl<|rIx (aV s) (.dp 1 0 (aV s)) rfl rfl (fW hs) rfl<|qR 0 rfl<|rW (vN s.length) rfl (bT wyL s)<|qR 0 rfl<|rV (vB (decide (((s.length:Nat):Int)>c.ways))) rfl<|qRC 0 rfl<|aS rfl (λh3=>?_) (λh3=>?_)
   ·refine qCF 0 rfl<|qXF 0 rfl ?_;exact fB (x:=false) rfl (pU (c:=c) (λq=>absurd ((fN c k s).1 (((eS c).1 q).2 k s hs)).1 (by have:=of_decide_eq_true h3;omega))).symm
   ·refine qC 0 rfl<|rW (vN s.length) rfl (bT wyL s)<|qRC 0 rfl<|jX (κ:=Nat) (λj=>⟨slotsF [(1,.ptr 0 0),(3,vN c.sets.length),(34,.sl 1 (c.sets.map aV) ck),(35,vN c.sets.length),(36,vN k),(4,vN k),(5,.sl 3 (s.map wyL) false),(46,.sl 3 (s.map wyL) false),(47,vN s.length),(48,vN j)],heapF [(0,.box [vI c.ways,.sl 1 (c.sets.map aV) ck])],44⟩) (λj=>j<=s.length∧∀i x,i<j->s[i]?=some x->EI c k s i x) (λj=>s.length-j) 0 (λs=>s) (Weak.of_lists (λs=>s) wT wH rfl) (⟨aE _,λi s h=>absurd h (dD i)⟩) ?_;intro j hj;have hjB:j<=1000000:=by have:=hj.1;have:=(rX h1).2;have:=aD h3;omega
    refine qS 0 rfl<|rW (vB (decide (j<s.length))) rfl (okB (ltN _ _))<|qRC 0 rfl<|aS rfl (λh4=>?_) (λh4=>?_)
    ·skip
     obtain⟨x,hx⟩:∃x,s[j]?=some x:=⟨_,aA (of_decide_eq_true h4)⟩;have hxo:=hso.2 x (aB hx);refine qC 0 rfl<|rIx (wyL x) (.dp 3 0 (wyL x)) rfl rfl (fW hx) rfl<|qRC 0 rfl<|cRg<|oR 2 rfl<|rCi rfl (tT x.line hxo.line)<|oR 2 rfl<|rW (vB ((lineOf x.line) != x.line)) rfl (okB (neN _ _))<|oR 1 rfl<|gN rfl<|gN rfl<|gS rfl id<|jU (x:=vN (tU c x.line)) (g:= !((lineOf x.line) != x.line)) rfl rfl rfl rfl hsT rfl rfl rfl (.inl rfl) rfl (λhg=>Uv c x.line ck (by have:=of_decide_eq_true h2;omega) (by have:=(rX h1).1;omega) hxo.line)<|gN rfl<|gBS rfl hsT (okB (neN _ _))<|cU rfl rfl rfl (by simp)<|rE 65<|qXC 0 rfl<|aS rfl (λh5=>?_) (λh5=>?_)
     ·refine qCF 0 rfl<|qXF 0 rfl<|qXF 0 rfl ?_;exact fB (x:=false) rfl (pU (c:=c) (λq=>SY h5 (((fN c k s).1 (((eS c).1 q).2 k s hs)).2 j x hx))).symm
     ·refine qC 0 rfl<|rV (vI (x.data.size:Int)) rfl<|rV (vB ((x.data.size:Int) != 0)) rfl<|qR 0 rfl<|gS rfl id<|gBS rfl id rfl<|gBS rfl id rfl<|cU rfl rfl rfl (λh=>h)<|qRC 0 rfl<|aS rfl (λh6=>?_) (λh6=>?_)
      ·refine qCF 0 rfl<|qXF 0 rfl<|qXF 0 rfl ?_;exact fB (x:=false) rfl (pU (c:=c) (λq=>SZ h6 (((fN c k s).1 (((eS c).1 q).2 k s hs)).2 j x hx))).symm
      ·refine qCC 0 rfl<|cRg<|oR 2 rfl<|nW (.sl 3 (List.drop 0 (List.take j (s.map wyL))) false) rfl rfl (⟨iE _,aH _,by show(j:Int)<=(((s.map wyL).length:Nat):Int);rw[aG];have:=of_decide_eq_true h4;omega⟩)<|oR 2 rfl<|rCl (x:=.tup [vN ((jG (s.take j) x.line).getD 0),vB ((jG (s.take j) x.line).isSome)]) rfl (.inl rfl) (by show cA C0 _ [.sl 3 (List.drop 0 (List.take j (s.map wyL))) false,_] _;rw[cB, <-eZ];exact Uw (s.take j) x.line false (by rw[aL];omega) (λy hy=>hso.2 y (cQ hy)) hxo.line)<|oR 5 rfl<|rE 86<|qXC 0 rfl<|aS rfl (λh7=>?_) (λh7=>?_)
       ·refine qCF 0 rfl<|qXF 0 rfl<|qXF 0 rfl ?_;exact fB (x:=false) rfl (pU (c:=c) (λq=>Ta h7 (((fN c k s).1 (((eS c).1 q).2 k s hs)).2 j x hx))).symm
       ·skip
        have b1:j+1<=1000001:=aF hjB (aC 1);refine qC 0 rfl<|rW (vN (j+1)) rfl (okI (bJ b1 rfl))<|qRF 0 rfl<|⟨j+1,λs=>s,Weak.of_lists _ wT wH rfl,⟨of_decide_eq_true h4,MA hx (VT h5 h6 h7) hj.2⟩,by have:=of_decide_eq_true h4;omega⟩
    ·refine qCF 0 rfl ?_;have b2:k+1<=1000001:=aF hkB (aC 1);refine qX 0 rfl<|rW (vN (k+1)) rfl (okI (bJ b2 rfl))<|qRF 0 rfl<|⟨k+1,λs=>s,Weak.of_lists _ wT wH rfl,⟨of_decide_eq_true h2,Gx hs ((fN c k s).2 ⟨by have:=aD h3;omega,λi y hy=>hj.2 i y (by have:=(DS.1 hy).1;have:=aD h4;omega) hy⟩) hk.2⟩,by have:=of_decide_eq_true h2;omega⟩
  ·refine qCF 0 rfl<|qXF 0 rfl ?_;exact fB (x:=true) rfl ((eS c).2 ⟨rX h1,λi s hs=>hk.2 i s (by have:=(DS.1 hs).1;have:=aD h2;omega) hs⟩).symm
def yE(x:Wy):Wy:={x with data:=oX}
def RA:AV:=.sl 0 [] true
def DM(c:Ca)(k:Nat):List AV:=((c.sets.take k).map λs=>Rz (s.map yE))++List.replicate (c.sets.length-k) RA
def AU{c:Ca}{k:Nat}(h:k<=c.sets.length):(DM c k).length=c.sets.length:=by unfold DM;simp;omega
def Qg(c:Ca):DM c 0=List.replicate c.sets.length RA:=by unfold DM;simp
def Tb{c:Ca}{k:Nat}(h:k<c.sets.length):(DM c k)[k]?=some RA:=by
 unfold DM;rw[bU (by simp;omega),aG,List.length_take_of_le omT,fG,jJ,if_pos omT]
def JB{c:Ca}{k:Nat}{s:List Wy}(hs:c.sets[k]?=some s):(DM c k).set k (Rz (s.map yE))=DM c (k+1):=by
 obtain⟨hk,hs'⟩:=DS.1 hs;unfold DM;rw[iO _ _ (by simp;omega),aG,List.length_take_of_le omT,fG,show c.sets.length-k=(c.sets.length-(k+1))+1 by omega,List.replicate_succ,gI,bV,hs];simp
def Tc{c:Ca}(h:fS c=true):(DM c c.sets.length).map (λx=>[x])=(fE c).map aV:=by
 unfold DM fE;rw[if_pos h,fG,cM];simp only[List.replicate_zero,dR,List.map_map];rfl
def Ia{cells:List AV}{k:Nat}{x:AV}(h:cells[k]?=some x):0<=((0+k:Nat):Int)∧(cells.map λx=>[x])[((0+k:Nat):Int).toNat]?=some [x]:=
 ⟨aH _,by show(cells.map _)[0+k]?=_;rw[bF,bD,h];rfl⟩
def Yi(fz:Fz)(n:Nat)(x:AV):LeB fz (.arr (List.replicate n [x]) 1) (.row (List.replicate n x)):=by
 have:=LeB.toRow (fz:=fz) (List.replicate n x)
 rwa [fO]at this
def Qh(fz:Fz){cells:List AV}{k:Nat}{x y:AV}(hk:k<cells.length)(h:LeZ fz x y):LeB fz (.row (cells.set k x)) (.row (cells.set k y)):=by
 refine .row _ _ (by simp) λi a d ha hd=>?_;by_cases e:i=k
 ·subst e;rw[aT hk]at ha hd;injection ha with ha;injection hd with hd;subst ha;subst hd;exact h
 ·rw[gQ (Ne.symm e)]at ha hd;rw[ha]at hd;injection hd with hd;subst hd;exact .refl _
theorem MB(σ:Nat->Nat):∀(l:List AV) (k:Nat) (x:AV),Bb σ (l.set k x)=(Bb σ l).set k (uX σ x)
 |[],_,_=>by simp[Bb]
 |y::l,0,x=>by simp[Bb]
 |y::l,k+1,x=>by simp[Bb,MB σ l k x]
theorem Gy(n:Nat):∀(l:List AV) (k:Nat) (x:AV),mM n l=true->mL n x=true->mM n (l.set k x)=true
 |[],_,_,h,_=>by simpa using h
 |y::l,0,x,h,hx=>by
  simp only[mM]at h;split at h
  ·simp only[gI,mM,hx];exact h
  ·cases h
 |y::l,k+1,x,h,hx=>by
  simp only[mM]at h;split at h
  ·rename_i hy;simp only[List.set_cons_succ,mM,hy];exact Gy n l k x h hx
  ·cases h
theorem EJ:∀{l:List AV},(∀x∈l,eL x=true)->eR l=true
 |[],_=>rfl
 |x::l,h=>by simp only[eR,h x (bI)];exact EJ λy hy=>h y (bP _ hy)
def iV(c:Ca)(k:Nat):eR (DM c k)=true:=EJ λx hx=>by
 unfold DM at hx;rcases al_List_mem_append.1 hx with h|h
 ·obtain⟨s,_,rfl⟩:=sY.1 h;rfl
 ·rw[gH h];rfl
def Zc{σ:Nat->Nat}{cells r:List AV}(hc:eR cells=true)(h:r=cells):some (Blk.row r)=some (Du σ (.row cells)):=by simp only[Du,nQ σ cells hc,h]
def Zd{n:Nat}{cells:List AV}(hc:eR cells=true):qU n (.row cells)=true:=by simp only[qU,kP n cells hc]
def VU{σ:Nat->Nat}{cells r:List AV}{k:Nat}{x:AV}(hc:eR cells=true)(h:r=cells.set k (uX σ x)):some (Blk.row r)=some (Du σ (.row (cells.set k x))):=by simp only[Du,MB,nQ σ cells hc,h]
def VV{n k:Nat}{cells:List AV}{x:AV}(hc:eR cells=true)(hx:mL n x=true):qU n (.row (cells.set k x))=true:=by
 simp only[qU];exact Gy n cells k x (kP n cells hc) hx
def Td{α:Type}{l:List α}{k:Nat}{x:α}(h:l[k]?=some x):l.set k x=l:=by
 apply dC;intro i;rw[mQ];split
 ·rename_i e;subst e;rw[h];simp[(DS.1 h).1]
 ·rfl
def JC{α:Type}(l:List α)(k:Nat)(x y:α):(l.set k x).set (0+k) y=l.set k y:=by rw[bF,lI]
def CI{s:List Wy}{j:Nat}(h:j+1<s.length):(List.take (j+1) (List.drop 0 (((s.take (j+1)).map yE).map wyL))).length=j+1:=by simp;omega
def Bf{p:Prop}{H:AH}{s rs m:Nat}{a c r:List (List AV)}(hl:a.length=m)(hr:a++c=r):Res.fx p (.osl s 0 (a.length+c.length) false) (upd H s (some (.arr (a++c) rs)))=.fx p (.osl s 0 (m+c.length) false) (upd H s (some (.arr r rs))):=by rw[hl,hr]
def lP(rs:Nat)(c:Bool):Sub (.sl 0 [] true) (.sl rs [] c):=λS w v h=>by
 cases h with
 |sl _ _ _ A c0 b o u hc hm hcl hrs hA hw h1 hr=>exact .sl rs [] c A c0 b o u hc hm (λ_=>hcl rfl) (λ_ h=>by cases h) (λh=>absurd h (dU 0)) (λi row j a h=>by simp at h) h1 λi row j a h=>by simp at h
def Ib(s:List Wy){x:Wy}(hx:s[0]?=some x):[wyL (yE x)]=((s.take 1).map yE).map wyL:=by
 cases s with
 |nil=>cases hx
 |cons y l=>injection hx with hx;subst hx;rfl
def Le(s:List Wy){x:Wy}{j:Nat}(hx:s[j]?=some x):List.take j (List.drop 0 (((s.take j).map yE).map wyL))++[wyL (yE x)]=((s.take (j+1)).map yE).map wyL:=by
 obtain⟨hj,hx'⟩:=DS.1 hx;rw[cB,aM (by simp;omega),bV,hx];simp
def Lf{s:List Wy}{j b:Nat}(hj:j+1=s.length):LeZ (some (b,3,((s.take (j+1)).map yE).map wyL)) (.osl b 0 (j+1) false) (Rz (s.map yE)):=by
 have hl:(((s.take (j+1)).map yE).map wyL).length=j+1:=by simp;omega
 have:=LeZ.frz (fz:=some (b,3,((s.take (j+1)).map yE).map wyL)) b 3 0 (j+1) (((s.take (j+1)).map yE).map wyL) false false rfl omT (λh=>h);rw[show List.take (j+1) (List.drop 0 (((s.take (j+1)).map yE).map wyL))=((s.take (j+1)).map yE).map wyL from by rw[cB];exact aM omT]at this;have e:Rz (s.map yE)=.sl 3 (((s.take (j+1)).map yE).map wyL) false:=by rw[hj,cM]
 rw[e];exact this
def MC{c:Ca}(h:fS c=true):(fE c).length=c.sets.length:=by unfold fE;rw[if_pos h,aG]
def Te{fz:Fz}{c:Ca}{k:Nat}(h:decide (k<c.sets.length)=false)(hk:k<=c.sets.length)(hr:fS c=true):LeB fz (.row (DM c k)) (.arr ((fE c).map aV) 1):=by
 have:k=c.sets.length:=by have:=aD h;omega
 subst this;rw[<-Tc hr];refine .toArr _ λx hx=>?_;unfold DM at hx;rw[fG,List.replicate_zero,dR]at hx;obtain⟨s,_,rfl⟩:=sY.1 hx;rfl
def Yj(c:Ca)(ck:Bool)(hok:c.ok):cA C0 39 [.agg (caL c ck)] (.sl 1 ((fE c).map aV) false):=by
 refine cA.intro c0Ok Tryz.func39 rfl rfl (by kernel_rfl) rfl<|cSR<|rAl 0 rfl rfl<|oR 1 rfl<|rE 2<|fZ<|cSR<|oR 1 rfl<|rCi rfl (AR c ck hok)<|oR 1 rfl<|rE 5<|aS rfl (λh1=>?_) (λh1=>?_)
 ·refine cSR<|oR 1 rfl<|rE 6<|rL ?_;exact⟨_,rfl,trivial,rfl,by show Sub _ (.sl 1 ((fE c).map aV) false);rw[show fE c=[]from if_neg (by simpa using h1)];exact lP 1 false⟩
 ·refine mH<|cSR<|oR 2 rfl ?_;have hR:fS c=true:=by simpa using h1
  have hR1:=((eS c).1 hR).1;have hsl4:c.sets.length<=1000000:=by have:=hR1.1;omega
  refine rW (vN c.sets.length) rfl (bT aV c.sets)<|rFx (x:=.osl 8 0 c.sets.length false) (h':=upd _ 8 (some (.arr (List.replicate c.sets.length [.sl 0 ([]) true]) 1))) rfl rfl (rfl) (⟨aH _,iE _,by show((c.sets.length:Nat):Int)<=1000000;have:=hsl4;omega⟩)<|oR 1 rfl<|rE 10<|Fs<|Fs<|cRg<|oR 2 rfl<|rW (vN c.sets.length) rfl (bT aV c.sets)<|oR 1 rfl<|rE 14<| .mk _ (.step none (Ghost.of_lists (l:=[(3,.osl 8 0 c.sets.length false),(16,.sl 1 (c.sets.map aV) ck),(17,vN c.sets.length),(18,vI 0)]) (hp:=[(8,.row (DM c 0))]) trivial ⟨.refl _,.refl _,.refl _,.refl _,trivial⟩ ⟨⟨trivial,_,rfl,(by rw[Qg];exact Yi _ _ _)⟩,trivial⟩) (.refl _))<|qV<|jX (κ:=Nat) (λk=>⟨slotsF [(3,.osl 8 0 c.sets.length false),(16,.sl 1 (c.sets.map aV) ck),(17,vN c.sets.length),(18,vN k)],heapF [(8,.row (DM c k))],14⟩) (λk=>k<=c.sets.length) (λk=>c.sets.length-k) 0 (λs=>s) (Weak.of_lists (λs=>s) wT ⟨⟨rfl,(Zc (iV c 0) rfl),(Zd (iV c 0))⟩,trivial⟩ rfl) (aE _) ?_;intro k hk;have hkB:k<=1000000:=by omega
  refine cSR<|rW (vB (decide (k<c.sets.length))) rfl (okB (ltN _ _))<|rE 15<|fZ<|aS rfl (λh2=>?_) (λh2=>?_)
  ·refine mH<|CO (κ:=Unit) (λu_=>⟨slotsF [(3,.osl 8 0 c.sets.length false),(16,.sl 1 (c.sets.map aV) ck),(17,vN c.sets.length),(18,vN k)],heapF [(8,.row (DM c (k+1)))],61⟩) (λu_=>True) ?_ ?_
   ·refine qV<|cSR<|oR 1 rfl ?_;obtain⟨s,hs⟩:∃s,c.sets[k]?=some s:=⟨_,aA (of_decide_eq_true h2)⟩;have hsl:s.length<=2:=by have:=((fN c k s).1 (((eS c).1 hR).2 k s hs)).1;have:=hR1.2;omega
    have hkl:k<c.sets.length:=of_decide_eq_true h2;refine rIx (aV s) (.dp 1 0 (aV s)) rfl rfl (fW hs) rfl<|oR 3 rfl<|rE 20<|cSR<|oR 1 rfl<|rW (vN s.length) rfl (bT wyL s)<|oR 1 rfl<|rE 23<|qV<|jX (κ:=Nat) (λj=>match j with|0=>⟨slotsF [(3,.osl 8 0 c.sets.length false),(16,.sl 1 (c.sets.map aV) ck),(17,vN c.sets.length),(18,vN k),(4,vN k),(23,.sl 3 (s.map wyL) false),(24,vN s.length),(25,vN 0)],heapF [(8,.row ((DM c k).set k (.sl 0 ([]) true)))],61⟩|j+1=>⟨slotsF [(3,.osl 8 0 c.sets.length false),(16,.sl 1 (c.sets.map aV) ck),(17,vN c.sets.length),(18,vN k),(4,vN k),(23,.sl 3 (s.map wyL) false),(24,vN s.length),(25,vN (j+1))],heapF [(8,.row ((DM c k).set k (.osl 60 0 (j+1) false))),(60,.arr (((s.take (j+1)).map yE).map wyL) 3)],61⟩) (λj=>j<=s.length) (λj=>s.length-j) 0 (λs=>s) (Weak.of_lists (λs=>s) wT ⟨⟨rfl,(VU (iV c k) (Td (Tb hkl)).symm),(VV (iV c k) rfl)⟩,trivial⟩ rfl) (aE _) ?_;intro j hj;rcases j with _|j
    ·refine cSR<|rW (vB (decide (0<s.length))) rfl (okB (ltN _ _))<|rE 62<|fZ<|aS rfl (λh3=>?_) (λh3=>?_)
     ·refine mH<|fZ<|qV<|cSR ?_;obtain⟨x,hx⟩:∃x,s[0]?=some x:=⟨_,aA (of_decide_eq_true h3)⟩;refine rIx (wyL x) (.dp 3 0 (wyL x)) rfl rfl (fW hx) rfl<|oR 1 rfl<|rAl 64 rfl rfl<|rSt rfl<|rE 66<|cSR<|oR 1 rfl<|rSt rfl<|rE 68<|cRg<|oR 4 rfl<|nW (.ptr2 8 (0+k) 0) rfl rfl (⟨aH _,Fi.2 (by show k<c.sets.length;omega)⟩)<|ID ([.sl 0 ([]) true]) (x:=.sl 0 ([]) true) rfl rfl rfl (Ia (aT (by rw[AU (Nat.le_of_lt hkl)];exact hkl))) rfl<|oR 1 rfl<|rV (.sl 3 ([[vU x.line,vB x.dirty,.v (.string (⟨#[]⟩:ByteArray))]]) true) rfl<|rFx (x:=.osl 76 0 1 false) (h':=upd _ 76 (some (.arr ([[vU x.line,vB x.dirty,.v (.string (⟨#[]⟩:ByteArray))]]) 3))) rfl rfl (rfl) (⟨rfl,by simp[gJ],by simp[gJ],trivial⟩)<|nW (.ptr2 8 (0+k) 0) rfl rfl (⟨aH _,Fi.2 (by show k<c.sets.length;omega)⟩)<|nL ([RA]) (h':=upd _ 8 (some (.row (((DM c k).set k RA).set (0+k) (.osl 76 0 1 false))))) rfl rfl rfl (Ia (aT (by rw[AU (Nat.le_of_lt hkl)];exact hkl))) rfl<|rE 79<|cRg ?_;have b1:0+1<=1:=aF (aC 0) (aC 1);refine rW (vN (0+1)) rfl (okI (bJ b1 rfl))<|oR 1 rfl<|rE 81 ?_;refine⟨1,λs=>match s with|60=>76|s=>s,Weak.of_lists _ wT ⟨⟨rfl,(VU (iV c k) (JC ..)),(VV (iV c k) rfl)⟩,⟨rfl,(congrArg (λz=>some (Blk.arr z 3)) (Ib s hx)),rfl⟩,trivial⟩ rfl,of_decide_eq_true h3,by have:=of_decide_eq_true h3;show s.length-1<s.length-0;omega⟩
     ·refine Je ?_;have hs0:s=[]:=aR (by have:=aD h3;omega);subst hs0;refine .mk _ (.step none (Ghost.of_lists (l:=[(3,.osl 8 0 c.sets.length false),(16,.sl 1 (c.sets.map aV) ck),(17,vN c.sets.length),(18,vN k)]) (hp:=[(8,.row ((DM c k).set k (Rz (([]:List Wy).map yE))))]) trivial ⟨.refl _,.refl _,.refl _,.refl _,trivial⟩ ⟨⟨trivial,_,rfl,(Qh none (y:=Rz (([]:List Wy).map yE)) (by rw[AU (Nat.le_of_lt hkl)];exact hkl) (.nil 3 false))⟩,trivial⟩) (.refl _)) ⟨(),λs=>s,Weak.of_lists _ wT ⟨⟨rfl,(Zc (iV c (k+1)) (JB hs)),(Zd (iV c (k+1)))⟩,trivial⟩ rfl,rfl,trivial⟩
    ·have hjB:j+1<=1000000:=by omega
     refine cSR<|rW (vB (decide ((j+1)<s.length))) rfl (okB (ltN _ _))<|rE 62<|fZ<|aS rfl (λh4=>?_) (λh4=>?_)
     ·refine mH<|fZ<|qV<|cSR ?_;obtain⟨x,hx⟩:∃x,s[(j+1)]?=some x:=⟨_,aA (of_decide_eq_true h4)⟩;refine rIx (wyL x) (.dp 3 0 (wyL x)) rfl rfl (fW hx) rfl<|oR 1 rfl<|rAl 64 rfl rfl<|rSt rfl<|rE 66<|cSR<|oR 1 rfl<|rSt rfl<|rE 68<|cRg<|oR 4 rfl<|nW (.ptr2 8 (0+k) 0) rfl rfl (⟨aH _,Fi.2 (by show k<c.sets.length;omega)⟩)<|ID ([.osl 60 0 (j+1) false]) (x:=.osl 60 0 (j+1) false) rfl rfl rfl (Ia (aT (by rw[AU (Nat.le_of_lt hkl)];exact hkl))) rfl<|oR 1 rfl<|rV (.sl 3 ([[vU x.line,vB x.dirty,.v (.string (⟨#[]⟩:ByteArray))]]) true) rfl<|rFx (x:=.osl 76 0 (j+1+1) false) (h':=upd (upd _ 60 none) 76 (some (.arr (((s.take (j+1+1)).map yE).map wyL) 3))) rfl rfl (Bf (CI (of_decide_eq_true h4)) (Le s hx)) (⟨by rw[CI (of_decide_eq_true h4)];have:=hsl;show j+1+1<=1000000;have:=of_decide_eq_true h4;omega,by rw[bF];simp;have:=of_decide_eq_true h4;omega,trivial⟩)<|nW (.ptr2 8 (0+k) 0) rfl rfl (⟨aH _,Fi.2 (by show k<c.sets.length;omega)⟩)<|nL ([.osl 60 0 (j+1) false]) (h':=upd _ 8 (some (.row (((DM c k).set k (.osl 60 0 (j+1) false)).set (0+k) (.osl 76 0 (j+1+1) false))))) rfl rfl rfl (Ia (aT (by rw[AU (Nat.le_of_lt hkl)];exact hkl))) rfl<|rE 79<|cRg ?_;have b2:(j+1)+1<=1000001:=aF hjB (aC 1);refine rW (vN ((j+1)+1)) rfl (okI (bJ b2 rfl))<|oR 1 rfl<|rE 81 ?_;refine⟨(j+1)+1,λs=>match s with|60=>76|s=>s,Weak.of_lists _ wT ⟨⟨rfl,(VU (iV c k) (JC ..)),(VV (iV c k) rfl)⟩,⟨rfl,rfl,rfl⟩,trivial⟩ rfl,of_decide_eq_true h4,by have:=of_decide_eq_true h4;show s.length-((j+1)+1)<s.length-(j+1);omega⟩
     ·refine Je ?_;have hjl:j+1=s.length:=by have:=aD h4;omega
      refine .mk _ (.step (some (60,3,((s.take (j+1)).map yE).map wyL)) (Ghost.of_lists (l:=[(3,.osl 8 0 c.sets.length false),(16,.sl 1 (c.sets.map aV) ck),(17,vN c.sets.length),(18,vN k)]) (hp:=[(8,.row ((DM c k).set k (Rz (s.map yE))))]) rfl ⟨.refl _,.refl _,.refl _,.refl _,trivial⟩ ⟨⟨rfl,_,rfl,(Qh _ (y:=Rz (s.map yE)) (by rw[AU (Nat.le_of_lt hkl)];exact hkl) (Lf hjl))⟩,trivial⟩) (.refl _)) ⟨(),λs=>s,Weak.of_lists _ wT ⟨⟨rfl,(Zc (iV c (k+1)) (JB hs)),(Zd (iV c (k+1)))⟩,trivial⟩ rfl,rfl,trivial⟩
   ·intro u_ _;refine cRg ?_;have b3:k+1<=1000001:=aF hkB (aC 1);refine rW (vN (k+1)) rfl (okI (bJ b3 rfl))<|oR 1 rfl<|rE 63 ?_;refine⟨k+1,λs=>s,Weak.of_lists _ wT ⟨⟨rfl,(Zc (iV c (k+1)) rfl),(Zd (iV c (k+1)))⟩,trivial⟩ rfl,of_decide_eq_true h2,by have:=of_decide_eq_true h2;show c.sets.length-(k+1)<c.sets.length-k;omega⟩
  ·refine Je<| .mk _ (.step none (Ghost.of_lists (l:=[(3,.osl 8 0 c.sets.length false)]) (hp:=[(8,.arr ((fE c).map aV) 1)]) trivial ⟨.refl _,trivial⟩ ⟨⟨trivial,_,rfl,(Te h2 hk (by simpa using h1))⟩,trivial⟩) (.refl _))<|cSR<|oR 2 rfl<|rE 17<|rL<|dF rfl (show 0+c.sets.length<=((fE c).map aV).length from by rw[aG,MC (by simpa using h1)];omega) rfl ?_;show AV.sl 1 (List.take c.sets.length (List.drop 0 ((fE c).map aV))) false=_;rw[cB,aM (by rw[aG,MC (by simpa using h1)];omega)]
theorem Sub.sl{rs:Nat}{rows rows':List (List AV)}{clip:Bool}(hl:rows.length=rows'.length)(hw:∀(i:Nat) row row',rows[i]?=some row->rows'[i]?=some row'->row.length=row'.length∧∀(j:Nat) a b,row[j]?=some a->row'[j]?=some b->Sub a b):Sub (.sl rs rows clip) (.sl rs rows' clip):=λS w v h=>by
 cases h with
 | sl _ _ _ A c b o u hc hm hcl hrs hA hv h1 hr=>
  rw[hl];have back:∀(i:Nat) row',rows'[i]?=some row'->∃row,rows[i]?=some row:=λi row' h=>⟨_,aA (by rw[hl];exact(DS.1 h).1)⟩;have back2:∀(i:Nat) row row' (j:Nat) b,rows[i]?=some row->rows'[i]?=some row'->row'[j]?=some b->∃a,row[j]?=some a:=λi row row' j b h h' hj=>⟨_,aA (by rw[(hw i row row' h h').1];exact(DS.1 hj).1)⟩;refine .sl rs rows' clip A c b o u (hl ▸ hc) hm (λe=>(hcl e).trans hl) (λrow' hr'=>?_) (λh0=>hA omT) (λi row' j a hi hj=>?_) h1 λi row' j a hi hj=>?_
  ·obtain⟨i,hi,rfl⟩:=fY hr';obtain⟨row,hrow⟩:=back i _ (aA hi);rw[<-(hw i row _ hrow (aA hi)).1];exact hrs row (aB hrow)
  ·obtain⟨row,hrow⟩:=back i row' hi;obtain⟨x,hx⟩:=back2 i row row' j a hrow hi hj;exact hv i row j x hrow hx
  ·obtain⟨row,hrow⟩:=back i row' hi;obtain⟨x,hx⟩:=back2 i row row' j a hrow hi hj;exact(hw i row row' hrow hi).2 j x a hx hj S w _ (hr i row j x hrow hx)
def Ye:List AV->List AV->Prop
 |[],[]=>True
 |a::xs,b::ys=>Sub a b∧Ye xs ys
 |_,_=>False
theorem Ye.get:∀{xs ys:List AV},Ye xs ys->xs.length=ys.length∧∀(i:Nat) a b,xs[i]?=some a->ys[i]?=some b->Sub a b
 |[],[],_=>⟨rfl,λi a b h=>by simp at h⟩
 |x::xs,y::ys,h=>by
  obtain⟨h1,h2⟩:=Ye.get h.2;refine⟨by simp[h1],λi a b ha hb=>?_⟩
  cases i with
  |zero=>simp at ha hb;subst ha;subst hb;exact h.1
  |succ i=>exact h2 i a b (by simpa using ha) (by simpa using hb)
 |[],_::_,h=>h.elim
 |_::_,[],h=>h.elim
theorem Sub.agg{xs ys:List AV}(h:Ye xs ys):Sub (.agg xs) (.agg ys):=λS w v hv=>by
 cases hv with
 |agg _ vs hl h1 hr=>
  refine .agg ys vs (h.get.1 ▸ hl) h1 λi b u p q=>?_;have hi:i<xs.length:=by rw[h.get.1];exact(DS.1 p).1
  exact h.get.2 i xs[i] b (aA hi) p S w u (hr i _ u (aA hi) q)
theorem Sub.tup{xs ys:List AV}(h:Ye xs ys):Sub (.tup xs) (.tup ys):=λS w v hv=>by
 cases hv with
 |tup _ vs hl hr=>
  refine .tup ys vs (h.get.1 ▸ hl) λi b u p q=>?_;have hi:i<xs.length:=by rw[h.get.1];exact(DS.1 p).1
  exact h.get.2 i xs[i] b (aA hi) p S w u (hr i _ u (aA hi) q)
theorem Sub.clip(rs:Nat)(rows:List (List AV))(c:Bool):Sub (.sl rs rows c) (.sl rs rows false):=λS w v h=>by
 cases h with
 |sl _ _ _ A c0 b o u hc hm hcl hrs hA hw h1 hr=>exact .sl rs rows false A c0 b o u hc hm (λh=>by cases h) hrs hA hw h1 hr
def Mz(n:Nat):Sub (.sl 1 (List.replicate n [RA]) false) (.sl 1 (List.replicate n (aV [])) false):=by
 refine Sub.sl (by simp) λi row row' h h'=>?_;have e1:=gH (aB h);have e2:=gH (aB h');subst e1;subst e2;refine⟨rfl,λj a b ha hb=>?_⟩
 cases j with
 |zero=>injection ha with ha;injection hb with hb;subst ha;subst hb;exact lP 3 false
 |succ j=>simp at ha
abbrev gsL(x:Gs):List AV:=[.v (.int .u32 (x.pc:Int)),.v (.int .u32 (x.next:Int))]
abbrev guL(g:Gu):List AV:=[.sl 2 (g.slots.map gsL) false,.v (.int .u32 (g.hist:Int)),.sl 1 (g.rets.map eE) false]
def Ut(sets ways:Int):cA C0 20 [vI sets,vI ways] (.agg (caL (Cl sets ways) false)):=by
 refine cA.intro c0Ok Tryz.func20 rfl rfl (by kernel_rfl) rfl ?_;obtain⟨L,hLe,hL,hL1⟩:∃L:Nat,bW sets 1 4=(L:Int)∧L<=4∧1<=L:=⟨(bW sets 1 4).toNat,by unfold bW;(repeat' split)<;>omega,by unfold bW;(repeat' split)<;>omega,by unfold bW;(repeat' split)<;>omega⟩;refine qS 0 rfl<|rV (vI (if 1>sets then 1 else sets)) rfl<|rW (vN L) rfl (congrArg (λz:Int=>Res.ok (.v (.int .i64 z))) hLe)<|qR 0 rfl<|rW (vB (L==3)) rfl (okB (eqN _ _))<|qRC 0 rfl<|aS rfl (λh1=>?_) (λh1=>?_)
 ·refine qC 0 rfl<|rV (vI (if 1>ways then 1 else ways)) rfl<|rV (vI (if 2<(if 1>ways then 1 else ways)then 2 else(if 1>ways then 1 else ways))) rfl<|qR 0 rfl<|rFx (x:=.osl 12 0 2 false) (h':=upd _ 12 (some (.arr (List.replicate 2 [.sl 0 ([]) true]) 1))) rfl rfl (rfl) (⟨by decide,by decide,by decide⟩)<|rV (.agg [vI (if 2<(if 1>ways then 1 else ways)then 2 else(if 1>ways then 1 else ways)),.osl 12 0 2 false]) rfl<|qRF 0 rfl ?_;have e:(Cl sets ways).sets=List.replicate 2 []:=by show List.replicate (if bW sets 1 4=3 then 2 else bW sets 1 4).toNat []=_;rw[hLe];rw[if_pos (by have:L=3:=(by simpa using h1);omega)];rfl
  refine⟨_,rfl,⟨trivial,by show 0+2<=(List.replicate 2 [RA]).length;rw[cV];omega,trivial⟩,rfl,Sub.agg ⟨Sub.refl _,?_,trivial⟩⟩;show Sub (.sl 1 (List.take 2 (List.drop 0 (List.replicate 2 [RA]))) false) (.sl 1 ((Cl sets ways).sets.map aV) false);rw[e,cB,aM (by rw[cV];exact aC _),fO];exact Mz 2
 ·refine qC 0 rfl<|rV (vI (if 1>ways then 1 else ways)) rfl<|rV (vI (if 2<(if 1>ways then 1 else ways)then 2 else(if 1>ways then 1 else ways))) rfl<|qR 0 rfl<|rFx (x:=.osl 11 0 L false) (h':=upd _ 11 (some (.arr (List.replicate L [.sl 0 ([]) true]) 1))) rfl rfl (rfl) (⟨aH _,iE _,by show(L:Int)<=1000000;have:=hL;omega⟩)<|rV (.agg [vI (if 2<(if 1>ways then 1 else ways)then 2 else(if 1>ways then 1 else ways)),.osl 11 0 L false]) rfl<|qRF 0 rfl ?_;have e:(Cl sets ways).sets=List.replicate L []:=by show List.replicate (if bW sets 1 4=3 then 2 else bW sets 1 4).toNat []=_;rw[hLe];rw[if_neg (by have: ¬L=3:=(by simpa using h1);omega)];rfl
  refine⟨_,rfl,⟨trivial,by show 0+L<=(List.replicate L [RA]).length;rw[cV];omega,trivial⟩,rfl,Sub.agg ⟨Sub.refl _,?_,trivial⟩⟩;show Sub (.sl 1 (List.take L (List.drop 0 (List.replicate L [RA]))) false) (.sl 1 ((Cl sets ways).sets.map aV) false);rw[e,cB,aM (by rw[cV];exact aC _),fO];exact Mz L
def Yf:cA C0 22 [] (.agg (guL Ym)):=by
 refine cA.intro c0Ok Tryz.func22 rfl rfl (by kernel_rfl) rfl<|qS 0 rfl<|rFx (x:=.osl 1 0 8 false) (h':=upd _ 1 (some (.arr (List.replicate 8 [.v (.int .u32 0),.v (.int .u32 0)]) 2))) rfl rfl (rfl) (⟨by decide,by decide,by decide⟩)<|rV (.agg [.osl 1 0 8 false,.v (.int .u32 0),.sl 0 ([]) true]) rfl<|qRF 0 rfl ?_;refine⟨_,rfl,⟨by show 0+8<=_;decide,trivial,trivial,trivial⟩,rfl,Sub.agg ⟨Sub.refl _,Sub.refl _,lP 1 false,trivial⟩⟩
abbrev ftL(x:Ft):List AV:=[.v (.int .u32 (x.pc:Int)),.v (.int .u32 (x.guess:Int))]
abbrev ptL(x:Pt):List AV:=[.v (.int .u32 (x.addr:Int)),.v (.string x.data)]
abbrev enL(e:Ent):List AV:=[.v (.int .i64 e.no),.v (.int .u32 (e.pc:Int)),.v (.int .i64 e.i.op),.v (.int .i64 e.i.rd),.v (.int .i64 e.i.rs1),.v (.int .i64 e.i.rs2),.v (.int .u32 (e.i.imm:Int)),.v (.int .u32 (e.guess:Int)),.v (.int .i64 e.is),.v (.int .i64 e.left),.v (.int .u32 (e.value:Int)),.v (.int .u32 (e.next:Int)),.v (.int .u32 (e.addr:Int)),.v (.int .i64 e.halt),.v (.int .i64 e.took),.v (.bool e.known),.v (.bool e.filled)]
abbrev coL(c:Co):List AV:=[.v (.int .i64 c.conf.mode),.v (.int .i64 c.conf.width),.v (.int .i64 c.conf.rob),.v (.int .i64 c.conf.queue),.v (.int .i64 c.conf.stores),.v (.int .i64 c.conf.slots),.v (.int .i64 c.conf.sets),.v (.int .i64 c.conf.ways),.sl 1 (c.conf.lat.map iK) false,.v (.bool c.conf.tables),.sl 1 (c.conf.tape.map eE) false,.sl 1 (c.prog.map eE) false,.v (.int .i64 c.cycle),.v (.int .u32 (c.r 0:Int)),.v (.int .u32 (c.r 1:Int)),.v (.int .u32 (c.r 2:Int)),.v (.int .u32 (c.r 3:Int)),.v (.int .u32 (c.r 4:Int)),.v (.int .u32 (c.r 5:Int)),.v (.int .u32 (c.r 6:Int)),.v (.int .u32 (c.r 7:Int)),.v (.int .u32 (c.r 8:Int)),.v (.int .u32 (c.r 9:Int)),.v (.int .u32 (c.r 10:Int)),.v (.int .u32 (c.r 11:Int)),.v (.int .u32 (c.r 12:Int)),.v (.int .u32 (c.r 13:Int)),.v (.int .u32 (c.r 14:Int)),.v (.int .u32 (c.r 15:Int)),.v (.int .u32 (c.r 16:Int)),.v (.int .u32 (c.r 17:Int)),.v (.int .u32 (c.r 18:Int)),.v (.int .u32 (c.r 19:Int)),.v (.int .u32 (c.r 20:Int)),.v (.int .u32 (c.r 21:Int)),.v (.int .u32 (c.r 22:Int)),.v (.int .u32 (c.r 23:Int)),.v (.int .u32 (c.r 24:Int)),.v (.int .u32 (c.r 25:Int)),.v (.int .u32 (c.r 26:Int)),.v (.int .u32 (c.r 27:Int)),.v (.int .u32 (c.r 28:Int)),.v (.int .u32 (c.r 29:Int)),.v (.int .u32 (c.r 30:Int)),.v (.int .u32 (c.r 31:Int)),.v (.int .u32 (c.fetch:Int)),.v (.bool c.stop),.sl 2 (c.fetched.map ftL) false,.sl 17 (c.rob.map enL) false,.v (.int .i64 c.next),.sl 2 (c.stores.map ptL) false,.v (.int .i64 c.data.ways),.sl 1 (c.data.sets.map aV) false,.v (.int .i64 c.words.ways),.sl 1 (c.words.sets.map aV) false,.sl 4 (c.bus.map rqL) false,.v (.int .i64 c.asked),.v (.int .i64 c.guessed),.v (.string c.mem),.sl 2 (c.guess.slots.map gsL) false,.v (.int .u32 (c.guess.hist:Int)),.sl 1 (c.guess.rets.map eE) false,.v (.int .i64 c.halt),.sl 9 (c.retired.map spL) false]
theorem cA.sub{C:Ctx}{f:FuncId}{args:List AV}{r r':AV}(h:cA C f args r)(k:Sub r r'):cA C f args r':=⟨h.1,λS w vs a b c=>(h.2 S w vs a b c).mono λe w' ⟨v,p,q,s⟩=>⟨v,p,q,k _ _ _ s⟩⟩
def Qe(k:Nat):cA C0 19 [.v (.slice none 0 k)] (.sl 0 [] true):=by
 refine cA.intro c0Ok Tryz.func19 rfl rfl (by kernel_rfl) rfl<|qS 0 rfl<|rV (vB true) rfl<|qRF 1 rfl ?_;exact fT rfl rfl
def FB{P:Program}{w:World}(t ty e:TypeId)(i:TypeInfo)(ht:P.underlying t=some (.slice e))(hi:P.info? e=some i)(A0:Option Addr)(c0:Nat)(a:Addr)(k:Nat):
  (Builtin.append_ #[t,t] ty #[.slice A0 0 c0,.slice (some a) 0 k]).run P w=.ok (.slice A0 0 c0) w:=by
 have hl:(loadCells a 0).run P w=.ok #[] w:=rfl;cases A0<;>simp[Builtin.append_,run_underlying ht,sizeOf,typeInfo,hi,Builtin.lenOf,Builtin.firstCells,storeCells,hl]
def yD{P:Program}{w:World}{ops:Array Oper}{rest:List Oper}{o:Oper}{a:Act}{Q:Exit->Act->World->Prop}(hgd:o.guard=none)(s x:Operand)(t:TypeId)
  (ho:o.op=.call {callee:=.builtin .append,args:= #[s,x],argTypes:= #[t,t]}) (e:TypeId) (i:TypeInfo) (ht:P.underlying t=some (.slice e)) (hi:P.info? e=some i)
  (A0:Option Addr) (c0:Nat) (b:Addr) (k:Nat) (hs:a.eval s=.slice A0 0 c0) (hx:a.eval x=.slice (some b) 0 k)
  (h:wpList P ops Q rest (a.put o.dst (.slice A0 0 c0)) w):wpList P ops Q (o::rest) a w:=by
 refine wpList_plain hgd λK hK=>?_;have hrun:=FB (P:=P) (w:=w) t o.type e i ht hi A0 c0 b k;unfold Oper.wp;simp[execOp,ho,resolve,invoke,builtin,hs,hx,hrun,Result.andThen];exact hK _ _ h
def Yg(a:Addr)(k:Nat)(w:World):Calls Tryz.prog 19 #[.slice (some a) 0 k] w λe w'=>∃v,e=.returned v∧Below w.heap.size w w'∧∃A c,v=.slice A 0 c∧c<=maxLen:=by
 obtain⟨i0,z0,hi, -⟩:=(c0Ok.ty 28 _ rfl).info
 go_enter Tryz.func19,Tryz.ntmps19
 have hb:Sem.run Tryz.prog (binOp .eql 23 (.slice (some a) 0 k) (.slice none 0 0)) w=.ok (.bool false) w:=by
  have e1:(Op.equal 23 (.slice (some a) 0 k) (.slice none 0 0)).run Tryz.prog w=.ok (some a).isNone w:=Bl Tryz.prog w 9999 _ 28 (c0Ok.ty 23 _ rfl).kd _ _ _;simp only[binOp,Sem.run_bind,e1,Result.andThen_ok];rfl
 go_wp2_with (first|(rw[hb];simp only[Result.andThen_ok,Oper.upon])|(at_builtin;refine yD rfl (.tmp 5) (.tmp 6) 23 rfl 28 i0 (c0Ok.ty 23 _ rfl).kd hi _ _ _ _ rfl rfl ?_))
 go_ret
 exact⟨_,rfl,(Below.refl _ _).alloc (aC _) _,_,_,rfl,aE _⟩
def VS(x:List AV)(xs:List (List AV))(ck:Bool)(hl:(x::xs).length<=1000000):cA C0 19 [.sl 1 (x::xs) ck] (.sl 1 (x::xs) false):=by
 refine cA.intro c0Ok Tryz.func19 rfl rfl (by kernel_rfl) rfl<|qS 0 rfl<|rV (vB false) rfl<|qR 1 rfl<|rV (.sl 1 ([]) true) rfl<|qR 0 rfl<|rFx (x:=.osl 5 0 (0+(x::xs).length) false) (h':=upd _ 5 (some (.arr (([])++(x::xs)) 1))) rfl rfl (rfl) (⟨by first|(exact Nat.succ_pos _)|(simp only[cW,bF];exact hl),by first|(exact Nat.succ_pos _)|(simp only[cW,bF];exact hl),trivial,trivial⟩)<|qRF 0 rfl ?_;refine⟨_,rfl,(by show 0+(0+(x::xs).length)<=(x::xs).length;omega),rfl,?_⟩;show Sub (.sl 1 (List.take (0+(x::xs).length) (List.drop 0 ([]++(x::xs)))) false) _;rw[cB,iZ,bF,aM (aC _)];exact Sub.refl _
def Yh(rows:List (List AV))(ck:Bool)(hl:rows.length<=1000000):cA C0 19 [.sl 1 rows ck] (.sl 1 rows false):=by
 match rows,hl with
 |x::xs,hl=>exact VS x xs ck hl
 | [],_=>
  refine⟨(Qe 0).1,λS w vs hS hG hr=>?_⟩
  match vs,hr with
  |[],hr=>simp[RepL]at hr
  |_::_::_,hr=>simp[RepL]at hr
  | [v],hr=>
   have h0:=hr.2 0 _ v rfl rfl
   cases h0 with
   | sl _ _ _ A c b o u hc hm hcl hrs hA hw h1 h'=>
    cases A with
    |none=>exact((Qe c).sub (lP 1 false)).2 S w _ hS hG (RepL.cons (.v _) (RepL.nil _ _ _))
    |some a=>
     exact(Yg a c w).mono λe w' ⟨v,h1,h2,A,c',h3,h4⟩=>⟨v,h1,h2,h3 ▸ .sl 1 [] false A c' 0 0 (λ_ _=>.bool false) (aE _) h4 (λh=>by cases h) (λ_ h=>by cases h) (λh=>absurd h (dU 0)) (λi row j a h=>by simp at h) (λ_ _=>rfl) λi row j a h=>by simp at h⟩
def gP(c:Cf)(prog:List Nat)(m:ByteArray):Co:=
 {conf:=cD c,prog:=prog.take (min prog.length 64),cycle:=0,r:=λ_=>0,fetch:=0,stop:=false,fetched:=[],rob:=[],next:=1,stores:=[],data:=Cl (cD c).sets (cD c).ways,words:=Cl (cD c).sets (cD c).ways,bus:=[],asked:=0,guessed:=0,mem:=sW m,guess:=Ym,halt:=0,retired:=[]}
def Uu(c:Cf)(prog:List Nat)(m:ByteArray)(hok:c.ok)(hl:prog.length<=1000000):cA C0 8 [.agg (cfL c false false),.sl 1 (prog.map eE) false,.v (.string m)] (.agg (coL (gP c prog m))):=by
 refine cA.intro c0Ok Tryz.func8 rfl rfl (by kernel_rfl) rfl<|qS 0 rfl<|rCi rfl (Ie c false false hok)<|qRC 0 rfl<|cRg<|oR 3 rfl<|rW (vN prog.length) rfl (bT eE prog)<|rW (vN (min prog.length 64)) rfl (EK prog.length 64)<|nW (.sl 1 (List.drop 0 (List.take (min prog.length 64) (prog.map eE))) false) rfl rfl (⟨iE _,by show(0:Int)<=((min prog.length 64:Nat):Int);omega,by show((min prog.length 64:Nat):Int)<=(((prog.map eE).length:Nat):Int);rw[aG];omega⟩)<|rCi rfl (Yh (List.drop 0 (List.take (min prog.length 64) (prog.map eE))) _ (by rw[aU,aL,aG];omega))<|oR 4 rfl<|rCi rfl (Ut (cD c).sets (cD c).ways)<|oR 4 rfl<|rCi rfl (Ut (cD c).sets (cD c).ways)<|oR 1 rfl<|rCi rfl (Uy m)<|rCi rfl (Yf)<|rV (.agg [vI ((cD c).mode),vI ((cD c).width),vI ((cD c).rob),vI ((cD c).queue),vI ((cD c).stores),vI ((cD c).slots),vI ((cD c).sets),vI ((cD c).ways),.sl 1 ((cD c).lat.map iK) false,vB ((cD c).tables),.sl 1 ((cD c).tape.map eE) false,.sl 1 (List.drop 0 (List.take (min prog.length 64) (prog.map eE))) false,vI 0,zU,zU,zU,zU,zU,zU,zU,zU,zU,zU,zU,zU,zU,zU,zU,zU,zU,zU,zU,zU,zU,zU,zU,zU,zU,zU,zU,zU,zU,zU,zU,zU,zU,vB false,.sl 0 ([]) true,.sl 0 ([]) true,vI 1,.sl 0 ([]) true,vI ((Cl (cD c).sets (cD c).ways).ways),.sl 1 ((Cl (cD c).sets (cD c).ways).sets.map aV) false,vI ((Cl (cD c).sets (cD c).ways).ways),.sl 1 ((Cl (cD c).sets (cD c).ways).sets.map aV) false,.sl 0 ([]) true,vI 0,vI 0,.v (.string (sW m)),.sl 2 (Ym.slots.map gsL) false,vU Ym.hist,.sl 1 (Ym.rets.map eE) false,vI 0,.sl 0 ([]) true]) rfl<|rSt rfl<|rE 27<|qXF 0 rfl ?_;exact⟨_,rfl,tvT,rfl,Sub.agg ⟨Sub.refl _,Sub.refl _,Sub.refl _,Sub.refl _,Sub.refl _,Sub.refl _,Sub.refl _,Sub.refl _,Sub.refl _,Sub.refl _,Sub.refl _,(by show Sub (.sl 1 (List.drop 0 (List.take (min prog.length 64) (prog.map eE))) false) (.sl 1 ((prog.take (min prog.length 64)).map eE) false);rw[cB, <-eZ];exact Sub.refl _),Sub.refl _,Sub.refl _,Sub.refl _,Sub.refl _,Sub.refl _,Sub.refl _,Sub.refl _,Sub.refl _,Sub.refl _,Sub.refl _,Sub.refl _,Sub.refl _,Sub.refl _,Sub.refl _,Sub.refl _,Sub.refl _,Sub.refl _,Sub.refl _,Sub.refl _,Sub.refl _,Sub.refl _,Sub.refl _,Sub.refl _,Sub.refl _,Sub.refl _,Sub.refl _,Sub.refl _,Sub.refl _,Sub.refl _,Sub.refl _,Sub.refl _,Sub.refl _,Sub.refl _,Sub.refl _,Sub.refl _,lP 2 false,lP 17 false,Sub.refl _,lP 2 false,Sub.refl _,Sub.refl _,Sub.refl _,Sub.refl _,lP 4 false,Sub.refl _,Sub.refl _,Sub.refl _,Sub.refl _,Sub.refl _,Sub.refl _,Sub.refl _,lP 9 false,trivial⟩⟩
end Go.Proofs.YtgleompefdogkaaGreatDoor
