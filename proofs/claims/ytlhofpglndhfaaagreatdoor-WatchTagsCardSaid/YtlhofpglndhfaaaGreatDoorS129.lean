/- Joined texts. -/
import Derived.Test.YtlhofpglndhfaaaGreatDoorS101
import Derived.Test.YtlhofpglndhfaaaGreatDoorS115
import Derived.Test.YtlhofpglndhfaaaGreatDoorS116
import Derived.Test.YtlhofpglndhfaaaGreatDoorS117
import Derived.Test.YtlhofpglndhfaaaGreatDoorS118
import Derived.Test.YtlhofpglndhfaaaGreatDoorS119
import Derived.Test.YtlhofpglndhfaaaGreatDoorS128
set_option linter.unusedVariables false
set_option linter.unusedSimpArgs false
namespace Go.Proofs.YtlhofpglndhfaaaGreatDoor
open Go.RowKit
structure St where
 pc:Nat
 r:Nat→Nat
 mem:ByteArray
 halt:Int
structure Sp where
 pc:Nat
 next:Nat
 rd:Int
 value:Nat
 addr:Nat
 size:Int
 store:Bool
 halt:Int
 took:Int
abbrev stL(pc:Nat)(r:Nat→Nat)(m:ByteArray)(h:Int):List AV:=
 [.v (.int .u32 (pc:Int)),.v (.int .u32 (r 0:Int)),.v (.int .u32 (r 1:Int)),.v (.int .u32 (r 2:Int)),.v (.int .u32 (r 3:Int)),.v (.int .u32 (r 4:Int)),.v (.int .u32 (r 5:Int)),.v (.int .u32 (r 6:Int)),.v (.int .u32 (r 7:Int)),.v (.int .u32 (r 8:Int)),.v (.int .u32 (r 9:Int)),.v (.int .u32 (r 10:Int)),.v (.int .u32 (r 11:Int)),.v (.int .u32 (r 12:Int)),.v (.int .u32 (r 13:Int)),.v (.int .u32 (r 14:Int)),.v (.int .u32 (r 15:Int)),.v (.int .u32 (r 16:Int)),.v (.int .u32 (r 17:Int)),.v (.int .u32 (r 18:Int)),.v (.int .u32 (r 19:Int)),.v (.int .u32 (r 20:Int)),.v (.int .u32 (r 21:Int)),.v (.int .u32 (r 22:Int)),.v (.int .u32 (r 23:Int)),.v (.int .u32 (r 24:Int)),.v (.int .u32 (r 25:Int)),.v (.int .u32 (r 26:Int)),.v (.int .u32 (r 27:Int)),.v (.int .u32 (r 28:Int)),.v (.int .u32 (r 29:Int)),.v (.int .u32 (r 30:Int)),.v (.int .u32 (r 31:Int)),.v (.string m),.v (.int .i64 h)]
abbrev stA(s:St):AV:=.agg (stL s.pc s.r s.mem s.halt)
abbrev spL(x:Sp):List AV:=[.v (.int .u32 (x.pc:Int)),.v (.int .u32 (x.next:Int)),.v (.int .i64 x.rd),.v (.int .u32 (x.value:Int)),.v (.int .u32 (x.addr:Int)),.v (.int .i64 x.size),.v (.bool x.store),.v (.int .i64 x.halt),.v (.int .i64 x.took)]
abbrev spA(x:Sp):AV:=.agg (spL x)
abbrev siA(i:SI):AV:=.agg [.v (.int .i64 i.op),.v (.int .i64 i.rd),.v (.int .i64 i.rs1),.v (.int .i64 i.rs2),.v (.int .u32 (i.imm:Int))]
abbrev two(x:St×Sp):AV:=.tup [stA x.1,spA x.2]
structure St.ok(s:St):Prop where
 pc:s.pc≤4294967295
 r:∀ k,s.r k≤4294967295
 mem:s.mem.size≤256
def VR(r:Nat→Nat)(k v:Nat):Nat→Nat:=λ j=>if j=k then v else r j
def wr(i:SI):Int:=if tR (cN i.op)then i.rd else 0
def fetchP(prog:List Nat)(pc:Nat):Option Nat:=if pc % 4=0 then prog[pc / 4]? else none
def VS(m:ByteArray)(addr n:Nat):ByteArray:=m.extract addr (addr+n)
def up4(pc:Nat):Nat:=(pc+4) % 4294967296
def valB(b n:Nat):Nat:=joinTo (rN b n).data.toList (rN b n).size
def fetchW(prog:List Nat)(pc:Nat):Nat:=(fetchP prog pc).getD 0
def YJ:AV→Option Value
 | .tup cs=>match Io cs with|some l=>some (.tuple l.toArray)|none=>none
 |x=>Rl x
theorem SN{S:Nat→Prop}{w:World}{β:Bt}{a:AV}{u:Value}(h:YJ a=some u):Rep S w β a u:=by
 cases a with
 | tup cs=>
  simp only[YJ]at h;split at h
  ·rename_i l hl;injection h with h;subst h;have:=Db (S:=S) (w:=w) (β:=β) hl;exact .tup cs l.toArray (by simpa using this.1) λ i a u h1 h2=>this.2 i a u h1 (by simpa using h2)
  ·cases h
 |_=>exact Gn h
theorem bX.of_tupG{C:Ctx}{f:FuncId}{fn:Func}{args:List AV}{vs:List Value}{r:AV}{v:Value}(hf:C.P.funcs[f]?=some fn)(hb:fn.body.isSome=true)(hnm:(fn.name== "runtime.NumGoroutine")=false)
  (ha:Io args=some vs) (hr:YJ r=some v) (hc:∀ S w,GOk C S w→Calls C.P f vs.toArray w λ e w'=>e=.returned v∧Below w.heap.size w w'):bX C f args r:=
 ⟨⟨fn,hf,hb,hnm⟩,λ S w us hS hG hu=>by
  rw[JX ha hu];exact (hc S w hG).mono λ e w' ⟨he,hB⟩=>⟨v,he,hB,SN hr⟩⟩
theorem bX.of_tup{C:Ctx}{f:FuncId}{fn:Func}{args:List AV}{vs:List Value}{r:AV}{v:Value}(hf:C.P.funcs[f]?=some fn)(hb:fn.body.isSome=true)(hnm:(fn.name== "runtime.NumGoroutine")=false)
  (ha:Io args=some vs) (hr:YJ r=some v) (hc:∀ w,Calls C.P f vs.toArray w λ e w'=>e=.returned v∧Below w.heap.size w w'):bX C f args r:=
 .of_tupG hf hb hnm ha hr λ _ w _=>hc w
section
variable (i:SI)
theorem qN:bX C0 99 [siA i] (.v (.int .i64 ((kindOf i.op:Nat):Int))):=
 .of_flat Tryz.func99 rfl rfl rfl rfl λ w=>HE i.op i.rd i.rs1 i.rs2 i.imm w
theorem HA:bX C0 152 [siA i] (.v (.int .i64 ((dC i.op:Nat):Int))):=
 .of_flat Tryz.func152 rfl rfl rfl rfl λ w=>Mj i.op i.rd i.rs1 i.rs2 i.imm w
theorem HC:bX C0 148 [siA i] (.v (.int .i64 (wr i))):=
 .of_flat Tryz.func148 rfl rfl rfl rfl λ w=>Nq i.op i.rd i.rs1 i.rs2 i.imm w
theorem PN(pc a b:Nat)(hi:i.imm<4294967296)(hp:pc<4294967296)(ha:a<4294967296)(hb:b<4294967296):bX C0 211 [siA i,.v (.int .u32 (pc:Int)),.v (.int .u32 (a:Int)),.v (.int .u32 (b:Int))] (.tup [.v (.int .u32 ((wF i.op i.imm pc a b:Nat):Int)),.v (.bool (decide (wF i.op i.imm pc a b % 4=0)))]):=
 .of_tup Tryz.func211 rfl rfl rfl rfl λ w=>Nn i.op i.rd i.rs1 i.rs2 i.imm pc a b w hi hp ha hb
theorem XZ(pc a b:Nat)(hi:i.imm<4294967296)(hp:pc<4294967296)(ha:a<4294967296)(hb:b<4294967296):bX C0 209 [siA i,.v (.int .u32 (pc:Int)),.v (.int .u32 (a:Int)),.v (.int .u32 (b:Int))] (.v (.int .u32 ((PQ i.op i.imm pc a b:Nat):Int))):=
 .of_flat Tryz.func209 rfl rfl rfl rfl λ w=>PR i.op i.rd i.rs1 i.rs2 i.imm pc a b w hi hp ha hb
theorem Ya(op:Int)(a b:Nat)(ha:a<4294967296)(hb:b<4294967296):bX C0 210 [.v (.int .i64 op),.v (.int .u32 (a:Int)),.v (.int .u32 (b:Int))] (.v (.int .i64 (yO op a b))):=
 .of_flat Tryz.func210 rfl rfl rfl rfl λ w=>(SP op a b w ha hb).mono λ _ _ ⟨h1,h2⟩=>⟨h1,h2 ▸ Below.refl _ _⟩
theorem PO(size:Int)(addr:Nat)(many:Int)(hs:size<9223372036854775808)(ha:addr<4294967296):bX C0 50 [.v (.int .i64 size),.v (.int .u32 (addr:Int)),.v (.int .i64 many)] (.v (.bool (nK size addr many))):=
 .of_flat Tryz.func50 rfl rfl rfl rfl λ w=>(PW size addr many w hs ha).mono λ _ _ ⟨h1,h2⟩=>⟨h1,h2 ▸ Below.refl _ _⟩
theorem PP(x n:Nat)(hx:x<4294967296)(hn:n≤4):bX C0 159 [.v (.int .u32 (x:Int)),.v (.int .i64 (n:Int))] (.tup [.v (.string (rN x n)),.v (.int .i64 0)]):=
 .of_tup Tryz.func159 rfl rfl rfl rfl λ w=>PZ x n w hx hn
theorem Zo(s:ByteArray)(hs:s.size≤4):bX C0 196 [.v (.string s)] (.tup [.v (.int .u32 ((joinTo s.data.toList s.size:Nat):Int)),.v (.int .i64 0)]):=
 .of_tup Tryz.func196 rfl rfl rfl rfl λ w=>(Ml s w hs).mono λ _ _ ⟨h1,h2⟩=>⟨h1,h2 ▸ Below.refl _ _⟩
theorem Zp(op:Int)(s:ByteArray)(hs:s.size<9223372036854775808):bX C0 149 [.v (.int .i64 op),.v (.string s)] (.v (.int .u32 ((loadP op s:Nat):Int))):=
 .of_flat Tryz.func149 rfl rfl rfl rfl λ w=>SR op s w hs
end
structure Req where
 kind:Int
 line:Nat
 left:Int
 data:ByteArray
structure Wy where
 line:Nat
 dirty:Bool
 data:ByteArray
structure Ca where
 ways:Int
 sets:List (List Wy)
structure Pt where
 addr:Nat
 data:ByteArray
structure Gs where
 pc:Nat
 next:Nat
structure Gu where
 slots:List Gs
 hist:Nat
 rets:List Nat
structure Ft where
 pc:Nat
 guess:Nat
structure Cf where
 mode:Int
 width:Int
 rob:Int
 queue:Int
 stores:Int
 slots:Int
 sets:Int
 ways:Int
 lat:List Int
 tables:Bool
 tape:List Nat
structure Ent where
 no:Int
 pc:Nat
 i:SI
 guess:Nat
 is:Int
 left:Int
 value:Nat
 next:Nat
 addr:Nat
 halt:Int
 took:Int
 known:Bool
 filled:Bool
structure Co where
 conf:Cf
 prog:List Nat
 cycle:Int
 r:Nat→Nat
 fetch:Nat
 stop:Bool
 fetched:List Ft
 rob:List Ent
 next:Int
 stores:List Pt
 data:Ca
 words:Ca
 bus:List Req
 asked:Int
 guessed:Int
 mem:ByteArray
 guess:Gu
 halt:Int
 retired:List Sp
def oC:ByteArray:=⟨#[]⟩
def BI:Ent:=⟨0,0,YT,0,0,0,0,0,0,0,0,false,false⟩
def Nm:Req:=⟨0,0,0,oC⟩
def pO:Wy:=⟨0,false,oC⟩
def bH(n lo hi:Int):Int:=if (if n<lo then lo else n)>hi then hi else (if n<lo then lo else n)
def bP(c:Cf):Cf:=
 {mode:=bH c.mode 0 2,width:=bH c.width 1 2,rob:=bH c.rob 2 8,queue:=bH c.queue 1 4,stores:=bH c.stores 1 4,slots:=bH c.slots 2 6
  sets:=if bH c.sets 1 4=3 then 2 else bH c.sets 1 4,ways:=bH c.ways 1 2
  lat:=(c.lat.take 64).map λ n=>bH n 1 8,tables:=c.tables,tape:=c.tape.take 64}
def inI(n lo hi:Int):Bool:=decide (n≥lo)&&decide (n≤hi)
def sW(c:Cf):Bool:=
 (c.lat.all λ n=>inI n 1 8)&&inI c.mode 0 2&&inI c.width 1 2&&inI c.rob 2 8&&inI c.queue 1 4&&inI c.stores 1 4&&inI c.slots 2 6&&inI c.sets 1 4&&decide (c.sets≠3)&&inI c.ways 1 2&&decide (c.lat.length≤64)&&decide (c.tape.length≤64)
def kQ(c:Cf)(k:Int):Int:=
 match (bP c).lat with
 |[]=>1
 |l=>l.getD ((max k 0).toNat % l.length) 1
def wY(c:Cf)(k:Int)(pc:Nat):Nat:=
 match (bP c).tape with
 |[]=>up4 pc
 |l=>l.getD ((max k 0).toNat % l.length) 0
def lineOf(a:Nat):Nat:=a - a % 16
def xZ(q:List Req)(kind:Int)(line:Nat)(left:Int)(data:ByteArray):List Req:=q++[⟨kind,line,max left 1,data⟩]
def dX(q:List Req):List Req×Req×Bool:=
 match q with
 |[]=>([],Nm,false)
 |x::r=>if wrap64 (x.left - 1)>0 then ({x with left:=wrap64 (x.left - 1)}::r,Nm,false)else (r,{x with left:=wrap64 (x.left - 1)},true)
def Dl(q:List Req)(line:Nat)(kind:Int):Bool:=q.any λ x=>decide (x.line=line)&&decide (x.kind=kind)
def jP(q:List Req):Nat:=(q.filter λ x=>decide (x.kind≠4)).length
def wZ(c:Ca)(line:Nat):Nat:=line / 16 % c.sets.length
def jV:List Wy→Nat→Option Nat
 |[],_=>none
 |w::l,line=>if w.line=line then some 0 else (jV l line).map (· +1)
def uD(c:Ca)(k:Nat)(set:List Wy):Bool:=
 decide ((set.length:Int)≤c.ways)&&(List.range set.length).all λ at_=>match set[at_]? with
  |some w=>decide (lineOf w.line=w.line)&&decide (wZ c w.line=k)&&(decide (w.data.size=0)||decide (w.data.size=16))&&(jV (set.take at_) w.line).isNone
  |none=>true
def fR(c:Ca):Bool:=
 (decide (c.sets.length=1)||decide (c.sets.length=2)||decide (c.sets.length=4))&&(decide (c.ways=1)||decide (c.ways=2))&&(List.range c.sets.length).all λ k=>match c.sets[k]? with
  |some s=>uD c k s
  |none=>true
def Av(sets ways:Int):Ca:=⟨bH ways 1 2,List.replicate (if bH sets 1 4=3 then 2 else bH sets 1 4).toNat []⟩
def eY{α:Type}(l:List α)(k:Nat):List α:=(match l[k]? with|some x=>[x]|none=>[])++l.take k++l.drop (k+1)
def oW(c:Ca)(k:Nat)(set:List Wy):Ca:=⟨c.ways,c.sets.set k set⟩
def bE(c:Ca)(line:Nat):Nat×Option Nat:=
 if fR c=true then (wZ c (lineOf line),jV ((c.sets[wZ c (lineOf line)]?).getD []) (lineOf line))else (0,none)
def oD(c:Ca)(k:Nat):List Wy:=(c.sets[k]?).getD []
def mG(c:Ca)(line:Nat):Ca:=
 match bE c line with
 |(k,some j)=>oW c k (eY (oD c k) j)
 |(_,none)=>c
def dB(d:ByteArray):ByteArray:=if d.size=16 then d else oC
def modHd{α:Type}(f:α→α):List α→List α
 |[]=>[]
 |x::l=>f x::l
def nP(c:Ca)(line:Nat)(data:ByteArray)(dirty:Bool):Ca×Wy×Bool:=
 if fR c=true then
  match bE c line with
  |(k,some j)=>(oW c k (modHd (λ w=>{w with data:=if (dB data).size=0 then w.data else dB data,dirty:=w.dirty||dirty}) (eY (oD c k) j)),pO,false)
  | (k,none)=>
   if ((oD c k).length:Int)=c.ways then
    (oW c k (⟨lineOf line,dirty,dB data⟩::(oD c k).dropLast),(oD c k).getLast?.getD pO,true)
   else (oW c k (⟨lineOf line,dirty,dB data⟩::oD c k),pO,false)
 else (c,pO,false)
def Ek(d:ByteArray)(from_:Nat)(b:ByteArray):ByteArray:=d.extract 0 from_++b++d.extract (from_+b.size) d.size
def qM(c:Ca)(addr:Nat)(bytes:ByteArray):Ca×Bool:=
 match bE c addr with
 | (k,some j)=>
  match (oD c k)[j]? with
  |some w=>if w.data.size=0∨bytes.size+addr % 16>16 then (c,false)
   else (oW c k (modHd (λ w=>{w with data:=Ek w.data (addr % 16) bytes,dirty:=true}) (eY (oD c k) j)),true)
  |none=>(c,false)
 |(_,none)=>(c,false)
def oH(c:Ca)(line:Nat):Ca:=
 match bE c line with
 |(k,some j)=>oW c k ((oD c k).modify j λ w=>{w with dirty:=false})
 |(_,none)=>c
def cM(c:Ca):Option Wy:=if fR c=true then c.sets.flatten.find? (·.dirty)else none
def iI(c:Ca):List (List Wy):=if fR c=true then c.sets.map λ s=>s.map λ w=>{w with data:=oC}else []
def AM(m:ByteArray)(p:Pt):ByteArray:=
 if p.addr<m.size then m.extract 0 p.addr++p.data.extract 0 (min p.data.size (m.size - p.addr))++m.extract (p.addr+min p.data.size (m.size - p.addr)) m.size else m
def qC(m:ByteArray)(l:List Pt):ByteArray:=l.foldl AM m
def fU(q:List Req):List Pt:=(q.filter λ x=>decide (x.kind=4)).map λ x=>⟨x.line,x.data⟩
def jI(q:List Req)(m:ByteArray):ByteArray:=qC m (fU q)
def KM(c:Ca):List Pt:=c.sets.flatten.map λ w=>⟨w.line,w.data⟩
def BJ(c:Ca)(q:List Req)(m:ByteArray):ByteArray:=qC (jI q m) (KM c)
def XW(stores:List Pt)(c:Ca)(q:List Req)(m:ByteArray):ByteArray:=qC (BJ c q m) stores
def El(m:ByteArray)(line:Nat):ByteArray:=if lineOf line<m.size then m.extract (lineOf line) (lineOf line+min (m.size - lineOf line) 16)else oC
def XX:Gu:=⟨List.replicate 8 ⟨0,0⟩,0,[]⟩
def rM(g:Gu):Bool:=decide (g.slots.length=8)&&decide (g.hist<8)&&decide (g.rets.length≤4)
def gJ(g:Gu)(pc:Nat):Nat:=(pc / 4 ^^^ g.hist) % 8
def PM(i:SI):Bool:=(decide (i.op=3)||decide (i.op=4))&&decide (i.rd=1)
def Fc(i:SI):Bool:=decide (i.op=4)&&decide (i.rd=0)&&decide (i.rs1=1)
def vX(g:Gu)(pc:Nat)(i:SI):Nat:=
 if rM g=true∧kindOf i.op=5 then
  if Fc i=true∧0<g.rets.length then g.rets.getLast?.getD 0
  else match g.slots[gJ g pc]? with
   |some s=>if s.pc=pc∧ ¬ (s.pc=0∧s.next=0)then s.next else up4 pc
   |none=>up4 pc
 else up4 pc
def gQ(g:Gu)(pc next:Nat)(i:SI):Gu:=
 if rM g=true∧kindOf i.op=5 then
  {slots:=g.slots.set (gJ g pc) ⟨pc,next⟩
   hist:=(2 * g.hist+(if next≠up4 pc then 1 else 0)) % 8
   rets:=if PM i=true then (if (g.rets++[up4 pc]).length>4 then (g.rets++[up4 pc]).drop 1 else g.rets++[up4 pc])
    else if Fc i=true∧0<g.rets.length then g.rets.dropLast else g.rets}
 else g
@[reducible] def Ctx.at(C:Ctx)(s:Nat):Ctx:={C with fr:=s}
def Fd(r:AV):Nat→AV:=λ i=>match i with|0=>r|_=>.any
def aa3(C:Ctx)(fn:Func)(Post:AV→AH→Prop)(s:Nat):AEx→ASt→Prop
 | .exit _,_=>False
 |_,st=>∃ rs,resA C st fn.results.toList=some rs∧GhostN ⟨Fd (Ct rs),st.h,st.n⟩ (λ stg=>∃ r h' σ,Post r h'∧keepB s σ (s+1)=true∧Weak stg ⟨Fd r,h',s+1⟩ σ)
def CV(h:AH):Nat→Bool
 |0=>true
 |k+1=>match h k with|some _=>CV h k|none=>false
theorem tN{h:AH}:∀ {s:Nat},CV h s=true→∀ x,x<s→h x≠none
 |0,_,x,hx=>absurd hx (dY _)
 | k+1,hf,x,hx=>by
  simp only[CV]at hf;split at hf
  ·rename_i b hb;rcases al_Nat_lt_or_ge x k with h|h
   ·exact tN hf x h
   ·have:x=k:=by omega
    subst this;rw[hb];simp
  ·cases hf
theorem Jw:∀ {fr:Nat} {σ:Nat→Nat} {n:Nat},keepB fr σ n=true→∀ x,x<fr→σ x=x∧x<n
 |0,_,_,_,x,hx=>absurd hx (dY _)
 | k+1,σ,n,hf,x,hx=>by
  simp only[keepB]at hf;split at hf
  ·rename_i h1 h2;rcases al_Nat_lt_or_ge x k with h|h
   ·exact Jw hf x h
   ·have:x=k:=by omega
    subst this;exact⟨aK h1,aO h2⟩
  ·cases hf
section
variable (S:Nat→Prop)(w:World)(β:Bt)
def OwnB(b:Nat):Prop:=∃ x l,β x=some l∧l.blk=b
structure FrP(s:Nat)(S':Nat→Prop)(w':World)(β':Bt):Prop where
 hS:∀ b,S b→S' b
 hE:Evo S w w'
 sz:w.heap.size≤w'.heap.size
 keep:∀ x l,x<s→β x=some l→β' x=some l
 own:∀ x l,β' x=some l→OwnB β l.blk∨w.heap.size≤l.blk
 nw:∀ b,S' b→S b∨w.heap.size≤b∨OwnB β b
 still:∀ b,b<w.heap.size→ ¬ OwnB β b→w'.heap[b]?=w.heap[b]?
theorem SU{S:Nat→Prop}{w w' w2:World}(h:Evo S w w')(e:w2.heap=w'.heap):Evo S w w2:=⟨λ b hb=>by rw[e];exact h.stable b hb,λ b cs t fr hb=>by rw[e];exact h.shape b cs t fr hb⟩
def Fe(s:Nat):Inv s where
 p:=FrP S w β s
 mono:=by
  intro B S1 w1 β1 s1 S2 w2 β2 P K
  refine⟨λ b hb=>K.hS b (P.hS b hb),P.hE.trans P.hS K.hE,aM P.sz K.hB.size,λ x l hx hl=>K.hle _ _ (P.keep x l hx hl),λ x l hl=>?_,λ b hb=>?_,λ b hb hn=>?_⟩
  ·rcases K.hdom x l hl with h|⟨_,h|⟨y,k,h1,h2⟩⟩
   ·exact P.own x l h
   ·exact .inr (aM P.sz h)
   ·rw[←h2];exact P.own y k h1
  ·rcases K.hN b hb with h|⟨_,h|⟨y,k,h1,h2⟩⟩
   ·exact P.nw b h
   ·exact .inr (.inl (aM P.sz h))
   ·rcases P.own y k h1 with h|h
    ·exact .inr (.inr (h2 ▸ h))
    ·exact .inr (.inl (h2 ▸ h))
  ·refine (K.hO b (Nat.lt_of_lt_of_le hb P.sz) λ y k h1 h2=>?_).trans (P.still b hb hn)
   rcases P.own y k h1 with h|h
   ·exact hn (h2 ▸ h)
   ·rw[h2]at h;omega
 weak:=by
  intro S1 w1 β1 σ n P hk
  refine⟨P.hS,P.hE,P.sz,λ x l hx hl=>?_,λ x l hl=>?_,P.nw,P.still⟩
  ·obtain⟨h1,h2⟩:=Jw hk x hx
   simp only[h2,kV,h1]
   exact P.keep x l hx hl
  ·by_cases hx:x<n
   ·rw[if_pos hx]at hl;exact P.own _ l hl
   ·rw[if_neg hx]at hl;cases hl
 frz:=by
  intro S1 w1 β1 x l P hl
  refine⟨λ b hb=>.inl (P.hS b hb),P.hE,P.sz,P.keep,P.own,λ b hb=>?_,P.still⟩
  rcases hb with hb|rfl
  ·exact P.nw b hb
  ·exact (P.own x l hl).elim (λ h=>.inr (.inr h)) λ h=>.inr (.inl h)
 heap:=by
  intro S1 w1 w2 β1 P e
  exact⟨P.hS,SU P.hE e,by rw[e];exact P.sz,P.keep,P.own,P.nw,λ b hb hn=>by rw[e];exact P.still b hb hn⟩
end
theorem HCall.intro{C:Ctx}{s:Nat}(hC:CtxOk (C.at s)){f:FuncId}{fn:Func}{body:Code}{args:List AV}{h:AH}{Post:AV→AH→Prop}(hf:C.P.funcs[f]?=some fn)(hb:fn.body=some body)(hnm:(fn.name== "runtime.NumGoroutine")=false)
  (hN:tU fn.ntmps body=true) (hlen:Nat.ble args.length fn.ntmps=true) (hfull:CV h s=true) (hw:fY (C.at s) (bX (C.at s)) body ⟨argsT args,h,s⟩ (aa3 (C.at s) fn Post s)) (hdf:C.df=[]:=by rfl):pV C.P C.G f args h s Post:=by
 refine⟨⟨fn,hf,by rw[hb];rfl,hnm⟩,λ B S w β vs H hdom hG hargs=>?_⟩;have hlen:=aO hlen;refine calls_of_wp hf hb ?_;have hB0:({w with heap:=w.heap.extract 0 B}:World).heap.size=B:=by
  show (w.heap.extract 0 B).size=B;rw[Array.size_extract];have:=H.big;omega
 have hget:∀ b,b<B→(w.heap.extract 0 B)[b]?=w.heap[b]? :=λ b hb=>by
  rw[mH,if_pos (by have:=H.big;omega),bL]
 have M0:SimD (C.at s) (Fe S w β s) {w with heap:=w.heap.extract 0 B} S fn.ntmps (· <s) (argsT args) h {tmps:=vs.toArray++Array.replicate (fn.ntmps - vs.toArray.size) undef,defers:=[]} w S β:=by
  have hl:vs.length=args.length:=hargs.1.symm;refine⟨λ i=>?_,by rw[hB0];exact H,⟨rfl,rfl,rfl,by rw[hB0];exact H.big,λ b hb=>?_⟩,hdom,hdf.symm,by simp;omega,hG,λ _ h=>.inl h,⟨λ _ h=>h,Evo.refl _ _,aC _,λ _ _ _ h=>h,λ x l h=>.inl ⟨x,l,h,rfl⟩,λ _ h=>.inl h,λ _ _ _=>rfl⟩⟩
  ·rw[yQ]
   cases ha:args[i]? with
   |none=>exact .any _
   | some x=>
    have hi:i<vs.length:=by rw[hl];exact (Dq.1 ha).1
    have hv:vs[i]?=some vs[i]:=aA hi;have:(vs.toArray++Array.replicate (fn.ntmps - vs.toArray.size) undef).getD i undef=vs[i]:=by
     rw[aJ,dK (by simpa using hi),eK,hv];rfl
    rw[this];exact hargs.2 i x _ ha hv
  ·rw[hB0]at hb;exact (hget b hb).symm
 refine wp_mono (BU hC body hN ⟨argsT args,h,s⟩ _ hw _ w S β M0) ?_;rintro e a' w' ⟨e',st,S',β',rfl,hfin,M⟩;have fin:(∃ rs,resA (C.at s) st fn.results.toList=some rs∧GhostN ⟨Fd (Ct rs),st.h,st.n⟩ (λ stg=>∃ r h' σ,Post r h'∧keepB s σ (s+1)=true∧Weak stg ⟨Fd r,h',s+1⟩ σ))→a'.defers=[]∧∃ v,(results fn a'.tmps).run C.P w'=.ok v w'∧∃ v' S2 β2 r h',Post r h'∧Ending.returned v=.returned v'∧Rep S2 w' β2 r v'∧SimH B S2 w' β2 h'∧StepK B S w β s S2 w' β2:=by
  rintro ⟨rs,h1,stg,hgs,r,h',σ,hP,hk,hW⟩;obtain⟨t,hh,n⟩:=st;obtain⟨us,g1,g2⟩:=Ip hC M _ rs h1;have hret:Rep S' w' β' (Ct rs) (if h:us.toArray.size=1 then us.toArray[0]else .tuple us.toArray):=by
   match rs,us,g2 with
   |[],us,g2=>
    have:us=[]:=aX g2.1.symm;subst this
    exact .tup [] #[] rfl λ i a u p=>by simp at p
   |[x],us,g2=>
    match us,g2 with
    |[u],g2=>simpa [Ct]using g2.2 0 x u rfl rfl
    |[],g2=>exact absurd g2.1 (by simp)
    |_::_::_,g2=>exact absurd g2.1 (by simp)
   | x::y::zs,us,g2=>
    have hne: ¬ us.toArray.size=1:=by
     have:=g2.1;simp at this⊢;omega
    rw[dif_neg hne];exact .tup _ _ (by simpa using g2.1) λ i a u p q=>g2.2 i a u p (by simpa using q)
  refine⟨M.df.trans hdf,_,xG _ us g1 fn rfl,?_⟩;generalize hv:(if h:us.toArray.size=1 then us.toArray[0]else .tuple us.toArray)=v at hret⊢;have M1:SimD (C.at s) (Fe S w β s) {w with heap:=w.heap.extract 0 B} S 1 (· <n) (Fd (Ct rs)) hh {tmps:= #[v],defers:=a'.defers} w' S' β':=by
   refine⟨λ i=>?_,M.H,M.B,M.dom,M.df,rfl,M.G,M.nw,M.iv⟩
   cases i with
   |zero=>exact hret
   |succ i=>exact .any _
  obtain⟨S2,M2⟩:=nE hgs M1;have M3:=pI hW hk M2;have hr:=M3.T 0;refine⟨v,S2,_,r,h',hP,rfl,hr,by have:=M3.H;rwa [hB0]at this,?_⟩;have P:FrP S w β s S2 w' _:=M3.iv;have hfl:=tN hfull;refine⟨P.hS,P.hE,⟨M3.B.os,M3.B.tape,M3.B.output,P.sz,λ b hb=>?_⟩,λ x l hl=>P.keep x l (hdom x l hl) hl,λ x l hl=>?_,λ b hb=>?_,λ b hb hn=>P.still b hb λ⟨x,l,h1,h2⟩=>hn x l h1 h2⟩
  ·rw[M3.B.block b (by rw[hB0];exact hb)];exact hget b hb
  ·rcases al_Nat_lt_or_ge x s with hx|hx
   ·obtain⟨blk,hblk⟩:=Da.1 (hfl x hx);obtain⟨l0,_,_,_,k1,_⟩:=H.own x blk hblk;have:=P.keep x l0 hx k1;rw[hl]at this;injection this with this;subst this;exact .inl k1
   ·have hx':x=s:=by
     have:=M3.dom x l hl;show x=s;have:x<s+1:=this;omega
    refine .inr ⟨hx',?_⟩;rcases P.own x l hl with ⟨y,k,h1,h2⟩|h
    ·exact .inr ⟨y,k,h1,h2⟩
    ·exact .inl h
  ·rcases P.nw b hb with h|h|⟨y,k,h1,h2⟩
   ·exact .inl h
   ·exact .inr ⟨aM H.big h,.inl h⟩
   ·rcases M3.nw b hb with h|h
    ·exact .inl h
    ·exact .inr ⟨by rwa [hB0]at h,.inr ⟨y,k,h1,h2⟩⟩
 cases e' with
 |normal=>exact fin hfin
 |ret=>exact fin hfin
 |exit i=>exact hfin.elim
theorem KQ{S:Nat→Prop}{w:World}{β:Bt}{a:AV}{v:Value}(hr:Rep S w β a v):∀ {β':Bt} {ρ:Nat→Nat},(∀ x l,β x=some l→β' (ρ x)=some l)→Rep S w β' (tY ρ a) v:=by
 induction hr with
 |v x=>intro β' ρ _;exact .v x
 |agg cs vs hl h1 h ih=>
  intro β' ρ hb;refine .agg _ vs (by rw[sZ];exact hl) h1 λ i a u p q=>?_;rw[pH]at p;obtain⟨y,hy,rfl⟩:=Fg.1 p
  exact ih i y u hy q hb
 |tup cs vs hl h ih=>
  intro β' ρ hb;refine .tup _ vs (by rw[sZ];exact hl) λ i a u p q=>?_;rw[pH]at p;obtain⟨y,hy,rfl⟩:=Fg.1 p
  exact ih i y u hy q hb
 |sl rs rows clip A c b o u hc hm hcl hrs hA hw h1 hr ih=>intro β' ρ _;exact .sl rs rows clip A c b o u hc hm hcl hrs hA hw h1 hr
 |dp rs col row b o u hrs hb hw h1 hr ih=>intro β' ρ _;exact .dp rs col row b o u hrs hb hw h1 hr
 |ptr s col l hl=>intro β' ρ hb;exact .ptr _ col l (hb _ _ hl)
 |ptr2 s row col l hl=>intro β' ρ hb;exact .ptr2 _ row col l (hb _ _ hl)
 |osl s lo len clip l A c hl hc hm hcl hA cs e fr hb room=>intro β' ρ hb';exact .osl _ lo len clip l A c (hb' _ _ hl) hc hm hcl hA cs e fr hb room
 | clo f first caps vs us hl h hl' h' ih ih'=>
  intro β' ρ hb;refine .clo f _ _ vs us (by rw[sZ];exact hl) (λ i a u p q=>?_) (by rw[sZ];exact hl') λ i a u p q=>?_
  ·rw[pH]at p;obtain⟨y,hy,rfl⟩:=Fg.1 p;exact ih i y u hy q hb
  ·rw[pH]at p;obtain⟨y,hy,rfl⟩:=Fg.1 p
   exact ih' i y u hy q hb
 |optT g a x hg h ih=>intro β' ρ hb;exact .optT g _ x hg (ih hb)
 |optF g a hg=>intro β' ρ _;exact .optF g _ hg
 |any x=>intro β' ρ _;exact .any x
theorem Qa{S:Nat→Prop}{w:World}{β β':Bt}{ρ:Nat→Nat}{l:Loc}{cs:Array Value}{blk:Blk}(k:At S w β l cs blk)(hb:∀ x l,β x=some l→β' (ρ x)=some l):At S w β' l cs (CO ρ blk):=by
 cases blk with
 |box cells=>
  intro j a hj;rw[pH]at hj;obtain⟨y,hy,rfl⟩:=Fg.1 hj;obtain⟨u,p1,p2,p3⟩:=k j y hy
  exact⟨u,p1,p2,KQ p3 hb⟩
 |arr rows rs=>exact k
 |row cells=>
  refine⟨k.1,λ j a hj=>?_⟩;rw[pH]at hj;obtain⟨y,hy,rfl⟩:=Fg.1 hj;obtain⟨u,p1,p2,p3⟩:=k.2 j y hy;exact⟨u,p1,p2,KQ p3 hb⟩
theorem Ns{S:Nat→Prop}{w:World}{β:Bt}{ρ:Nat→Nat}{n:Nat}{l:Loc}{cs:Array Value}{blk:Blk}(hb:qF n blk=true)(k:At S w β l cs (CO ρ blk)):At S w (λ s=>if s<n then β (ρ s)else none) l cs blk:=by
 cases blk with
 |box cells=>
  intro j a hj;obtain⟨u,q1,q2,q3⟩:=k j (tY ρ a) (by rw[pH,hj];rfl)
  exact⟨u,q1,q2,BS _ _ _ (aC _) (sH _ cells (by simpa [qF]using hb) j a hj) q3⟩
 |arr rows rs=>exact k
 |row cells=>
  refine⟨k.1,λ j a hj=>?_⟩;obtain⟨u,q1,q2,q3⟩:=k.2 j (tY ρ a) (by rw[pH,hj];rfl);exact⟨u,q1,q2,BS _ _ _ (aC _) (sH _ cells (by simpa [qF]using hb) j a hj) q3⟩
def Ff(ρ:Nat→Nat)(s s2:Nat):Nat→Nat:=λ x=>match Nat.beq x s with|true=>s2|false=>ρ x
theorem uZ(ρ:Nat→Nat)(s s2:Nat):Ff ρ s s2 s=s2:=by simp[Ff]
theorem qW(ρ:Nat→Nat){s s2 x:Nat}(h:x≠s):Ff ρ s s2 x=ρ x:=by
 unfold Ff;have:Nat.beq x s=false:=by rw[←eJ];exact λ e=>h (aK e)
 rw[this]
theorem pV.frame{P:Program}{G:Nat→Option (List AV)}{f:FuncId}{args:List AV}{h:AH}{s:Nat}{Post:AV→AH→Prop}(H:pV P G f args h s Post)(ρ:Nat→Nat)(K:AH)(s2:Nat)(hfull:CV h s=true)(hlt:∀ x,h x≠none→x<s)
  (h1:∀ x blk,h x=some blk→ρ x<s2∧qF s blk=true∧K (ρ x)=some (CO ρ blk)) (h2:∀ x y,x<s→y<s→ρ x=ρ y→x=y) (ha:mJ s args=true)
  (Post':AV→AH→Prop) (hPost:∀ r h',Post r h'→∃ K',Post' (tY (Ff ρ s s2) r) K'∧∀ y blk,K' y=some blk→(∃ x blk0,h' x=some blk0∧y=Ff ρ s s2 x∧blk=CO (Ff ρ s s2) blk0)∨(K y=some blk∧∀ x,x<s→ρ x≠y)):
  pV P G f (Au ρ args) K s2 Post':=by
 refine⟨H.1,λ B S w β vs HK hdom hG hargs=>?_⟩;have hfl:=tN hfull;have hβ:∀ x,x<s→∃ l,β (ρ x)=some l∧K (ρ x)≠none:=λ x hx=>by
  obtain⟨blk,hblk⟩:=Da.1 (hfl x hx);obtain⟨_,_,e⟩:=h1 x blk hblk;obtain⟨l,_,_,_,k1,_⟩:=HK.own _ _ e;exact⟨l,k1,by rw[e];simp⟩
 have HS:SimH B S w (λ x=>if x<s then β (ρ x)else none) h:=by
  refine⟨λ x blk hx=>?_,λ x x' l l' hx hx' e e' hb=>?_,HK.lt,HK.big⟩
  ·obtain⟨_,b1,e⟩:=h1 x blk hx;have hxs:=hlt x (by rw[hx];simp);obtain⟨l,cs,t,fr,k1,k2,k3,k4,k5,k6⟩:=HK.own _ _ e;exact⟨l,cs,t,fr,by simp only[hxs,kV];exact k1,k2,k3,k4,k5,Ns b1 k6⟩
  ·have g1:=hlt x hx;have g2:=hlt x' hx';rw[if_pos g1]at e;rw[if_pos g2]at e';exact h2 x x' g1 g2 (HK.inj _ _ _ _ (hβ x g1).choose_spec.2 (hβ x' g2).choose_spec.2 e e' hb)
 have hL:RepL S w (λ x=>if x<s then β (ρ x)else none) args vs:=by
  refine⟨by rw[←hargs.1,sZ],λ i a u p q=>?_⟩;exact BS _ _ _ (aC _) (sH _ args ha i a p) (hargs.2 i (tY ρ a) u (by rw[pH,p];rfl) q)
 refine (H.2 B S w _ vs HS (λ x l hl=>?_) hG hL).mono ?_
 ·by_cases hx:x<s
  ·exact hx
  ·rw[if_neg hx]at hl;cases hl
 rintro e w' ⟨v,S',βc,r,h',hP,rfl,hr,HS',KK⟩;obtain⟨K',hP',h3⟩:=hPost r h' hP;have old:∀ x l,(if x<s then β (ρ x)else none)=some l→x<s∧β (ρ x)=some l:=λ x l hl=>by
  by_cases hx:x<s
  ·rw[if_pos hx]at hl;exact⟨hx,hl⟩
  ·rw[if_neg hx]at hl;cases hl
 have hmap:∀ x l,βc x=some l→(λ y=>if y=s2 then βc s else β y) (Ff ρ s s2 x)=some l:=λ x l hl=>by
  rcases KK.hdom x l hl with h|⟨h,_⟩
  ·obtain⟨hx,hx'⟩:=old x l h;have:ρ x<s2:=hdom _ _ hx';rw[qW ρ (by omega)];show (if ρ x=s2 then βc s else β (ρ x))=some l;rw[if_neg (by omega)];exact hx'
  ·subst h;rw[uZ];show (if s2=s2 then βc x else β s2)=some l;rw[if_pos rfl];exact hl
 have hle:Lv β (λ y=>if y=s2 then βc s else β y):=λ y l hl=>by
  have:=hdom y l hl;show (if y=s2 then βc s else β y)=some l;rw[if_neg (by omega)];exact hl
 have other:∀ y blk l,K y=some blk→β y=some l→(∀ x,x<s→ρ x≠y)→∀ x k,(if x<s then β (ρ x)else none)=some k→k.blk≠l.blk:=λ y blk l hy hl hne x k hk e=>by
  obtain⟨hx,hx'⟩:=old x k hk;exact hne x hx (HK.inj _ _ _ _ (hβ x hx).choose_spec.2 (by rw[hy];simp) hx' hl e)
 refine⟨v,S',λ y=>if y=s2 then βc s else β y,_,K',hP',rfl,KQ hr hmap,⟨λ y blk hy=>?_,λ y y' l l' hy hy' e1 e2 hb=>?_,HS'.lt,HS'.big⟩,⟨KK.hS,KK.hE,KK.hB,hle,λ y l hl=>?_,λ b hb=>?_,λ b hb hn=>KK.hO b hb λ x k hk=>?_⟩⟩
 ·rcases h3 y blk hy with ⟨x,blk0,e1,rfl,rfl⟩|⟨e1,hne⟩
  ·obtain⟨l,cs,t,fr,k1,k2,k3,k4,k5,k6⟩:=HS'.own x blk0 e1;exact⟨l,cs,t,fr,hmap x l k1,k2,k3,k4,k5,Qa k6 hmap⟩
  ·obtain⟨l,cs,t,fr,k1,k2,k3,k4,k5,k6⟩:=HK.own y blk e1;have hdiff:=other y blk l e1 k1 hne;have hlt:=fQ k2;refine⟨l,cs,t,fr,hle _ _ k1,(KK.hO _ hlt hdiff).trans k2,k3,k4,λ hS=>?_,k6.mono KK.hS KK.hE hle⟩;rcases KK.hN _ hS with h|⟨_,h|⟨x,k,q1,q2⟩⟩
   ·exact k5 h
   ·omega
   ·exact hdiff x k q1 q2
 ·
  have sort:∀ y l,K' y≠none→(if y=s2 then βc s else β y)=some l→(∃ x,h' x≠none∧βc x=some l∧y=Ff ρ s s2 x)∨(K y≠none∧β y=some l∧∀ x,x<s→ρ x≠y):=λ y l hy hl=>by
   obtain⟨blk,hblk⟩:=Da.1 hy;rcases h3 y blk hblk with ⟨x,blk0,e1,e2,_⟩|⟨e1,hne⟩
   ·obtain⟨l0,_,_,_,k1,_⟩:=HS'.own x blk0 e1;have:=hmap x l0 k1;rw[←e2]at this;rw[show (λ y=>if y=s2 then βc s else β y) y=(if y=s2 then βc s else β y)from rfl,hl]at this;injection this with this;subst this;exact .inl ⟨x,by rw[e1];simp,k1,e2⟩
   ·obtain⟨l0,_,_,_,k1,_⟩:=HK.own y blk e1;have hys:y<s2:=hdom y l0 k1;rw[if_neg (by omega)]at hl;exact .inr ⟨by rw[e1];simp,hl,hne⟩
  have mix:∀ y l x l',K y≠none→β y=some l→(∀ x,x<s→ρ x≠y)→h' x≠none→βc x=some l'→l.blk≠l'.blk:=λ y l x l' hy hl hne hx hl' e=>by
   obtain⟨blk,hblk⟩:=Da.1 hy;have hdiff:=other y blk l hblk hl hne;obtain⟨l0,_,_,_,k1,k2,_⟩:=HK.own y blk hblk;rw[hl]at k1;injection k1 with k1;subst k1;have hlt:=fQ k2;rcases KK.hdom x l' hl' with h|⟨_,h|⟨z,k,q1,q2⟩⟩
   ·exact hdiff x l' h e.symm
   ·omega
   ·exact hdiff z k q1 (q2.trans e.symm)
  rcases sort y l hy e1 with ⟨x,a1,a2,a3⟩|⟨a1,a2,a3⟩<;>rcases sort y' l' hy' e2 with ⟨x',b1,b2,b3⟩|⟨b1,b2,b3⟩
  ·rw[a3,b3,HS'.inj x x' l l' a1 b1 a2 b2 hb]
  ·exact absurd hb.symm (mix y' l' x l b1 b2 b3 a1 a2)
  ·exact absurd hb (mix y l x' l' a1 a2 a3 b1 b2)
  ·exact HK.inj y y' l l' a1 b1 a2 b2 hb
 ·have hl:(if y=s2 then βc s else β y)=some l:=hl;by_cases hy:y=s2
  ·rw[if_pos hy]at hl;refine .inr ⟨hy,?_⟩;rcases KK.hdom s l hl with h|⟨_,h|⟨z,k,q1,q2⟩⟩
   ·exact absurd (old s l h).1 (dS _)
   ·exact .inl h
   ·exact .inr ⟨_,k,(old z k q1).2,q2⟩
  ·rw[if_neg hy]at hl;exact .inl hl
 ·rcases KK.hN b hb with h|⟨hB,h|⟨x,k,q1,q2⟩⟩
  ·exact .inl h
  ·exact .inr ⟨hB,.inl h⟩
  ·exact .inr ⟨hB,.inr ⟨_,k,(old x k q1).2,q2⟩⟩
 ·exact hn _ k (old x k hk).2
theorem pV.frame1{P:Program}{G:Nat→Option (List AV)}{f:FuncId}{args:List AV}{blk blk1:Blk}{r:AV}(H:pV P G f args (heapF [(0,blk)]) 1 (λ x h'=>x=r∧h'=heapF [(0,blk1)]))(b:Nat)(K:AH)(s2:Nat)(hb:b<s2)
  (hbl:qF 1 blk=true) (hK:K b=some (CO (λ _=>b) blk)) (ha:mJ 1 args=true):
  pV P G f (Au (λ _=>b) args) K s2 (λ x h'=>x=tY (Ff (λ _=>b) 1 s2) r∧h'=upd K b (some (CO (Ff (λ _=>b) 1 s2) blk1))):=by
 refine H.frame (λ _=>b) K s2 rfl (λ x hx=>?_) (λ x blk0 hx=>?_) (λ x y hx hy _=>by omega) ha _ λ r' h' hP=>?_
 ·cases x with
  |zero=>omega
  |succ x=>exact absurd rfl hx
 ·cases x with
  |zero=>injection hx with hx;subst hx;exact⟨hb,hbl,hK⟩
  |succ x=>cases hx
 ·obtain⟨rfl,rfl⟩:=hP;refine⟨_,⟨rfl,rfl⟩,λ y blk0 hy=>?_⟩;by_cases he:y=b
  ·subst he;rw[cY]at hy;injection hy with hy;exact .inl ⟨0,blk1,rfl,rfl,hy.symm⟩
  ·rw[cD _ _ he]at hy;exact .inr ⟨hy,λ x hx e=>he e.symm⟩
theorem CtxOk.at{C:Ctx}{s:Nat}(h:CtxOk C):CtxOk (C.at s):=⟨h.ty,h.mixed,h.hH⟩
theorem Es{C:Ctx}{R:FuncId→List AV→AV→Prop}{Q:AEx→ASt→Prop}{κ:Type}(S:κ→ASt)(G:κ→Prop){a b:Code}{st:ASt}(ka:fY C R a st (λ e st'=>match e with| .normal=>GhostN st' (λ st''=>∃ k σ,Weak st'' (S k) σ∧keepB C.fr σ (S k).n=true∧G k)|e=>Q e st'))(kb:∀ k,G k→fY C R b (S k) Q):fY C R (.seq a b) st Q:=
 YS S G ka kb kP
theorem pG{C:Ctx}{fn:Func}{Post:AV→AH→Prop}{s:Nat}{st:ASt}{rs:List AV}(h1:resA C st fn.results.toList=some rs){r:AV}{h':AH}{σ:Nat→Nat}(hP:Post r h')(hk:keepB s σ (s+1)=true)(hW:Weak ⟨Fd (Ct rs),st.h,st.n⟩ ⟨Fd r,h',s+1⟩ σ):
  ∃ rs,resA C st fn.results.toList=some rs∧GhostN ⟨Fd (Ct rs),st.h,st.n⟩ (λ stg=>∃ r h' σ,Post r h'∧keepB s σ (s+1)=true∧Weak stg ⟨Fd r,h',s+1⟩ σ):=
 ⟨rs,h1,.mk _ (.refl _) ⟨r,h',σ,hP,hk,hW⟩⟩
theorem cE{st:ASt}{x r:AV}{hp:List (Nat×Blk)}{n:Nat}(σ:Nat→Nat)(hx:x=tY σ r)(hb:mI n r=true)(hh:WH ⟨Fd x,st.h,st.n⟩ n σ hp)(hi:Dr ((hp.map (·.1)).map σ)=true):Weak ⟨Fd x,st.h,st.n⟩ ⟨Fd r,heapF hp,n⟩ σ:=by
 have W:=Weak.of_lists (st:=⟨Fd x,st.h,st.n⟩) (l:=[(0,r)]) (hp:=hp) (n:=n) σ ⟨⟨hx,hb⟩,trivial⟩ hh hi;refine⟨λ i=>?_,W.h,W.inj⟩;have:=W.t i
 cases i with
 |zero=>exact this
 |succ i=>exact .inl rfl
def LeL(fz:Fz):List AV→List AV→Prop
 |[],[]=>True
 |a::as_,b::bs=>LeZ fz a b∧LeL fz as_ bs
 |_,_=>False
theorem LeL.get{fz:Fz}:∀ {as_ bs:List AV},LeL fz as_ bs→as_.length=bs.length∧∀ (i:Nat) a d,as_[i]?=some a→bs[i]?=some d→LeZ fz a d
 |[],[],_=>⟨rfl,λ i a d h=>by simp at h⟩
 |a::as_,b::bs,h=>by
  obtain⟨h1,h2⟩:=LeL.get h.2;refine⟨by simp[h1],λ i x y hx hy=>?_⟩
  cases i with
  |zero=>simp at hx hy;subst hx hy;exact h.1
  |succ i=>exact h2 i x y (by simpa using hx) (by simpa using hy)
 |[],_::_,h=>h.elim
 |_::_,[],h=>h.elim
theorem LeB.boxL{fz:Fz}{as_ bs:List AV}(h:LeL fz as_ bs):LeB fz (.box as_) (.box bs):=.box as_ bs h.get.1 h.get.2
def GT(st:ASt)(fz:Fz):List (Nat×AV)→Prop
 |[]=>True
 |(i,x)::l=>LeZ fz (st.t i) x∧GT st fz l
def GH(st:ASt)(fz:Fz):List (Nat×Blk)→Prop
 |[]=>True
 |(i,x)::l=>((match fz with|some (b,_,_)=>Nat.beq i b=false|none=>True)∧∃ b0,st.h i=some b0∧LeB fz b0 x)∧GH st fz l
theorem Ghost.of_lists{st:ASt}{fz:Fz}{l:List (Nat×AV)}{hp:List (Nat×Blk)}(hb:match fz with|some (x,rs,rows)=>st.h x=some (.arr rows rs)|none=>True)(ht:GT st fz l)(hh:GH st fz hp):Ghost st ⟨slotsF l,heapF hp,st.n⟩ fz:=by
 refine⟨λ x rs rows h=>(by subst h;exact hb),rfl,λ i=>?_,λ s blk hs=>?_⟩
 ·clear hh hb
  induction l with
  |nil=>exact .any _
  |cons p l ih=>
   obtain⟨j,x⟩:=p;show LeZ fz _ (slotsF _ _);simp only[slotsF]
   cases hq:Nat.beq j i with
   |true=>rw[←aK hq];exact ht.1
   |false=>exact ih ht.2
 ·clear ht hb
  induction hp with
  |nil=>cases hs
  | cons p hp ih=>
   obtain⟨j,x⟩:=p
   change heapF _ _=_ at hs
   simp only[heapF]at hs
   cases hq:Nat.beq j s with
   |true=>
    rw[hq]at hs;injection hs with hs;subst hs;rw[←aK hq];refine⟨λ x rs rows hz e=>?_,hh.1.2⟩;have:=hh.1.1;subst hz;simp only at this;rw[e]at this
    simp at this
   |false=>rw[hq]at hs;exact ih hh.2 hs
abbrev eX(n:Nat):List AV:=[.v (.int .u32 (n:Int))]
theorem vA:∀ (l:List UInt8),iQ (l.map λ b=>[.v (.int .u8 (b.toNat:Int))])=some l
 |[]=>rfl
 |b::l=>by
  simp only[jF,iQ,vA l];simp
theorem fG{C:Ctx}{fn:Func}{r:AV}{st:ASt}{rs:List AV}(h1:resA C st fn.results.toList=some rs)(h2:jS st.h (Ct rs))(h3:eL (uP st.h (Ct rs))=true)(h4:uP st.h (Ct rs)=r):TP C fn r st:=Gt h1 h2 h3 h4
theorem fT{C:Ctx}{fn:Func}{r:AV}{st:ASt}{rs:List AV}(h1:resA C st fn.results.toList=some rs)(h4:uP st.h (Ct rs)=r)(h2:jS st.h (Ct rs):=by exact trivial)(h3:eL (uP st.h (Ct rs))=true:=by exact rfl):TP C fn r st:=fG h1 h2 h3 h4
set_option maxRecDepth 100000 in
set_option maxHeartbeats 4000000 in
theorem FZ(i:SI):bX C0 100 [siA i] (.tup [.v (.int .i64 i.rs1),.v (.int .i64 i.rs2)]):=by
 refine bX.intro c0Ok Tryz.func100 rfl rfl (by kernel_rfl) rfl<|bW<|JU rfl<|rFx (x:=.ptr 0 0) (h':=upd _ 0 (some (.box [.v (.int .i64 i.op),.v (.int .i64 i.rd),.v (.int .i64 i.rs1),.v (.int .i64 i.rs2),.v (.int .u32 ((i.imm:Nat):Int))]))) rfl rfl (rfl) (trivial)<|rOk (x:=.v (.int .i64 0)) rfl rfl rfl<|rOk (x:=.v (.int .i64 0)) rfl rfl rfl<|Kq (n':=3) rfl<|bW<|JU rfl<|rOk (x:=.ptr 0 2) rfl rfl rfl<|rOk (x:=.v (.int .i64 i.rs1)) rfl rfl rfl<|rOk (x:=.ptr 0 3) rfl rfl rfl<|rOk (x:=.v (.int .i64 i.rs2)) rfl rfl rfl<|rOk (x:=.v (.int .i64 i.rs1)) rfl rfl rfl<|rOk (x:=.v (.int .i64 i.rs2)) rfl rfl rfl<|Kq (n':=9) rfl<|cO ?_;exact Gt rfl trivial rfl rfl
theorem SV{prog:List Nat}{pc:Nat}(h1:pc % 4=0)(h2:pc / 4<prog.length):∃ x,fetchP prog pc=some x∧prog[((pc / 4:Nat):Int).toNat]?=some x:=by
 refine⟨prog[pc / 4],?_,?_⟩
 ·unfold fetchP;rw[if_pos h1,aA h2]
 ·rw[Int.toNat_natCast,aA h2]
theorem SW{prog:List Nat}{pc:Nat}(h:pc % 4≠0∨prog.length≤pc / 4):fetchP prog pc=none:=by
 unfold fetchP;split
 ·exact bO (by omega)
 ·rfl
theorem yL(a:Nat):up4 a≤4294967295:=by unfold up4;omega
theorem Wa{n:Nat}(h:n≤1000000):IntKind.wrap .u64 ((n:Int))=(n:Int):=by
 simp only[IntKind.wrap,IntKind.signed,IntKind.bits];simp;omega
set_option maxRecDepth 100000 in
set_option maxHeartbeats 4000000 in
theorem Qb(prog:List Nat)(pc:Nat)(clip:Bool)(hp:∀ x∈prog,x≤4294967295)(hl:prog.length≤1000000)(hpc:pc≤4294967295):bX C0 113 [.sl 1 (prog.map eX) clip,.v (.int .u32 (pc:Int))] (.tup [.v (.int .u32 (fetchW prog pc:Int)),.v (.bool (fetchP prog pc).isSome)]):=by
 refine bX.intro c0Ok Tryz.func113 rfl rfl (by kernel_rfl) rfl<|bW<|JU rfl<|rOk (x:=.v (.int .u32 0)) rfl rfl rfl<|rOk (x:=.v (.bool false)) rfl rfl rfl<|Kq (n':=2) rfl<|bW<|bW<|JU rfl<|rOk (x:=.v (.int .u32 (pc:Int))) rfl rfl rfl ?_;refine cV (x:=.v (.int .u32 ((pc % 4:Nat):Int))) rfl rfl rfl (by decide)<|rOk (x:=.v (.bool ((pc % 4) != 0))) rfl rfl (okB (neN _ _))<|rOk (x:=.v (.bool ((pc % 4) != 0))) rfl rfl rfl<|gOk (x:=.v (.int .u32 (pc:Int))) (g:= !((pc % 4) != 0)) rfl rfl rfl rfl rfl rfl ?_;have b2:pc / 4≤1073741823:=jA hpc;refine sB (x:=.v (.int .u32 ((pc / 4:Nat):Int))) (g:= !((pc % 4) != 0)) rfl rfl rfl rfl (λ h=>h) rfl (Gr (Ig b2 rfl)) (λ _=>by decide)<|WS (x:=.v (.int .u64 ((pc / 4:Nat):Int))) (g:= !((pc % 4) != 0)) rfl rfl rfl rfl (λ h=>h) rfl (okI (Ig b2 rfl))<|gOk (x:=.sl 1 (prog.map eX) clip) (g:= !((pc % 4) != 0)) rfl rfl rfl rfl rfl rfl<|WS (x:=.v (.int .i64 ((prog.map eX).length:Int))) (g:= !((pc % 4) != 0)) rfl rfl rfl rfl (λ h=>h) rfl rfl<|WS (x:=.v (.int .u64 ((prog.length:Nat):Int))) (g:= !((pc % 4) != 0)) rfl rfl rfl rfl (λ h=>h) rfl (by show Res.ok (.v (.int .u64 (IntKind.wrap .u64 ((((prog.map eX).length:Nat):Int)))))=_;rw[aF,Wa hl])<|WS (x:=.v (.bool (decide ((pc / 4)≥prog.length)))) (g:= !((pc % 4) != 0)) rfl rfl rfl rfl (λ h=>by simp_all) rfl (okB (geN _ _))<|cV (x:=.v (.bool (cZ ((pc % 4) != 0) true (decide ((pc / 4)≥prog.length))))) rfl rfl rfl (by simp)<|Kq (n':=14) rfl<|aW (v:=cZ ((pc % 4) != 0) true (decide ((pc / 4)≥prog.length))) rfl (λ h1=>?_) (λ h1=>?_)
 ·skip
  refine bW<|JU rfl<|rOk (x:=.v (.int .u32 0)) rfl rfl rfl<|rOk (x:=.v (.bool false)) rfl rfl rfl<|Kq (n':=16) rfl<|cO ?_;exact fG rfl trivial rfl (by unfold fetchW;rw[SW (by simp[cZ,bne]at h1;split at h1<;>first|(left;assumption)|(right;assumption)|simp_all)];rfl)
 ·skip
  refine bB<|bW<|JU rfl<|rOk (x:=.sl 1 (prog.map eX) clip) rfl rfl rfl<|rOk (x:=.v (.int .u32 (pc:Int))) rfl rfl rfl ?_;have b3:pc / 4≤1073741823:=jA hpc;refine cV (x:=.v (.int .u32 ((pc / 4:Nat):Int))) rfl rfl (Gr (Ig b3 rfl)) (by decide) ?_;obtain⟨x,hf,hxx⟩:=SV (prog:=prog) (pc:=pc) (by simp[cZ,bne]at h1;split at h1<;>simp_all) (by simp[cZ,bne]at h1;split at h1<;>simp_all);refine Ih (eX x) (x:=.dp 1 0 (eX x)) rfl rfl rfl (⟨by omega,by rw[aZ];exact congrArg (Option.map eX) hxx⟩) rfl<|rOk (x:=.v (.int .u32 (x:Int))) rfl rfl rfl<|rOk (x:=.v (.int .u32 (x:Int))) rfl rfl rfl<|rOk (x:=.v (.bool true)) rfl rfl rfl<|Kq (n':=21) rfl<|cO ?_;exact fG rfl trivial rfl (by unfold fetchW;rw[hf];rfl)
theorem yE(m:ByteArray):(cB m).length=m.size:=by simp[cB]
def upS(n:Nat):Nat:=if n≤16 then 16 else if n≤32 then 32 else if n≤64 then 64 else if n≤128 then 128 else 256
def qK(m:ByteArray):ByteArray:=⟨((m.extract 0 (min m.size 256)).data.toList++List.replicate (upS (min m.size 256) - min m.size 256) 0).toArray⟩
theorem BK(m:ByteArray):(m.extract 0 (min m.size 256)).size=min m.size 256:=by rw[eF];omega
theorem yF(m:ByteArray):(qK m).size=upS (min m.size 256):=by
 have h:=BK m;have h1:(m.extract 0 (min m.size 256)).data.size=min m.size 256:=h;show (qK m).data.size=_;simp only[qK,mO,aV,dP,cR,h1];unfold upS
 repeat' (split<;>try omega)
theorem Ul{n j:Nat}(h4:j≤4)(h1:n≤16 * 2 ^ j)(h2:j=0∨16 * 2 ^ (j - 1)<n):16 * 2 ^ j=upS n:=by
 have:j=0∨j=1∨j=2∨j=3∨j=4:=by omega
 unfold upS;rcases this with rfl|rfl|rfl|rfl|rfl<;>simp at h1 h2⊢ <;>repeat' (split<;>try omega)
theorem Mm{j n:Nat}(h4:j≤4)(h:16 * 2 ^ j<min n 256):j<4:=by
 have:j=0∨j=1∨j=2∨j=3∨j=4:=by omega
 rcases this with rfl|rfl|rfl|rfl|rfl<;>simp at h⊢ <;>omega
theorem Nt(m:ByteArray)(s:Nat)(h:m.size≤s):iQ (List.take s (List.drop 0 (List.take 0 (List.replicate s [AV.v (.int .u8 0)])++List.take (min (cB m).length s) (cB m)++List.drop (0+min (cB m).length s) (List.replicate s [AV.v (.int .u8 0)]))))=some (m.data.toList++List.replicate (s - m.size) 0):=by
 have q:=yE m;simp only[pR,iZ,cA,bL,q,rX h];have e1:List.take m.size (cB m)=cB m:=aL (by rw[q];exact aC _);rw[e1,List.drop_replicate,aL (by simp[q];omega)];have:List.replicate (s - m.size) [AV.v (.int .u8 0)]=(List.replicate (s - m.size) (0:UInt8)).map λ b=>[.v (.int .u8 (b.toNat:Int))]:=by simp
 rw[this];simp only[cB];rw[←eU];exact vA _
set_option maxRecDepth 100000 in
set_option maxHeartbeats 4000000 in
theorem Um(m:ByteArray):bX C0 42 [.v (.string m)] (.v (.string (qK m))):=by
 refine bX.intro c0Ok Tryz.func42 rfl rfl (by kernel_rfl) rfl<|bW<|JU rfl<|rOk (x:=.v (.string (⟨#[]⟩))) rfl rfl rfl<|Kq (n':=1) rfl<|bW<|JU rfl<|rOk (x:=.v (.string m)) rfl rfl rfl<|rOk (x:=.v (.string m)) rfl rfl rfl<|rOk (x:=.v (.int .i64 (m.size:Int))) rfl rfl rfl<|rOk (x:=.v (.int .i64 ((min m.size 256:Nat):Int))) rfl rfl (by show Res.ok (.v (.int .i64 (if (256:Int)<(m.size:Int)then 256 else (m.size:Int))))=_;congr 3;split<;>omega)<|cV (x:=.v (.string (m.extract 0 (min m.size 256)))) rfl rfl rfl (by refine⟨?_,?_,?_⟩<;>simp<;>omega)<|rOk (x:=.v (.string (m.extract 0 (min m.size 256)))) rfl rfl rfl<|Kq (n':=7) rfl<|bW<|JU rfl<|rOk (x:=.v (.int .i64 16)) rfl rfl rfl<|Kq (n':=8) rfl<|bW<|bK<|mL (κ:=Nat) (λ j=>⟨slotsF [(0,.v (.string (m.extract 0 (min m.size 256)))),(3,.v (.int .i64 ((16 * 2 ^ j:Nat):Int)))],heapF [],8⟩) (λ j=>j≤4∧(j=0∨16 * 2 ^ (j - 1)<min m.size 256)) (λ j=>4 - j) 0 (λ s=>s) (Weak.of_lists (λ s=>s) ⟨⟨rfl,rfl⟩,⟨rfl,rfl⟩,trivial⟩ trivial rfl) (⟨by decide,.inl rfl⟩) ?_;intro j hj;refine bW<|bW<|JU rfl<|rOk (x:=.v (.int .i64 ((16 * 2 ^ j:Nat):Int))) rfl rfl rfl<|rOk (x:=.v (.string (m.extract 0 (min m.size 256)))) rfl rfl rfl<|rOk (x:=.v (.int .i64 ((min m.size 256:Nat):Int))) rfl rfl (congrArg (λ n:Nat=>Res.ok (.v (.int .i64 (n:Int)))) (BK m))<|rOk (x:=.v (.bool (decide ((16 * 2 ^ j)<(min m.size 256))))) rfl rfl (okB (ltN _ _))<|Kq (n':=12) rfl<|aW (v:=decide ((16 * 2 ^ j)<(min m.size 256))) rfl (λ h1=>?_) (λ h1=>?_)
 ·skip
  refine bB<|bK<|JU rfl<|rOk (x:=.v (.int .i64 ((16 * 2 ^ j:Nat):Int))) rfl rfl rfl<|rOk (x:=.v (.int .i64 ((16 * 2 ^ (j+1):Nat):Int))) rfl rfl (by show Res.ok (.v (.int .i64 (IntKind.wrap .i64 (((16 * 2 ^ j:Nat):Int) * 2))))=_;have p5:=eT (n:=2) (by decide) hj.1;rw[wrap_i64 (by omega) (by omega)];congr 3;rw[Nat.pow_succ];omega)<|rOk (x:=.v (.int .i64 ((16 * 2 ^ (j+1):Nat):Int))) rfl rfl rfl<|Kq (n':=15) rfl ?_;refine⟨j+1,λ s=>s,Weak.of_lists (λ s=>s) ⟨⟨rfl,rfl⟩,⟨rfl,rfl⟩,trivial⟩ trivial rfl,⟨by have:=Mm hj.1 (of_decide_eq_true h1);omega,.inr (by simpa using of_decide_eq_true h1)⟩,by have:=Mm hj.1 (of_decide_eq_true h1);show 4 - (j+1)<4 - j;omega⟩
 ·skip
  refine eE<|bW<|JU rfl<|rOk (x:=.v (.int .i64 ((16 * 2 ^ j:Nat):Int))) rfl rfl rfl<|rFx (x:=.osl 13 0 (16 * 2 ^ j) false) (h':=upd _ 13 (some (.arr (List.replicate (16 * 2 ^ j) [AV.v (.int .u8 0)]) 1))) rfl rfl (rfl) (by have p5:=eT (n:=2) (by decide) hj.1;refine⟨by omega,by omega,?_⟩;simp only[kW];omega)<|rOk (x:=.osl 13 0 (16 * 2 ^ j) false) rfl rfl rfl<|Kq (n':=15) rfl<|bW<|JU rfl<|rOk (x:=.osl 13 0 (16 * 2 ^ j) false) rfl rfl rfl<|rOk (x:=.v (.string (m.extract 0 (min m.size 256)))) rfl rfl rfl<|rFx (x:=.v (.int .i64 ((min (cB (m.extract 0 (min m.size 256))).length (16 * 2 ^ j):Nat):Int))) (h':=upd _ 13 (some (.arr (List.take 0 (List.replicate (16 * 2 ^ j) [AV.v (.int .u8 0)])++List.take (min (cB (m.extract 0 (min m.size 256))).length (16 * 2 ^ j)) (cB (m.extract 0 (min m.size 256)))++List.drop (0+min (cB (m.extract 0 (min m.size 256))).length (16 * 2 ^ j)) (List.replicate (16 * 2 ^ j) [AV.v (.int .u8 0)])) 1))) rfl rfl (rfl) (⟨by simp,trivial⟩)<|Kq (n':=18) rfl<|bW<|JU rfl<|rOk (x:=.osl 13 0 (16 * 2 ^ j) false) rfl rfl rfl<|YR ((m.extract 0 (min m.size 256)).data.toList++List.replicate (upS (min m.size 256) - min m.size 256) 0) rfl rfl rfl (by show 0+16 * 2 ^ j≤List.length (List.take 0 (List.replicate (16 * 2 ^ j) [AV.v (.int .u8 0)])++List.take (min (cB (m.extract 0 (min m.size 256))).length (16 * 2 ^ j)) (cB (m.extract 0 (min m.size 256)))++List.drop (0+min (cB (m.extract 0 (min m.size 256))).length (16 * 2 ^ j)) (List.replicate (16 * 2 ^ j) [AV.v (.int .u8 0)]));have q:=yE (m.extract 0 (min m.size 256));have q2:=BK m;have:=aD h1;simp only[aV,aN,aY,cR,q,q2];omega) (by have e:=Nt (m.extract 0 (min m.size 256)) (16 * 2 ^ j) (by have:=aD h1;rw[BK];omega);rw[BK,Ul hj.1 (by have:=aD h1;omega) hj.2]at e;rw[Ul hj.1 (by have:=aD h1;omega) hj.2];exact e)<|rOk (x:=.v (.string (qK m))) rfl rfl rfl<|Kq (n':=21) rfl<|cO ?_;exact Gt rfl trivial rfl rfl
set_option maxRecDepth 100000
set_option maxHeartbeats 4000000
abbrev iL(n:Int):List AV:=[.v (.int .i64 n)]
abbrev cfL(c:Cf)(cl ct:Bool):List AV:=[.v (.int .i64 c.mode),.v (.int .i64 c.width),.v (.int .i64 c.rob),.v (.int .i64 c.queue),.v (.int .i64 c.stores),.v (.int .i64 c.slots),.v (.int .i64 c.sets),.v (.int .i64 c.ways),.sl 1 (c.lat.map iL) cl,.v (.bool c.tables),.sl 1 (c.tape.map eX) ct]
structure Cf.ok(c:Cf):Prop where
 lat:c.lat.length≤9223372036854775807
 tape:c.tape.length≤9223372036854775807
 tp:∀ x∈c.tape,x≤4294967295
mutual
theorem xX(σ:Nat→Nat):∀ (a:AV),eL a=true→tY σ a=a
 | .v _,_| .sl _ _ _,_| .dp _ _ _,_=>by simp[tY]
 | .agg cs,h=>by simp only[tY,nO σ cs (by simpa [eL]using h)]
 | .tup cs,h=>by simp only[tY,nO σ cs (by simpa [eL]using h)]
 | .clo f a b,h=>by
  simp only[eL]at h;split at h
  ·rename_i ha;simp only[tY,nO σ a ha,nO σ b h]
  ·cases h
 | .ptr _ _,h| .ptr2 _ _ _,h| .osl _ _ _ _,h| .opt _ _,h| .any,h=>by cases h
theorem nO(σ:Nat→Nat):∀ (cs:List AV),eV cs=true→Au σ cs=cs
 |[],_=>by simp[Au]
 |c::cs,h=>by
  simp only[eV]at h;split at h
  ·rename_i hc;simp only[Au,xX σ c hc,nO σ cs h]
  ·cases h
end
mutual
theorem Hx(n:Nat):∀ (a:AV),eL a=true→mI n a=true
 | .v _,_| .sl _ _ _,_| .dp _ _ _,_=>by simp[mI]
 | .agg cs,h=>by simp only[mI,kJ n cs (by simpa [eL]using h)]
 | .tup cs,h=>by simp only[mI,kJ n cs (by simpa [eL]using h)]
 | .clo f a b,h=>by
  simp only[eL]at h;split at h
  ·rename_i ha;simp only[mI,kJ n a ha,kJ n b h]
  ·cases h
 | .ptr _ _,h| .ptr2 _ _ _,h| .osl _ _ _ _,h| .opt _ _,h| .any,h=>by cases h
theorem kJ(n:Nat):∀ (cs:List AV),eV cs=true→mJ n cs=true
 |[],_=>by simp[mJ]
 |c::cs,h=>by
  simp only[eV]at h;split at h
  ·rename_i hc;simp only[mJ,Hx n c hc,kJ n cs h]
  ·cases h
end
theorem Zn(σ:Nat→Nat){cs:List AV}(h:eV cs=true):some (Blk.box cs)=some (CO σ (.box cs)):=by simp only[CO,nO σ cs h]
theorem aaA(n:Nat){cs:List AV}(h:eV cs=true):qF n (.box cs)=true:=by simp only[qF,kJ n cs h]
theorem XV(cells:List AV)(col:Nat)(n lo hi:Int)(hn:Lw cells col=some (.v (.int .i64 n)))(hc:col+1≤cells.length)(hcl:eV (yV col [.v (.int .i64 (bH n lo hi))] cells)=true):
  pV C0.P C0.G 82 [.ptr 0 col,.v (.int .i64 lo),.v (.int .i64 hi)] (heapF [(0,.box cells)]) 1 (λ x h'=>x=.tup []∧h'=heapF [(0,.box (yV col [.v (.int .i64 (bH n lo hi))] cells))]):=by
 refine HCall.intro (C:=C0) (s:=1) c0Ok.at Tryz.func82 rfl rfl (by kernel_rfl) rfl rfl<|cRg<|oR 3 rfl<|rW (.v (.int .i64 n)) rfl (by show okO (Lw cells col)=_;rw[hn];rfl)<|oR 1 rfl<|rV (.v (.int .i64 (if lo>n then lo else n))) rfl<|oR 1 rfl<|rV (.v (.int .i64 (if hi<(if lo>n then lo else n)then hi else (if lo>n then lo else n)))) rfl<|oR 1 rfl ?_;have hb:Nat.ble (col+1) cells.length=true:=jY hc;refine Xj (p:=True) (h':=upd _ 0 (some (.box (yV col [.v (.int .i64 (bH n lo hi))] cells)))) rfl rfl (by
  show (match Nat.ble (col+1) cells.length with|true=>Res.fx True .any (upd _ 0 (some (.box (yV col [.v (.int .i64 (if hi<(if lo>n then lo else n)then hi else (if lo>n then lo else n)))] cells))))|false=>.bad)=_;rw[hb];rfl) trivial ?_
 refine rE 11 ?_;exact pG (rs:=[]) rfl (σ:=λ s=>s) ⟨rfl,rfl⟩ rfl (cE (λ s=>s) rfl rfl ⟨⟨rfl,Zn _ hcl,aaA _ hcl⟩,trivial⟩ rfl)
theorem xY{cells cells':List AV}{b col:Nat}{n lo hi:Int}{K:AH}{s2:Nat}(hn:Lw cells col=some (.v (.int .i64 n)))(hc:Nat.ble (col+1) cells.length=true)(he:yV col [.v (.int .i64 (bH n lo hi))] cells=cells')(hcl:eV cells=true)(hcl':eV cells'=true)(hb:Nat.blt b s2=true)(hK:K b=some (.box cells)):
  pV C0.P C0.G 82 [.ptr b col,.v (.int .i64 lo),.v (.int .i64 hi)] K s2 (λ x h'=>x=.tup []∧h'=upd K b (some (.box cells'))):=by
 subst he;have:=(XV cells col n lo hi hn (aO hc) hcl').frame1 b K s2 (aO hb) (aaA 1 hcl) (by rw[hK];exact Zn _ hcl) rfl;rw[←Zn (Ff (λ _=>b) 1 s2) hcl']at this;exact this
theorem VQ(rows:List (List AV))(k:Nat)(n lo hi:Int)(hn:rows[k]?=some [.v (.int .i64 n)]):
  pV C0.P C0.G 82 [.ptr2 0 k 0,.v (.int .i64 lo),.v (.int .i64 hi)] (heapF [(0,.arr rows 1)]) 1 (λ x h'=>x=.tup []∧h'=heapF [(0,.arr (rows.set k [.v (.int .i64 (bH n lo hi))]) 1)]):=by
 refine HCall.intro (C:=C0) (s:=1) c0Ok.at Tryz.func82 rfl rfl (by kernel_rfl) rfl rfl<|cRg<|oR 3 rfl<|Ih [.v (.int .i64 n)] (x:=.v (.int .i64 n)) rfl rfl rfl ⟨aG _,hn⟩ rfl<|oR 1 rfl<|rV (.v (.int .i64 (if lo>n then lo else n))) rfl<|oR 1 rfl<|rV (.v (.int .i64 (if hi<(if lo>n then lo else n)then hi else (if lo>n then lo else n)))) rfl<|oR 1 rfl<|nI [.v (.int .i64 n)] (h':=upd _ 0 (some (.arr (rows.set k [.v (.int .i64 (bH n lo hi))]) 1))) rfl rfl rfl ⟨aG _,hn⟩ rfl<|rE 11 ?_;exact pG (rs:=[]) rfl (σ:=λ s=>s) ⟨rfl,rfl⟩ rfl (cE (λ s=>s) rfl rfl wH rfl)
theorem Ma{rows rows':List (List AV)}{b k:Nat}{n lo hi:Int}{K:AH}{s2:Nat}(hn:rows[k]?=some [.v (.int .i64 n)])(he:rows.set k [.v (.int .i64 (bH n lo hi))]=rows')(hb:Nat.blt b s2=true)(hK:K b=some (.arr rows 1)):
  pV C0.P C0.G 82 [.ptr2 b k 0,.v (.int .i64 lo),.v (.int .i64 hi)] K s2 (λ x h'=>x=.tup []∧h'=upd K b (some (.arr rows' 1))):=by
 subst he;exact (VQ rows k n lo hi hn).frame1 b K s2 (aO hb) rfl hK rfl
theorem BG(a b:Nat):Res.ok (.v (.int .i64 (if (b:Int)<(a:Int)then (b:Int)else (a:Int))))=.ok (.v (.int .i64 ((min a b:Nat):Int))):=by congr 3;split<;>omega
theorem BH{α:Type}(f:α→List AV)(l:List α)(z:List AV)(n:Nat)(hn:n=min l.length 64):(List.replicate n z).take 0++(l.map f).take (min (l.map f).length n)++(List.replicate n z).drop (0+min (l.map f).length n)=(l.take 64).map f:=by
 subst hn;rw[aF,pR,iZ,cT (by rw[cR];omega),dQ, ←fV];congr 1;rcases Nat.le_total l.length 64 with h|h
 ·rw[aL omT,aL omT]
 ·congr 1;omega
theorem bY{α:Type}(f:α→List AV)(l:List α):Res.ok (.v (.int .i64 ((l.map f).length:Int)))=.ok (.v (.int .i64 ((l.length:Nat):Int))):=by rw[aF]
def CU(c:Cf)(k:Nat):List (List AV):=((((c.lat.take 64).take k).map λ n=>bH n 1 8)++(c.lat.take 64).drop k).map iL
theorem Mb(c:Cf)(k:Nat)(h:(c.lat.take 64).length≤k):CU c k=(bP c).lat.map iL:=by
 unfold CU bP;rw[aL h,cT h,dQ]
theorem Mc{c:Cf}{k:Nat}{x:Int}(hx:(c.lat.take 64)[k]?=some x):(CU c k)[k]?=some (iL x):=by
 have hk:=(Dq.1 hx).1;unfold CU;rw[aZ,bQ (by simp;omega)];simp only[aF,aN];rw[cJ,show k+(k - min k (min 64 c.lat.length))=k by have:k<(c.lat.take 64).length:=hk;rw[aN]at this;omega,hx];rfl
theorem Md{c:Cf}{k:Nat}{x:Int}(hx:(c.lat.take 64)[k]?=some x):(CU c k).set k [.v (.int .i64 (bH x 1 8))]=CU c (k+1):=by
 unfold CU;generalize c.lat.take 64=l at hx⊢;have hk:=(Dq.1 hx).1;have hl:((l.take k).map λ n=>bH n 1 8).length=k:=by rw[aF,aN];omega
 have hx':l[k]=x:=by rw[aA hk]at hx;exact Option.some.inj hx
 rw[show ([.v (.int .i64 (bH x 1 8))]:List AV)=iL (bH x 1 8)from rfl, ←List.map_set,iK _ _ omT,hl,fF,cQ hk,gI,bR,hx];simp
theorem Me(c:Cf)(k:Nat)(h:k≤(c.lat.take 64).length):(CU c k).length=(c.lat.take 64).length:=by
 unfold CU;simp only[aF,aV,aY];rw[List.length_take_of_le h];omega
theorem Hy{p:Prop}{x:AV}{h:AH}{b rs:Nat}{r r':List (List AV)}(e:r=r'):Res.fx p x (upd h b (some (.arr r rs)))=.fx p x (upd h b (some (.arr r' rs))):=by rw[e]
theorem Hz(c:Cf)(cl ct:Bool)(hok:c.ok):bX C0 39 [.agg (cfL c cl ct)] (.agg (cfL (bP c) false false)):=by
 refine bX.intro c0Ok Tryz.func39 rfl rfl (by kernel_rfl) rfl<|cSR<|rAl 0 rfl rfl<|rAl 1 rfl rfl<|rE 2<|cSR<|oR 1 rfl<|rE 3<|cSR<|oR 2 rfl<|fW _ rfl rfl rfl (xY (cells:=[vI c.mode,vI c.width,vI c.rob,vI c.queue,vI c.stores,vI c.slots,vI c.sets,vI c.ways,.sl 1 (c.lat.map iL) cl,vB c.tables,.sl 1 (c.tape.map eX) ct]) (cells':=[vI (bH c.mode 0 2),vI c.width,vI c.rob,vI c.queue,vI c.stores,vI c.slots,vI c.sets,vI c.ways,.sl 1 (c.lat.map iL) cl,vB c.tables,.sl 1 (c.tape.map eX) ct]) rfl rfl rfl rfl rfl rfl rfl) ?_;rintro _ _ ⟨rfl,rfl⟩;refine rE 6<|cSR<|oR 2 rfl<|fW _ rfl rfl rfl (xY (cells:=[vI (bH c.mode 0 2),vI c.width,vI c.rob,vI c.queue,vI c.stores,vI c.slots,vI c.sets,vI c.ways,.sl 1 (c.lat.map iL) cl,vB c.tables,.sl 1 (c.tape.map eX) ct]) (cells':=[vI (bH c.mode 0 2),vI (bH c.width 1 2),vI c.rob,vI c.queue,vI c.stores,vI c.slots,vI c.sets,vI c.ways,.sl 1 (c.lat.map iL) cl,vB c.tables,.sl 1 (c.tape.map eX) ct]) rfl rfl rfl rfl rfl rfl rfl) ?_;rintro _ _ ⟨rfl,rfl⟩;refine rE 9<|cSR<|oR 2 rfl<|fW _ rfl rfl rfl (xY (cells:=[vI (bH c.mode 0 2),vI (bH c.width 1 2),vI c.rob,vI c.queue,vI c.stores,vI c.slots,vI c.sets,vI c.ways,.sl 1 (c.lat.map iL) cl,vB c.tables,.sl 1 (c.tape.map eX) ct]) (cells':=[vI (bH c.mode 0 2),vI (bH c.width 1 2),vI (bH c.rob 2 8),vI c.queue,vI c.stores,vI c.slots,vI c.sets,vI c.ways,.sl 1 (c.lat.map iL) cl,vB c.tables,.sl 1 (c.tape.map eX) ct]) rfl rfl rfl rfl rfl rfl rfl) ?_;rintro _ _ ⟨rfl,rfl⟩;refine rE 12<|cSR<|oR 2 rfl<|fW _ rfl rfl rfl (xY (cells:=[vI (bH c.mode 0 2),vI (bH c.width 1 2),vI (bH c.rob 2 8),vI c.queue,vI c.stores,vI c.slots,vI c.sets,vI c.ways,.sl 1 (c.lat.map iL) cl,vB c.tables,.sl 1 (c.tape.map eX) ct]) (cells':=[vI (bH c.mode 0 2),vI (bH c.width 1 2),vI (bH c.rob 2 8),vI (bH c.queue 1 4),vI c.stores,vI c.slots,vI c.sets,vI c.ways,.sl 1 (c.lat.map iL) cl,vB c.tables,.sl 1 (c.tape.map eX) ct]) rfl rfl rfl rfl rfl rfl rfl) ?_;rintro _ _ ⟨rfl,rfl⟩;refine rE 15<|cSR<|oR 2 rfl<|fW _ rfl rfl rfl (xY (cells:=[vI (bH c.mode 0 2),vI (bH c.width 1 2),vI (bH c.rob 2 8),vI (bH c.queue 1 4),vI c.stores,vI c.slots,vI c.sets,vI c.ways,.sl 1 (c.lat.map iL) cl,vB c.tables,.sl 1 (c.tape.map eX) ct]) (cells':=[vI (bH c.mode 0 2),vI (bH c.width 1 2),vI (bH c.rob 2 8),vI (bH c.queue 1 4),vI (bH c.stores 1 4),vI c.slots,vI c.sets,vI c.ways,.sl 1 (c.lat.map iL) cl,vB c.tables,.sl 1 (c.tape.map eX) ct]) rfl rfl rfl rfl rfl rfl rfl) ?_;rintro _ _ ⟨rfl,rfl⟩;refine rE 18<|cSR<|oR 2 rfl<|fW _ rfl rfl rfl (xY (cells:=[vI (bH c.mode 0 2),vI (bH c.width 1 2),vI (bH c.rob 2 8),vI (bH c.queue 1 4),vI (bH c.stores 1 4),vI c.slots,vI c.sets,vI c.ways,.sl 1 (c.lat.map iL) cl,vB c.tables,.sl 1 (c.tape.map eX) ct]) (cells':=[vI (bH c.mode 0 2),vI (bH c.width 1 2),vI (bH c.rob 2 8),vI (bH c.queue 1 4),vI (bH c.stores 1 4),vI (bH c.slots 2 6),vI c.sets,vI c.ways,.sl 1 (c.lat.map iL) cl,vB c.tables,.sl 1 (c.tape.map eX) ct]) rfl rfl rfl rfl rfl rfl rfl) ?_;rintro _ _ ⟨rfl,rfl⟩;refine rE 21<|cSR<|oR 2 rfl<|fW _ rfl rfl rfl (xY (cells:=[vI (bH c.mode 0 2),vI (bH c.width 1 2),vI (bH c.rob 2 8),vI (bH c.queue 1 4),vI (bH c.stores 1 4),vI (bH c.slots 2 6),vI c.sets,vI c.ways,.sl 1 (c.lat.map iL) cl,vB c.tables,.sl 1 (c.tape.map eX) ct]) (cells':=[vI (bH c.mode 0 2),vI (bH c.width 1 2),vI (bH c.rob 2 8),vI (bH c.queue 1 4),vI (bH c.stores 1 4),vI (bH c.slots 2 6),vI (bH c.sets 1 4),vI c.ways,.sl 1 (c.lat.map iL) cl,vB c.tables,.sl 1 (c.tape.map eX) ct]) rfl rfl rfl rfl rfl rfl rfl) ?_;rintro _ _ ⟨rfl,rfl⟩;refine rE 24<|bW<|cSR<|oR 2 rfl<|rV (vB ((bH c.sets 1 4)==3)) rfl<|rE 27<|aW rfl (λ h1=>?_) (λ h1=>?_)
 ·refine cRg<|oR 1 rfl<|rSt rfl<|rE 29<|cSR<|oR 2 rfl<|fW _ rfl rfl rfl (xY (cells:=[vI (bH c.mode 0 2),vI (bH c.width 1 2),vI (bH c.rob 2 8),vI (bH c.queue 1 4),vI (bH c.stores 1 4),vI (bH c.slots 2 6),vI 2,vI c.ways,.sl 1 (c.lat.map iL) cl,vB c.tables,.sl 1 (c.tape.map eX) ct]) (cells':=[vI (bH c.mode 0 2),vI (bH c.width 1 2),vI (bH c.rob 2 8),vI (bH c.queue 1 4),vI (bH c.stores 1 4),vI (bH c.slots 2 6),vI 2,vI (bH c.ways 1 2),.sl 1 (c.lat.map iL) cl,vB c.tables,.sl 1 (c.tape.map eX) ct]) rfl rfl rfl rfl rfl rfl rfl) ?_;rintro _ _ ⟨rfl,rfl⟩;refine rE 32<|cSR<|oR 2 rfl<|rW (vN c.lat.length) rfl (bY iL c.lat)<|rW (vN (min c.lat.length 64)) rfl (BG c.lat.length 64)<|rFx (x:=.osl 36 0 (min c.lat.length 64) false) (h':=upd _ 36 (some (.arr (List.replicate (min c.lat.length 64) [vI 0]) 1))) rfl rfl (rfl) (⟨aG _,jR _,by show (((min c.lat.length 64):Nat):Int)≤1000000;have:=(aM (eW c.lat.length 64) (aC 64));omega⟩)<|oR 1 rfl<|rE 38<|cSR<|oR 3 rfl<|rFx (x:=vI ((min (c.lat.map iL).length (min c.lat.length 64):Nat):Int)) (h':=upd _ 36 (some (.arr (CU c 0) 1))) rfl rfl (Hy (BH iL c.lat [.v (.int .i64 0)] _ rfl)) (⟨by simp,trivial⟩)<|rE 42<|bW<|bW<|cRg<|oR 1 rfl<|rV (vN (min c.lat.length 64)) rfl<|oR 1 rfl<|rE 45<|bK<|mL (κ:=Nat) (λ k=>⟨slotsF [(1,.ptr 0 0),(2,.ptr 1 0),(3,.clo 82 [] []),(4,.osl 36 0 (min c.lat.length 64) false),(45,vN (min c.lat.length 64)),(46,vN k)],heapF [(0,.box [vI (bH c.mode 0 2),vI (bH c.width 1 2),vI (bH c.rob 2 8),vI (bH c.queue 1 4),vI (bH c.stores 1 4),vI (bH c.slots 2 6),vI 2,vI (bH c.ways 1 2),.sl 1 (c.lat.map iL) cl,vB c.tables,.sl 1 (c.tape.map eX) ct]),(1,.box [vI 0,vI 0,vI 0,vI 0,vI 0,vI 0,vI 0,vI 0,.sl 0 ([]) true,vB false,.sl 0 ([]) true]),(36,.arr (CU c k) 1)],45⟩) (λ k=>k≤min c.lat.length 64) (λ k=>min c.lat.length 64 - k) 0 (λ s=>s) (Weak.of_lists (λ s=>s) wT wH rfl) (aE _) ?_;intro k hk;have hkB:k≤1000000:=by omega
  refine cSR<|rW (vB (decide (k<(min c.lat.length 64)))) rfl (okB (ltN _ _))<|rE 46<|bW<|aW rfl (λ h2=>?_) (λ h2=>?_)
  ·refine bB<|bW<|bK<|cSR<|oR 2 rfl<|rE 48<|cRg<|oR 3 rfl ?_;have hkl:k<(c.lat.take 64).length:=by have:=of_decide_eq_true h2;rw[aN];omega
   obtain⟨x,hx⟩:∃ x,(c.lat.take 64)[k]?=some x:=⟨_,aA hkl⟩;have hxk:(CU c k)[0+k]?=some [.v (.int .i64 x)]:=by rw[bL];exact Mc hx
   refine nW (.ptr2 36 (0+k) 0) rfl rfl (⟨aG _,by show (k:Int)<((min c.lat.length 64:Nat):Int);have:=of_decide_eq_true h2;omega⟩)<|fW _ rfl rfl rfl (Ma (rows:=CU c k) (rows':=CU c (k+1)) (k:=0+k) (n:=x) hxk ((bL k).symm ▸ Md hx) rfl rfl) ?_;rintro _ _ ⟨rfl,rfl⟩;refine rE 53<|cRg ?_;have b1:k+1≤1000001:=aH hkB (aC 1);refine rW (vN (k+1)) rfl (okI (bV b1 rfl))<|oR 1 rfl<|rE 55 ?_;refine⟨k+1,λ s=>s,Weak.of_lists _ wT wH rfl,by have:=of_decide_eq_true h2;omega,by have:=of_decide_eq_true h2;show min c.lat.length 64 - (k+1)<min c.lat.length 64 - k;omega⟩
  ·refine eE<|cSR<|oR 2 rfl<|rW (vN c.tape.length) rfl (bY eX c.tape)<|rW (vN (min c.tape.length 64)) rfl (BG c.tape.length 64)<|rFx (x:=.osl 50 0 (min c.tape.length 64) false) (h':=upd _ 50 (some (.arr (List.replicate (min c.tape.length 64) [.v (.int .u32 0)]) 1))) rfl rfl (rfl) (⟨aG _,jR _,by show (((min c.tape.length 64):Nat):Int)≤1000000;have:=(aM (eW c.tape.length 64) (aC 64));omega⟩)<|oR 1 rfl<|rE 52<|cSR<|oR 3 rfl<|rFx (x:=vI ((min (c.tape.map eX).length (min c.tape.length 64):Nat):Int)) (h':=upd _ 50 (some (.arr ((c.tape.take 64).map eX) 1))) rfl rfl (Hy (BH eX c.tape [.v (.int .u32 0)] _ rfl)) (⟨by simp,trivial⟩)<|rE 56<|cSR<|oR 3 rfl<|rSt rfl<|oR 1 rfl<|rSt rfl<|rE 62<|cSR<|oR 1 rfl<|rSt rfl<|rE 64<|cO ?_;have hk2:(c.lat.take 64).length≤k:=by rw[aN];have:=aD h2;omega
   have hll:=Me c k (by rw[aN];omega);have e1:List.take (min c.lat.length 64) (List.drop 0 (CU c k))=(bP c).lat.map iL:=by rw[cA,aL (by rw[hll,aN];omega),Mb c k hk2]
   have e2:List.take (min c.tape.length 64) (List.drop 0 ((c.tape.take 64).map eX))=(bP c).tape.map eX:=by rw[cA,aL (by rw[aF,aN];omega)];rfl
   have e3:(bP c).sets=2:=if_pos (by simpa using h1);refine fG rfl (r4 (r4 ⟨by show 0+min c.lat.length 64≤(CU c k).length;rw[hll,aN];omega,trivial,by show 0+min c.tape.length 64≤((c.tape.take 64).map eX).length;rw[aF,aN];omega,trivial⟩)) rfl ?_;show AV.agg [vI (bH c.mode 0 2),vI (bH c.width 1 2),vI (bH c.rob 2 8),vI (bH c.queue 1 4),vI (bH c.stores 1 4),vI (bH c.slots 2 6),vI 2,vI (bH c.ways 1 2),.sl 1 (List.take (min c.lat.length 64) (List.drop 0 (CU c k))) false,vB c.tables,.sl 1 (List.take (min c.tape.length 64) (List.drop 0 ((c.tape.take 64).map eX))) false]=AV.agg (cfL (bP c) false false);rw[e1,e2];show _=AV.agg [vI (bP c).mode,vI (bP c).width,vI (bP c).rob,vI (bP c).queue,vI (bP c).stores,vI (bP c).slots,vI (bP c).sets,vI (bP c).ways,.sl 1 ((bP c).lat.map iL) false,vB (bP c).tables,.sl 1 ((bP c).tape.map eX) false];rw[e3];rfl
 ·refine bB<|cSR<|oR 2 rfl<|fW _ rfl rfl rfl (xY (cells:=[vI (bH c.mode 0 2),vI (bH c.width 1 2),vI (bH c.rob 2 8),vI (bH c.queue 1 4),vI (bH c.stores 1 4),vI (bH c.slots 2 6),vI (bH c.sets 1 4),vI c.ways,.sl 1 (c.lat.map iL) cl,vB c.tables,.sl 1 (c.tape.map eX) ct]) (cells':=[vI (bH c.mode 0 2),vI (bH c.width 1 2),vI (bH c.rob 2 8),vI (bH c.queue 1 4),vI (bH c.stores 1 4),vI (bH c.slots 2 6),vI (bH c.sets 1 4),vI (bH c.ways 1 2),.sl 1 (c.lat.map iL) cl,vB c.tables,.sl 1 (c.tape.map eX) ct]) rfl rfl rfl rfl rfl rfl rfl) ?_;rintro _ _ ⟨rfl,rfl⟩;refine rE 30<|cSR<|oR 2 rfl<|rW (vN c.lat.length) rfl (bY iL c.lat)<|rW (vN (min c.lat.length 64)) rfl (BG c.lat.length 64)<|rFx (x:=.osl 34 0 (min c.lat.length 64) false) (h':=upd _ 34 (some (.arr (List.replicate (min c.lat.length 64) [vI 0]) 1))) rfl rfl (rfl) (⟨aG _,jR _,by show (((min c.lat.length 64):Nat):Int)≤1000000;have:=(aM (eW c.lat.length 64) (aC 64));omega⟩)<|oR 1 rfl<|rE 36<|cSR<|oR 3 rfl<|rFx (x:=vI ((min (c.lat.map iL).length (min c.lat.length 64):Nat):Int)) (h':=upd _ 34 (some (.arr (CU c 0) 1))) rfl rfl (Hy (BH iL c.lat [.v (.int .i64 0)] _ rfl)) (⟨by simp,trivial⟩)<|rE 40<|bW<|bW<|cRg<|oR 1 rfl<|rV (vN (min c.lat.length 64)) rfl<|oR 1 rfl<|rE 43<|bK<|mL (κ:=Nat) (λ k=>⟨slotsF [(1,.ptr 0 0),(2,.ptr 1 0),(3,.clo 82 [] []),(4,.osl 34 0 (min c.lat.length 64) false),(45,vN (min c.lat.length 64)),(46,vN k)],heapF [(0,.box [vI (bH c.mode 0 2),vI (bH c.width 1 2),vI (bH c.rob 2 8),vI (bH c.queue 1 4),vI (bH c.stores 1 4),vI (bH c.slots 2 6),vI (bH c.sets 1 4),vI (bH c.ways 1 2),.sl 1 (c.lat.map iL) cl,vB c.tables,.sl 1 (c.tape.map eX) ct]),(1,.box [vI 0,vI 0,vI 0,vI 0,vI 0,vI 0,vI 0,vI 0,.sl 0 ([]) true,vB false,.sl 0 ([]) true]),(34,.arr (CU c k) 1)],43⟩) (λ k=>k≤min c.lat.length 64) (λ k=>min c.lat.length 64 - k) 0 (λ s=>s) (Weak.of_lists (λ s=>s) wT wH rfl) (aE _) ?_;intro k hk;have hkB:k≤1000000:=by omega
  refine cSR<|rW (vB (decide (k<(min c.lat.length 64)))) rfl (okB (ltN _ _))<|rE 44<|bW<|aW rfl (λ h3=>?_) (λ h3=>?_)
  ·refine bB<|bW<|bK<|cSR<|oR 2 rfl<|rE 46<|cRg<|oR 3 rfl ?_;have hkl:k<(c.lat.take 64).length:=by have:=of_decide_eq_true h3;rw[aN];omega
   obtain⟨x,hx⟩:∃ x,(c.lat.take 64)[k]?=some x:=⟨_,aA hkl⟩;have hxk:(CU c k)[0+k]?=some [.v (.int .i64 x)]:=by rw[bL];exact Mc hx
   refine nW (.ptr2 34 (0+k) 0) rfl rfl (⟨aG _,by show (k:Int)<((min c.lat.length 64:Nat):Int);have:=of_decide_eq_true h3;omega⟩)<|fW _ rfl rfl rfl (Ma (rows:=CU c k) (rows':=CU c (k+1)) (k:=0+k) (n:=x) hxk ((bL k).symm ▸ Md hx) rfl rfl) ?_;rintro _ _ ⟨rfl,rfl⟩;refine rE 51<|cRg ?_;have b2:k+1≤1000001:=aH hkB (aC 1);refine rW (vN (k+1)) rfl (okI (bV b2 rfl))<|oR 1 rfl<|rE 53 ?_;refine⟨k+1,λ s=>s,Weak.of_lists _ wT wH rfl,by have:=of_decide_eq_true h3;omega,by have:=of_decide_eq_true h3;show min c.lat.length 64 - (k+1)<min c.lat.length 64 - k;omega⟩
  ·refine eE<|cSR<|oR 2 rfl<|rW (vN c.tape.length) rfl (bY eX c.tape)<|rW (vN (min c.tape.length 64)) rfl (BG c.tape.length 64)<|rFx (x:=.osl 48 0 (min c.tape.length 64) false) (h':=upd _ 48 (some (.arr (List.replicate (min c.tape.length 64) [.v (.int .u32 0)]) 1))) rfl rfl (rfl) (⟨aG _,jR _,by show (((min c.tape.length 64):Nat):Int)≤1000000;have:=(aM (eW c.tape.length 64) (aC 64));omega⟩)<|oR 1 rfl<|rE 50<|cSR<|oR 3 rfl<|rFx (x:=vI ((min (c.tape.map eX).length (min c.tape.length 64):Nat):Int)) (h':=upd _ 48 (some (.arr ((c.tape.take 64).map eX) 1))) rfl rfl (Hy (BH eX c.tape [.v (.int .u32 0)] _ rfl)) (⟨by simp,trivial⟩)<|rE 54<|cSR<|oR 3 rfl<|rSt rfl<|oR 1 rfl<|rSt rfl<|rE 60<|cSR<|oR 1 rfl<|rSt rfl<|rE 62<|cO ?_;have hk2:(c.lat.take 64).length≤k:=by rw[aN];have:=aD h3;omega
   have hll:=Me c k (by rw[aN];omega);have e1:List.take (min c.lat.length 64) (List.drop 0 (CU c k))=(bP c).lat.map iL:=by rw[cA,aL (by rw[hll,aN];omega),Mb c k hk2]
   have e2:List.take (min c.tape.length 64) (List.drop 0 ((c.tape.take 64).map eX))=(bP c).tape.map eX:=by rw[cA,aL (by rw[aF,aN];omega)];rfl
   have e3:(bP c).sets=bH c.sets 1 4:=if_neg (by simpa using h1);refine fG rfl (r4 (r4 ⟨by show 0+min c.lat.length 64≤(CU c k).length;rw[hll,aN];omega,trivial,by show 0+min c.tape.length 64≤((c.tape.take 64).map eX).length;rw[aF,aN];omega,trivial⟩)) rfl ?_;show AV.agg [vI (bH c.mode 0 2),vI (bH c.width 1 2),vI (bH c.rob 2 8),vI (bH c.queue 1 4),vI (bH c.stores 1 4),vI (bH c.slots 2 6),vI (bH c.sets 1 4),vI (bH c.ways 1 2),.sl 1 (List.take (min c.lat.length 64) (List.drop 0 (CU c k))) false,vB c.tables,.sl 1 (List.take (min c.tape.length 64) (List.drop 0 ((c.tape.take 64).map eX))) false]=AV.agg (cfL (bP c) false false);rw[e1,e2];show _=AV.agg [vI (bP c).mode,vI (bP c).width,vI (bP c).rob,vI (bP c).queue,vI (bP c).stores,vI (bP c).slots,vI (bP c).sets,vI (bP c).ways,.sl 1 ((bP c).lat.map iL) false,vB (bP c).tables,.sl 1 ((bP c).tape.map eX) false];rw[e3];rfl
abbrev wyL(x:Wy):List AV:=[.v (.int .u32 (x.line:Int)),.v (.bool x.dirty),.v (.string x.data)]
abbrev SC(s:List Wy):AV:=.sl 3 (s.map wyL) false
abbrev bC(s:List Wy):List AV:=[SC s]
abbrev caL(c:Ca)(k:Bool):List AV:=[.v (.int .i64 c.ways),.sl 1 (c.sets.map bC) k]
abbrev rqL(x:Req):List AV:=[.v (.int .i64 x.kind),.v (.int .u32 (x.line:Int)),.v (.int .i64 x.left),.v (.string x.data)]
def aaR(o:Option Nat):AV:=.tup [vN (o.getD 0),vB o.isSome]
structure Wy.ok(x:Wy):Prop where
 line:x.line≤4294967295
structure Ca.ok(c:Ca):Prop where
 sets:c.sets.length≤9223372036854775807
 set:∀ s∈c.sets,s.length≤9223372036854775807∧∀ x∈s,x.ok
theorem dR{a:Nat}(h:a≤4294967295):lineOf a≤4294967295:=by unfold lineOf;omega
theorem aaS{a b:Nat}(h:a=b):AV.v (.int .u32 (a:Int))=.v (.int .u32 (b:Int)):=by rw[h]
theorem YG{a b:Nat}(h:a=b):AV.v (.int .i64 (a:Int))=.v (.int .i64 (b:Int)):=by rw[h]
theorem iB{α:Type}{f:α→List AV}{l:List α}{k:Nat}{x:α}(h:l[k]?=some x):(l.map f)[k]?=some (f x):=by rw[aZ,h];rfl
theorem sU(a:Nat)(ha:a≤4294967295):bX C0 92 [vU a] (vU (lineOf a)):=by
 refine bX.intro c0Ok Tryz.func92 rfl rfl (by kernel_rfl) rfl<|cSR<|oR 1 rfl<|rE 1<|cSR<|oR 2 rfl ?_;have b1:a % 16≤15:=aR (bA _ (by decide));refine nW (vU (a % 16)) rfl rfl (by decide) ?_;refine rW (vU ((a+4294967296 - (a % 16)) % 4294967296)) rfl (okI (TN b1 rfl))<|oR 1 rfl<|rE 6<|cO ?_;exact fT rfl (aaS (by unfold lineOf;omega))
theorem Uj(c:Ca)(line:Nat)(ck:Bool)(h0:0<c.sets.length)(hl:c.sets.length≤1000000)(hline:line≤4294967295):bX C0 146 [.agg (caL c ck),vU line] (vN (wZ c line)):=by
 refine bX.intro c0Ok Tryz.func146 rfl rfl (by kernel_rfl) rfl<|cSR<|rAl 0 rfl rfl<|oR 1 rfl<|rE 2<|cSR<|oR 1 rfl ?_;have b1:line / 16≤268435455:=jA hline;refine nW (vU (line / 16)) rfl (Gr (Ig b1 rfl)) (by decide)<|oR 2 rfl<|rW (vN c.sets.length) rfl (bY bC c.sets)<|rW (vU c.sets.length) rfl (okI (Ig hl rfl)) ?_;have b2:(line / 16) % c.sets.length≤268435455:=aM (mE _ _) b1;refine nW (vU ((line / 16) % c.sets.length)) rfl rfl omT<|rW (vN ((line / 16) % c.sets.length)) rfl (okI (bV b2 rfl))<|oR 1 rfl<|rE 11<|cO ?_;exact fT rfl rfl
theorem Nj{s:List Wy}{line k:Nat}{x:Wy}(hx:s[k]?=some x)(hn: ¬ x.line=line)(h:jV s line=(jV (s.drop k) line).map (· +k)):jV s line=(jV (s.drop (k+1)) line).map (· +(k+1)):=by
 obtain⟨hk,hx'⟩:=Dq.1 hx;rw[h,cQ hk,hx'];simp only[jV,if_neg hn,Option.map_map];congr 1;funext i;show i+1+k=i+(k+1);omega
theorem Nk{s:List Wy}{line k:Nat}{x:Wy}(hx:s[k]?=some x)(hn:x.line=line)(h:jV s line=(jV (s.drop k) line).map (· +k)):jV s line=some k:=by
 obtain⟨hk,hx'⟩:=Dq.1 hx;rw[h,cQ hk,hx'];simp[jV,hn]
theorem PI{s:List Wy}{line k:Nat}(hk:s.length≤k)(h:jV s line=(jV (s.drop k) line).map (· +k)):jV s line=none:=by
 rw[h,cT hk];rfl
theorem Uk(s:List Wy)(line:Nat)(ck:Bool)(hs:s.length≤1000000)(ho:∀ x∈s,x.ok)(hline:line≤4294967295):bX C0 147 [.sl 3 (s.map wyL) ck,vU line] (aaR (jV s line)):=by
 refine bX.intro c0Ok Tryz.func147 rfl rfl (by kernel_rfl) rfl<|cSR<|oR 2 rfl<|rE 2<|bW<|cSR<|oR 1 rfl<|rW (vN s.length) rfl (bY wyL s)<|oR 1 rfl<|rE 5<|bK<|mL (κ:=Nat) (λ k=>⟨slotsF [(1,vU line),(8,.sl 3 (s.map wyL) ck),(9,vN s.length),(10,vN k)],heapF [],5⟩) (λ k=>k≤s.length∧jV s line=(jV (s.drop k) line).map (· +k)) (λ k=>s.length - k) 0 (λ s=>s) (Weak.of_lists (λ s=>s) wT trivial rfl) (⟨aE _,by simp⟩) ?_;intro k hk;have hkB:k≤1000000:=by have:=hk.1;omega
 refine cSR<|rW (vB (decide (k<s.length))) rfl (okB (ltN _ _))<|rE 6<|bW<|aW rfl (λ h1=>?_) (λ h1=>?_)
 ·refine bB<|bW<|bK<|cSR<|oR 1 rfl ?_;obtain⟨x,hx⟩:∃ x,s[k]?=some x:=⟨_,aA (of_decide_eq_true h1)⟩;refine rIx (wyL x) (.dp 3 0 (wyL x)) rfl rfl (iB hx) rfl<|oR 1 rfl<|rAl 9 rfl rfl<|oR 1 rfl<|rSt rfl<|rE 12<|cSR<|oR 3 rfl<|rW (vB (x.line==line)) rfl (okB (eqN _ _))<|rE 16<|aW rfl (λ h2=>?_) (λ h2=>?_)
  ·refine cSR<|oR 3 rfl<|rE 19<|cO ?_;exact fT rfl (by rw[Nk hx (by simpa using h2) hk.2];rfl)
  ·refine bB<|cRg ?_;have b1:k+1≤1000001:=aH hkB (aC 1);refine rW (vN (k+1)) rfl (okI (bV b1 rfl))<|oR 1 rfl<|rE 18 ?_;refine⟨k+1,λ s=>s,Weak.of_lists _ wT trivial rfl,⟨of_decide_eq_true h1,Nj hx (by simpa using h2) hk.2⟩,by have:=of_decide_eq_true h1;show s.length - (k+1)<s.length - k;omega⟩
 ·refine eE<|cSR<|oR 2 rfl<|rE 8<|cO ?_;exact fT rfl (by rw[PI (by have:=aD h1;omega) hk.2];rfl)
def Fb(c:Ca)(k:Nat)(s:List Wy)(i:Nat)(x:Wy):Prop:=lineOf x.line=x.line∧wZ c x.line=k∧(x.data.size=0∨x.data.size=16)∧jV (s.take i) x.line=none
theorem jU(c:Ca)(k:Nat)(s:List Wy):uD c k s=true↔(s.length:Int)≤c.ways∧∀ i x,s[i]?=some x→Fb c k s i x:=by
 unfold uD Fb;simp only[aI,aP,iH,nA];refine and_congr_right λ _=>⟨λ h i x hx=>?_,λ h i hi=>?_⟩
 ·have:=h i (Dq.1 hx).1;rw[hx]at this;simp only[aI,dF,aP,iM]at this;exact⟨this.1.1.1,this.1.1.2,this.1.2,this.2⟩
 ·rw[aA hi];have:=h i _ (aA hi);simp only[aI,dF,aP,iM];exact⟨⟨⟨this.1,this.2.1⟩,this.2.2.1⟩,this.2.2.2⟩
theorem jN(c:Ca):fR c=true↔((c.sets.length=1∨c.sets.length=2∨c.sets.length=4)∧(c.ways=1∨c.ways=2))∧∀ k s,c.sets[k]?=some s→uD c k s=true:=by
 unfold fR;simp only[aI,dF,aP,iH,nA];refine and_congr ?_ ⟨λ h k s hs=>?_,λ h k hk=>?_⟩
 ·rw[or_assoc]
 ·have:=h k (Dq.1 hs).1
  rwa [hs]at this
 ·rw[aA hk];exact h k _ (aA hk)
theorem wX{c:Ca}(h: ¬ fR c=true):fR c=false:=by simpa using h
theorem Al{n:Nat}{w:Int}(h:cZ (cZ (cZ (n != 1) (n != 2) false) (n != 4) false) true (cZ (w != 1) (w != 2) false)=false):(n=1∨n=2∨n=4)∧(w=1∨w=2):=by
 simp only[c2]at h;constructor
 ·by_cases h1:n=1<;>by_cases h2:n=2<;>by_cases h4:n=4<;>simp_all
 ·by_cases h1:w=1
  ·exact .inl h1
  ·by_cases h2:w=2
   ·exact .inr h2
   ·simp[h1,h2]at h;omega
theorem Jn{n:Nat}{w:Int}(h:cZ (cZ (cZ (n != 1) (n != 2) false) (n != 4) false) true (cZ (w != 1) (w != 2) false)=true): ¬ ((n=1∨n=2∨n=4)∧(w=1∨w=2)):=by
 rintro ⟨rfl|rfl|rfl,rfl|rfl⟩<;>simp[cZ]at h
theorem VL{c:Ca}{k j:Nat}{s:List Wy}{x:Wy}(h1:cZ ((lineOf x.line) != x.line) true ((wZ c x.line) != k)=false)(h2:cZ ((x.data.size:Int) != 0) ((x.data.size:Int) != 16) false=false)(h3:(jV (s.take j) x.line).isSome=false):Fb c k s j x:=by
 simp only[c2]at h1 h2;refine⟨?_,?_,?_,by simpa using h3⟩
 ·by_cases h:lineOf x.line=x.line<;>simp_all
 ·by_cases h:wZ c x.line=k<;>simp_all
 ·by_cases h:x.data.size=0
  ·exact .inl h
  ·right;simp_all;omega
theorem SD{c:Ca}{k j:Nat}{s:List Wy}{x:Wy}(h:cZ ((lineOf x.line) != x.line) true ((wZ c x.line) != k)=true): ¬ Fb c k s j x:=λ q=>by
 rw[q.1,q.2.1]at h;simp[cZ]at h
theorem SE{c:Ca}{k j:Nat}{s:List Wy}{x:Wy}(h:cZ ((x.data.size:Int) != 0) ((x.data.size:Int) != 16) false=true): ¬ Fb c k s j x:=λ q=>by
 rcases q.2.2.1 with e|e<;>rw[e]at h<;>simp[cZ]at h
theorem SF{c:Ca}{k j:Nat}{s:List Wy}{x:Wy}(h:(jV (s.take j) x.line).isSome=true): ¬ Fb c k s j x:=λ q=>by
 rw[q.2.2.2]at h;cases h
theorem Nl{c:Ca}{k:Nat}{s:List Wy}(hs:c.sets[k]?=some s)(h:uD c k s=true)(hk:∀ i s,i<k→c.sets[i]?=some s→uD c i s=true):∀ i s,i<k+1→c.sets[i]?=some s→uD c i s=true:=λ i s' hi hs'=>by
 by_cases e:i=k
 ·subst e;rw[hs]at hs';injection hs' with e;exact e ▸ h
 ·exact hk i s' omT hs'
theorem SG{c:Ca}{k j:Nat}{s:List Wy}{x:Wy}(hx:s[j]?=some x)(h:Fb c k s j x)(hj:∀ i x,i<j→s[i]?=some x→Fb c k s i x):∀ i x,i<j+1→s[i]?=some x→Fb c k s i x:=λ i x' hi hx'=>by
 by_cases e:i=j
 ·subst e;rw[hx]at hx';injection hx' with e;exact e ▸ h
 ·exact hj i x' omT hx'
theorem Am(c:Ca)(ck:Bool)(hok:c.ok):bX C0 85 [.agg (caL c ck)] (vB (fR c)):=by
 refine bX.intro c0Ok Tryz.func85 rfl rfl (by kernel_rfl) rfl<|cSR<|rAl 0 rfl rfl<|oR 1 rfl<|rE 2<|cSR<|oR 2 rfl<|rW (vN c.sets.length) rfl (bY bC c.sets)<|oR 1 rfl<|rE 6<|bW<|cSR<|oR 1 rfl<|rW (vB (c.sets.length != 1)) rfl (okB (neN _ _))<|oR 1 rfl<|gN rfl<|gBS (x:=vB (c.sets.length != 2)) rfl id (okB (neN _ _))<|cV rfl rfl rfl (λ h=>h)<|oR 1 rfl<|gN rfl<|gBS (x:=vB (c.sets.length != 4)) rfl id (okB (neN _ _))<|cV rfl rfl rfl (λ h=>h)<|oR 1 rfl<|gN rfl<|gS rfl id<|gBS (x:=vB (c.ways != 1)) rfl id rfl<|gS rfl id<|gN rfl<|gS rfl id<|gBS (x:=vB (c.ways != 2)) rfl id rfl<|sB (x:=vB (cZ (c.ways != 1) (c.ways != 2) false)) (g:= !(cZ (cZ (c.sets.length != 1) (c.sets.length != 2) false) (c.sets.length != 4) false)) rfl rfl rfl rfl (λ h=>h) rfl rfl (λ hg hc=>by first|(rw[hg,hc];rfl)|simp_all)<|cV rfl rfl rfl (by simp)<|rE 26<|aW rfl (λ h1=>?_) (λ h1=>?_)
 ·refine cSR<|oR 1 rfl<|rE 27<|cO ?_;exact fB (x:=false) rfl (wX (c:=c) (λ q=>Jn h1 ((jN c).1 q).1)).symm
 ·refine bB<|bW<|cSR<|oR 2 rfl<|rW (vN c.sets.length) rfl (bY bC c.sets)<|oR 1 rfl<|rE 30<|bK<|mL (κ:=Nat) (λ k=>⟨slotsF [(1,.ptr 0 0),(3,vN c.sets.length),(34,.sl 1 (c.sets.map bC) ck),(35,vN c.sets.length),(36,vN k)],heapF [(0,.box [vI c.ways,.sl 1 (c.sets.map bC) ck])],30⟩) (λ k=>k≤c.sets.length∧∀ i s,i<k→c.sets[i]?=some s→uD c i s=true) (λ k=>c.sets.length - k) 0 (λ s=>s) (Weak.of_lists (λ s=>s) wT wH rfl) (⟨aE _,λ i s h=>absurd h (dY i)⟩) ?_;intro k hk;have hkB:k≤1000000:=by have:=hk.1;have:=(Al h1).1;omega
  refine cSR<|rW (vB (decide (k<c.sets.length))) rfl (okB (ltN _ _))<|rE 31<|bW<|aW rfl (λ h2=>?_) (λ h2=>?_)
  ·refine bB<|bW<|bK<|cSR<|oR 1 rfl ?_;obtain⟨s,hs⟩:∃ s,c.sets[k]?=some s:=⟨_,aA (of_decide_eq_true h2)⟩;have hso:=hok.set s (aB hs);refine rIx (bC s) (.dp 1 0 (bC s)) rfl rfl (iB hs) rfl<|oR 3 rfl<|rE 36<|bW<|cSR<|oR 1 rfl<|rW (vN s.length) rfl (bY wyL s)<|oR 2 rfl<|rV (vB (decide (((s.length:Nat):Int)>c.ways))) rfl<|rE 41<|aW rfl (λ h3=>?_) (λ h3=>?_)
   ·refine cSR<|oR 1 rfl<|rE 42<|cO ?_;exact fB (x:=false) rfl (wX (c:=c) (λ q=>absurd ((jU c k s).1 (((jN c).1 q).2 k s hs)).1 (by have:=of_decide_eq_true h3;omega))).symm
   ·refine bB<|cSR<|oR 1 rfl<|rW (vN s.length) rfl (bY wyL s)<|oR 1 rfl<|rE 44<|bK<|mL (κ:=Nat) (λ j=>⟨slotsF [(1,.ptr 0 0),(3,vN c.sets.length),(34,.sl 1 (c.sets.map bC) ck),(35,vN c.sets.length),(36,vN k),(4,vN k),(5,.sl 3 (s.map wyL) false),(46,.sl 3 (s.map wyL) false),(47,vN s.length),(48,vN j)],heapF [(0,.box [vI c.ways,.sl 1 (c.sets.map bC) ck])],44⟩) (λ j=>j≤s.length∧∀ i x,i<j→s[i]?=some x→Fb c k s i x) (λ j=>s.length - j) 0 (λ s=>s) (Weak.of_lists (λ s=>s) wT wH rfl) (⟨aE _,λ i s h=>absurd h (dY i)⟩) ?_;intro j hj;have hjB:j≤1000000:=by have:=hj.1;have:=(Al h1).2;have:=aD h3;omega
    refine cSR<|rW (vB (decide (j<s.length))) rfl (okB (ltN _ _))<|rE 45<|bW<|aW rfl (λ h4=>?_) (λ h4=>?_)
    ·refine bB<|bW<|bK<|cSR<|oR 1 rfl ?_;obtain⟨x,hx⟩:∃ x,s[j]?=some x:=⟨_,aA (of_decide_eq_true h4)⟩;have hxo:=hso.2 x (aB hx);refine rIx (wyL x) (.dp 3 0 (wyL x)) rfl rfl (iB hx) rfl<|oR 1 rfl<|rAl 48 rfl rfl<|oR 1 rfl<|rSt rfl<|rE 51<|bW<|cSR<|oR 2 rfl<|rCi rfl (sU x.line hxo.line)<|oR 2 rfl<|rW (vB ((lineOf x.line) != x.line)) rfl (okB (neN _ _))<|oR 1 rfl<|gN rfl<|gN rfl<|gS rfl id<|kM (x:=vN (wZ c x.line)) (g:= !((lineOf x.line) != x.line)) rfl rfl rfl rfl (λ h=>by simp_all) rfl rfl rfl (.inl rfl) rfl (λ hg=>Uj c x.line ck (by have:=of_decide_eq_true h2;omega) (by have:=(Al h1).1;omega) hxo.line)<|gN rfl<|gBS (x:=vB ((wZ c x.line) != k)) rfl (λ h=>by simp_all) (okB (neN _ _))<|cV rfl rfl rfl (by simp)<|rE 65<|aW rfl (λ h5=>?_) (λ h5=>?_)
     ·refine cSR<|oR 1 rfl<|rE 66<|cO ?_;exact fB (x:=false) rfl (wX (c:=c) (λ q=>SD h5 (((jU c k s).1 (((jN c).1 q).2 k s hs)).2 j x hx))).symm
     ·refine bB<|bW<|cSR<|oR 2 rfl<|rV (vI (x.data.size:Int)) rfl<|rV (vB ((x.data.size:Int) != 0)) rfl<|oR 1 rfl<|gN rfl<|gS rfl id<|gBS (x:=vI (x.data.size:Int)) rfl id rfl<|gBS (x:=vB ((x.data.size:Int) != 16)) rfl id rfl<|cV rfl rfl rfl (λ h=>h)<|rE 75<|aW rfl (λ h6=>?_) (λ h6=>?_)
      ·refine cSR<|oR 1 rfl<|rE 76<|cO ?_;exact fB (x:=false) rfl (wX (c:=c) (λ q=>SE h6 (((jU c k s).1 (((jN c).1 q).2 k s hs)).2 j x hx))).symm
      ·refine bB<|cSR<|oR 2 rfl<|nW (.sl 3 (List.drop 0 (List.take j (s.map wyL))) false) rfl rfl (⟨jR _,aG _,by show (j:Int)≤(((s.map wyL).length:Nat):Int);rw[aF];have:=of_decide_eq_true h4;omega⟩)<|oR 2 rfl<|rCl (x:=.tup [vN ((jV (s.take j) x.line).getD 0),vB ((jV (s.take j) x.line).isSome)]) rfl (.inl rfl) (by show bX C0 _ [.sl 3 (List.drop 0 (List.take j (s.map wyL))) false,_] _;rw[cA, ←fV];exact Uk (s.take j) x.line false (by rw[aN];omega) (λ y hy=>hso.2 y (cL hy)) hxo.line)<|oR 5 rfl<|rE 86<|cSR<|oR 1 rfl<|rE 87<|aW rfl (λ h7=>?_) (λ h7=>?_)
       ·refine cSR<|oR 1 rfl<|rE 88<|cO ?_;exact fB (x:=false) rfl (wX (c:=c) (λ q=>SF h7 (((jU c k s).1 (((jN c).1 q).2 k s hs)).2 j x hx))).symm
       ·refine bB<|cRg ?_;have b1:j+1≤1000001:=aH hjB (aC 1);refine rW (vN (j+1)) rfl (okI (bV b1 rfl))<|oR 1 rfl<|rE 89 ?_;refine⟨j+1,λ s=>s,Weak.of_lists _ wT wH rfl,⟨of_decide_eq_true h4,SG hx (VL h5 h6 h7) hj.2⟩,by have:=of_decide_eq_true h4;show s.length - (j+1)<s.length - j;omega⟩
    ·refine eE<|cRg ?_;have b2:k+1≤1000001:=aH hkB (aC 1);refine rW (vN (k+1)) rfl (okI (bV b2 rfl))<|oR 1 rfl<|rE 47 ?_;refine⟨k+1,λ s=>s,Weak.of_lists _ wT wH rfl,⟨of_decide_eq_true h2,Nl hs ((jU c k s).2 ⟨by have:=aD h3;omega,λ i y hy=>hj.2 i y (by have:=(Dq.1 hy).1;have:=aD h4;omega) hy⟩) hk.2⟩,by have:=of_decide_eq_true h2;show c.sets.length - (k+1)<c.sets.length - k;omega⟩
  ·refine eE<|cSR<|oR 1 rfl<|rE 32<|cO ?_;exact fB (x:=true) rfl ((jN c).2 ⟨Al h1,λ i s hs=>hk.2 i s (by have:=(Dq.1 hs).1;have:=aD h2;omega) hs⟩).symm
def Dj(x:Wy):Wy:={x with data:=oC}
def Ri:AV:=.sl 0 [] true
def Dk(c:Ca)(k:Nat):List AV:=((c.sets.take k).map λ s=>SC (s.map Dj))++List.replicate (c.sets.length - k) Ri
theorem An{c:Ca}{k:Nat}(h:k≤c.sets.length):(Dk c k).length=c.sets.length:=by unfold Dk;simp;omega
theorem PJ(c:Ca):Dk c 0=List.replicate c.sets.length Ri:=by unfold Dk;simp
theorem SH{c:Ca}{k:Nat}(h:k<c.sets.length):(Dk c k)[k]?=some Ri:=by
 unfold Dk;rw[bQ (by simp;omega),aF,List.length_take_of_le omT,fF,jH,if_pos omT]
theorem Jo{c:Ca}{k:Nat}{s:List Wy}(hs:c.sets[k]?=some s):(Dk c k).set k (SC (s.map Dj))=Dk c (k+1):=by
 obtain⟨hk,hs'⟩:=Dq.1 hs;unfold Dk;rw[iK _ _ (by simp;omega),aF,List.length_take_of_le omT,fF,show c.sets.length - k=(c.sets.length - (k+1))+1 by omega,List.replicate_succ,gI,bR,hs];simp
theorem SJ{c:Ca}(h:fR c=true):(Dk c c.sets.length).map (λ x=>[x])=(iI c).map bC:=by
 unfold Dk iI;rw[if_pos h,fF,cS];simp only[List.replicate_zero,dQ,List.map_map];rfl
theorem Hw{cells:List AV}{k:Nat}{x:AV}(h:cells[k]?=some x):0≤((0+k:Nat):Int)∧(cells.map λ x=>[x])[((0+k:Nat):Int).toNat]?=some [x]:=
 ⟨aG _,by show (cells.map _)[0+k]?=_;rw[bL,aZ,h];rfl⟩
theorem XT(fz:Fz)(n:Nat)(x:AV):LeB fz (.arr (List.replicate n [x]) 1) (.row (List.replicate n x)):=by
 have:=LeB.toRow (fz:=fz) (List.replicate n x)
 rwa [fP]at this
theorem PK(fz:Fz){cells:List AV}{k:Nat}{x y:AV}(hk:k<cells.length)(h:LeZ fz x y):LeB fz (.row (cells.set k x)) (.row (cells.set k y)):=by
 refine .row _ _ (by simp) λ i a d ha hd=>?_;by_cases e:i=k
 ·subst e;rw[aQ hk]at ha hd;injection ha with ha;injection hd with hd;subst ha;subst hd;exact h
 ·rw[gM (Ne.symm e)]at ha hd;rw[ha]at hd;injection hd with hd;subst hd;exact .refl _
theorem LY(σ:Nat→Nat):∀ (l:List AV) (k:Nat) (x:AV),Au σ (l.set k x)=(Au σ l).set k (tY σ x)
 |[],_,_=>by simp[Au]
 |y::l,0,x=>by simp[Au]
 |y::l,k+1,x=>by simp[Au,LY σ l k x]
theorem FT(n:Nat):∀ (l:List AV) (k:Nat) (x:AV),mJ n l=true→mI n x=true→mJ n (l.set k x)=true
 |[],_,_,h,_=>by simpa using h
 |y::l,0,x,h,hx=>by
  simp only[mJ]at h;split at h
  ·simp only[gI,mJ,hx];exact h
  ·cases h
 |y::l,k+1,x,h,hx=>by
  simp only[mJ]at h;split at h
  ·rename_i hy;simp only[List.set_cons_succ,mJ,hy];exact FT n l k x h hx
  ·cases h
theorem Ej:∀ {l:List AV},(∀ x∈l,eL x=true)→eV l=true
 |[],_=>rfl
 |x::l,h=>by simp only[eV,h x (bD)];exact Ej λ y hy=>h y (bF _ hy)
theorem iU(c:Ca)(k:Nat):eV (Dk c k)=true:=Ej λ x hx=>by
 unfold Dk at hx;rcases al_List_mem_append.1 hx with h|h
 ·obtain⟨s,_,rfl⟩:=rQ.1 h;rfl
 ·rw[gH h];rfl
theorem YH{σ:Nat→Nat}{cells r:List AV}(hc:eV cells=true)(h:r=cells):some (Blk.row r)=some (CO σ (.row cells)):=by simp only[CO,nO σ cells hc,h]
theorem YI{n:Nat}{cells:List AV}(hc:eV cells=true):qF n (.row cells)=true:=by simp only[qF,kJ n cells hc]
theorem VM{σ:Nat→Nat}{cells r:List AV}{k:Nat}{x:AV}(hc:eV cells=true)(h:r=cells.set k (tY σ x)):some (Blk.row r)=some (CO σ (.row (cells.set k x))):=by simp only[CO,LY,nO σ cells hc,h]
theorem VN{n k:Nat}{cells:List AV}{x:AV}(hc:eV cells=true)(hx:mI n x=true):qF n (.row (cells.set k x))=true:=by
 simp only[qF];exact FT n cells k x (kJ n cells hc) hx
theorem SK{α:Type}{l:List α}{k:Nat}{x:α}(h:l[k]?=some x):l.set k x=l:=by
 apply dD;intro i;rw[mN];split
 ·rename_i e;subst e;rw[h];simp[(Dq.1 h).1]
 ·rfl
theorem Jp{α:Type}(l:List α)(k:Nat)(x y:α):(l.set k x).set (0+k) y=l.set k y:=by rw[bL,lH]
theorem PL{s:List Wy}{j:Nat}(h:j+1<s.length):(List.take (j+1) (List.drop 0 (((s.take (j+1)).map Dj).map wyL))).length=j+1:=by simp;omega
theorem LZ{p:Prop}{H:AH}{s rs m:Nat}{a c r:List (List AV)}(hl:a.length=m)(hr:a++c=r):Res.fx p (.osl s 0 (a.length+c.length) false) (upd H s (some (.arr (a++c) rs)))=.fx p (.osl s 0 (m+c.length) false) (upd H s (some (.arr r rs))):=by rw[hl,hr]
theorem oG(rs:Nat)(c:Bool):Sub (.sl 0 [] true) (.sl rs [] c):=λ S w v h=>by
 cases h with
 |sl _ _ _ A c0 b o u hc hm hcl hrs hA hw h1 hr=>exact .sl rs [] c A c0 b o u hc hm (λ _=>hcl rfl) (λ _ h=>by cases h) (λ h=>absurd h (dS 0)) (λ i row j a h=>by simp at h) h1 λ i row j a h=>by simp at h
theorem SL(s:List Wy){x:Wy}(hx:s[0]?=some x):[wyL (Dj x)]=((s.take 1).map Dj).map wyL:=by
 cases s with
 |nil=>cases hx
 |cons y l=>injection hx with hx;subst hx;rfl
theorem VO(s:List Wy){x:Wy}{j:Nat}(hx:s[j]?=some x):List.take j (List.drop 0 (((s.take j).map Dj).map wyL))++[wyL (Dj x)]=((s.take (j+1)).map Dj).map wyL:=by
 obtain⟨hj,hx'⟩:=Dq.1 hx;rw[cA,aL (by simp;omega),bR,hx];simp
theorem VP{s:List Wy}{j b:Nat}(hj:j+1=s.length):LeZ (some (b,3,((s.take (j+1)).map Dj).map wyL)) (.osl b 0 (j+1) false) (SC (s.map Dj)):=by
 have hl:(((s.take (j+1)).map Dj).map wyL).length=j+1:=by simp;omega
 have:=LeZ.frz (fz:=some (b,3,((s.take (j+1)).map Dj).map wyL)) b 3 0 (j+1) (((s.take (j+1)).map Dj).map wyL) false false rfl omT (λ h=>h);rw[show List.take (j+1) (List.drop 0 (((s.take (j+1)).map Dj).map wyL))=((s.take (j+1)).map Dj).map wyL from by rw[cA];exact aL omT]at this;have e:SC (s.map Dj)=.sl 3 (((s.take (j+1)).map Dj).map wyL) false:=by rw[hj,cS]
 rw[e];exact this
theorem BF{c:Ca}(h:fR c=true):(iI c).length=c.sets.length:=by unfold iI;rw[if_pos h,aF]
theorem SM{fz:Fz}{c:Ca}{k:Nat}(h:decide (k<c.sets.length)=false)(hk:k≤c.sets.length)(hr:fR c=true):LeB fz (.row (Dk c k)) (.arr ((iI c).map bC) 1):=by
 have:k=c.sets.length:=by have:=aD h;omega
 subst this;rw[←SJ hr];refine .toArr _ λ x hx=>?_;unfold Dk at hx;rw[fF,List.replicate_zero,dQ]at hx;obtain⟨s,_,rfl⟩:=rQ.1 hx;rfl
theorem XU(c:Ca)(ck:Bool)(hok:c.ok):bX C0 137 [.agg (caL c ck)] (.sl 1 ((iI c).map bC) false):=by
 refine bX.intro c0Ok Tryz.func137 rfl rfl (by kernel_rfl) rfl<|cSR<|rAl 0 rfl rfl<|oR 1 rfl<|rE 2<|bW<|cSR<|oR 1 rfl<|rCi rfl (Am c ck hok)<|oR 1 rfl<|rE 5<|aW rfl (λ h1=>?_) (λ h1=>?_)
 ·refine cSR<|oR 1 rfl<|rE 6<|cO ?_;exact⟨_,rfl,trivial,rfl,by show Sub _ (.sl 1 ((iI c).map bC) false);rw[show iI c=[]from if_neg (by simpa using h1)];exact oG 1 false⟩
 ·refine bB<|cSR<|oR 2 rfl ?_;have hR:fR c=true:=by simpa using h1
  have hR1:=((jN c).1 hR).1;have hsl4:c.sets.length≤1000000:=by have:=hR1.1;omega
  refine rW (vN c.sets.length) rfl (bY bC c.sets)<|rFx (x:=.osl 8 0 c.sets.length false) (h':=upd _ 8 (some (.arr (List.replicate c.sets.length [.sl 0 ([]) true]) 1))) rfl rfl (rfl) (⟨aG _,jR _,by show ((c.sets.length:Nat):Int)≤1000000;have:=hsl4;omega⟩)<|oR 1 rfl<|rE 10<|ER<|ER<|cRg<|oR 2 rfl<|rW (vN c.sets.length) rfl (bY bC c.sets)<|oR 1 rfl<|rE 14<| .mk _ (.step none (Ghost.of_lists (l:=[(3,.osl 8 0 c.sets.length false),(16,.sl 1 (c.sets.map bC) ck),(17,vN c.sets.length),(18,vI 0)]) (hp:=[(8,.row (Dk c 0))]) trivial ⟨.refl _,.refl _,.refl _,.refl _,trivial⟩ ⟨⟨trivial,_,rfl,(by rw[PJ];exact XT _ _ _)⟩,trivial⟩) (.refl _))<|bK<|mL (κ:=Nat) (λ k=>⟨slotsF [(3,.osl 8 0 c.sets.length false),(16,.sl 1 (c.sets.map bC) ck),(17,vN c.sets.length),(18,vN k)],heapF [(8,.row (Dk c k))],14⟩) (λ k=>k≤c.sets.length) (λ k=>c.sets.length - k) 0 (λ s=>s) (Weak.of_lists (λ s=>s) wT ⟨⟨rfl,(YH (iU c 0) rfl),(YI (iU c 0))⟩,trivial⟩ rfl) (aE _) ?_;intro k hk;have hkB:k≤1000000:=by omega
  refine cSR<|rW (vB (decide (k<c.sets.length))) rfl (okB (ltN _ _))<|rE 15<|bW<|aW rfl (λ h2=>?_) (λ h2=>?_)
  ·refine bB<|Es (κ:=Unit) (λ u_=>⟨slotsF [(3,.osl 8 0 c.sets.length false),(16,.sl 1 (c.sets.map bC) ck),(17,vN c.sets.length),(18,vN k)],heapF [(8,.row (Dk c (k+1)))],61⟩) (λ u_=>True) ?_ ?_
   ·refine bK<|cSR<|oR 1 rfl ?_;obtain⟨s,hs⟩:∃ s,c.sets[k]?=some s:=⟨_,aA (of_decide_eq_true h2)⟩;have hsl:s.length≤2:=by have:=((jU c k s).1 (((jN c).1 hR).2 k s hs)).1;have:=hR1.2;omega
    have hkl:k<c.sets.length:=of_decide_eq_true h2;refine rIx (bC s) (.dp 1 0 (bC s)) rfl rfl (iB hs) rfl<|oR 3 rfl<|rE 20<|cSR<|oR 1 rfl<|rW (vN s.length) rfl (bY wyL s)<|oR 1 rfl<|rE 23<|bK<|mL (κ:=Nat) (λ j=>match j with|0=>⟨slotsF [(3,.osl 8 0 c.sets.length false),(16,.sl 1 (c.sets.map bC) ck),(17,vN c.sets.length),(18,vN k),(4,vN k),(23,.sl 3 (s.map wyL) false),(24,vN s.length),(25,vN 0)],heapF [(8,.row ((Dk c k).set k (.sl 0 ([]) true)))],61⟩|j+1=>⟨slotsF [(3,.osl 8 0 c.sets.length false),(16,.sl 1 (c.sets.map bC) ck),(17,vN c.sets.length),(18,vN k),(4,vN k),(23,.sl 3 (s.map wyL) false),(24,vN s.length),(25,vN (j+1))],heapF [(8,.row ((Dk c k).set k (.osl 60 0 (j+1) false))),(60,.arr (((s.take (j+1)).map Dj).map wyL) 3)],61⟩) (λ j=>j≤s.length) (λ j=>s.length - j) 0 (λ s=>s) (Weak.of_lists (λ s=>s) wT ⟨⟨rfl,(VM (iU c k) (SK (SH hkl)).symm),(VN (iU c k) rfl)⟩,trivial⟩ rfl) (aE _) ?_;intro j hj;rcases j with _|j
    ·refine cSR<|rW (vB (decide (0<s.length))) rfl (okB (ltN _ _))<|rE 62<|bW<|aW rfl (λ h3=>?_) (λ h3=>?_)
     ·refine bB<|bW<|bK<|cSR ?_;obtain⟨x,hx⟩:∃ x,s[0]?=some x:=⟨_,aA (of_decide_eq_true h3)⟩;refine rIx (wyL x) (.dp 3 0 (wyL x)) rfl rfl (iB hx) rfl<|oR 1 rfl<|rAl 64 rfl rfl<|rSt rfl<|rE 66<|cSR<|oR 1 rfl<|rSt rfl<|rE 68<|cRg<|oR 4 rfl<|nW (.ptr2 8 (0+k) 0) rfl rfl (⟨aG _,EI.2 (by show k<c.sets.length;omega)⟩)<|Ih ([.sl 0 ([]) true]) (x:=.sl 0 ([]) true) rfl rfl rfl (Hw (aQ (by rw[An (Nat.le_of_lt hkl)];exact hkl))) rfl<|oR 1 rfl<|rV (.sl 3 ([[vU x.line,vB x.dirty,.v (.string (⟨#[]⟩))]]) true) rfl<|rFx (x:=.osl 76 0 1 false) (h':=upd _ 76 (some (.arr ([[vU x.line,vB x.dirty,.v (.string (⟨#[]⟩))]]) 3))) rfl rfl (rfl) (⟨rfl,by simp[kW],by simp[kW],trivial⟩)<|nW (.ptr2 8 (0+k) 0) rfl rfl (⟨aG _,EI.2 (by show k<c.sets.length;omega)⟩)<|nI ([Ri]) (h':=upd _ 8 (some (.row (((Dk c k).set k Ri).set (0+k) (.osl 76 0 1 false))))) rfl rfl rfl (Hw (aQ (by rw[An (Nat.le_of_lt hkl)];exact hkl))) rfl<|rE 79<|cRg ?_;have b1:0+1≤1:=aH (aC 0) (aC 1);refine rW (vN (0+1)) rfl (okI (bV b1 rfl))<|oR 1 rfl<|rE 81 ?_;refine⟨1,λ s=>match s with|60=>76|s=>s,Weak.of_lists _ wT ⟨⟨rfl,(VM (iU c k) (Jp ..)),(VN (iU c k) rfl)⟩,⟨rfl,(congrArg (λ z=>some (Blk.arr z 3)) (SL s hx)),rfl⟩,trivial⟩ rfl,of_decide_eq_true h3,by have:=of_decide_eq_true h3;show s.length - 1<s.length - 0;omega⟩
     ·refine eE ?_;have hs0:s=[]:=aX (by have:=aD h3;omega);subst hs0;refine .mk _ (.step none (Ghost.of_lists (l:=[(3,.osl 8 0 c.sets.length false),(16,.sl 1 (c.sets.map bC) ck),(17,vN c.sets.length),(18,vN k)]) (hp:=[(8,.row ((Dk c k).set k (SC (([]:List Wy).map Dj))))]) trivial ⟨.refl _,.refl _,.refl _,.refl _,trivial⟩ ⟨⟨trivial,_,rfl,(PK none (y:=SC (([]:List Wy).map Dj)) (by rw[An (Nat.le_of_lt hkl)];exact hkl) (.nil 3 false))⟩,trivial⟩) (.refl _)) ⟨(),λ s=>s,Weak.of_lists _ wT ⟨⟨rfl,(YH (iU c (k+1)) (Jo hs)),(YI (iU c (k+1)))⟩,trivial⟩ rfl,rfl,trivial⟩
    ·have hjB:j+1≤1000000:=by omega
     refine cSR<|rW (vB (decide ((j+1)<s.length))) rfl (okB (ltN _ _))<|rE 62<|bW<|aW rfl (λ h4=>?_) (λ h4=>?_)
     ·refine bB<|bW<|bK<|cSR ?_;obtain⟨x,hx⟩:∃ x,s[(j+1)]?=some x:=⟨_,aA (of_decide_eq_true h4)⟩;refine rIx (wyL x) (.dp 3 0 (wyL x)) rfl rfl (iB hx) rfl<|oR 1 rfl<|rAl 64 rfl rfl<|rSt rfl<|rE 66<|cSR<|oR 1 rfl<|rSt rfl<|rE 68<|cRg<|oR 4 rfl<|nW (.ptr2 8 (0+k) 0) rfl rfl (⟨aG _,EI.2 (by show k<c.sets.length;omega)⟩)<|Ih ([.osl 60 0 (j+1) false]) (x:=.osl 60 0 (j+1) false) rfl rfl rfl (Hw (aQ (by rw[An (Nat.le_of_lt hkl)];exact hkl))) rfl<|oR 1 rfl<|rV (.sl 3 ([[vU x.line,vB x.dirty,.v (.string (⟨#[]⟩))]]) true) rfl<|rFx (x:=.osl 76 0 (j+1+1) false) (h':=upd (upd _ 60 none) 76 (some (.arr (((s.take (j+1+1)).map Dj).map wyL) 3))) rfl rfl (LZ (PL (of_decide_eq_true h4)) (VO s hx)) (⟨by rw[PL (of_decide_eq_true h4)];have:=hsl;show j+1+1≤1000000;have:=of_decide_eq_true h4;omega,by rw[bL];simp;have:=of_decide_eq_true h4;omega,trivial⟩)<|nW (.ptr2 8 (0+k) 0) rfl rfl (⟨aG _,EI.2 (by show k<c.sets.length;omega)⟩)<|nI ([.osl 60 0 (j+1) false]) (h':=upd _ 8 (some (.row (((Dk c k).set k (.osl 60 0 (j+1) false)).set (0+k) (.osl 76 0 (j+1+1) false))))) rfl rfl rfl (Hw (aQ (by rw[An (Nat.le_of_lt hkl)];exact hkl))) rfl<|rE 79<|cRg ?_;have b2:(j+1)+1≤1000001:=aH hjB (aC 1);refine rW (vN ((j+1)+1)) rfl (okI (bV b2 rfl))<|oR 1 rfl<|rE 81 ?_;refine⟨(j+1)+1,λ s=>match s with|60=>76|s=>s,Weak.of_lists _ wT ⟨⟨rfl,(VM (iU c k) (Jp ..)),(VN (iU c k) rfl)⟩,⟨rfl,rfl,rfl⟩,trivial⟩ rfl,of_decide_eq_true h4,by have:=of_decide_eq_true h4;show s.length - ((j+1)+1)<s.length - (j+1);omega⟩
     ·refine eE ?_;have hjl:j+1=s.length:=by have:=aD h4;omega
      refine .mk _ (.step (some (60,3,((s.take (j+1)).map Dj).map wyL)) (Ghost.of_lists (l:=[(3,.osl 8 0 c.sets.length false),(16,.sl 1 (c.sets.map bC) ck),(17,vN c.sets.length),(18,vN k)]) (hp:=[(8,.row ((Dk c k).set k (SC (s.map Dj))))]) rfl ⟨.refl _,.refl _,.refl _,.refl _,trivial⟩ ⟨⟨rfl,_,rfl,(PK _ (y:=SC (s.map Dj)) (by rw[An (Nat.le_of_lt hkl)];exact hkl) (VP hjl))⟩,trivial⟩) (.refl _)) ⟨(),λ s=>s,Weak.of_lists _ wT ⟨⟨rfl,(YH (iU c (k+1)) (Jo hs)),(YI (iU c (k+1)))⟩,trivial⟩ rfl,rfl,trivial⟩
   ·intro u_ _;refine cRg ?_;have b3:k+1≤1000001:=aH hkB (aC 1);refine rW (vN (k+1)) rfl (okI (bV b3 rfl))<|oR 1 rfl<|rE 63 ?_;refine⟨k+1,λ s=>s,Weak.of_lists _ wT ⟨⟨rfl,(YH (iU c (k+1)) rfl),(YI (iU c (k+1)))⟩,trivial⟩ rfl,of_decide_eq_true h2,by have:=of_decide_eq_true h2;show c.sets.length - (k+1)<c.sets.length - k;omega⟩
  ·refine eE<| .mk _ (.step none (Ghost.of_lists (l:=[(3,.osl 8 0 c.sets.length false)]) (hp:=[(8,.arr ((iI c).map bC) 1)]) trivial ⟨.refl _,trivial⟩ ⟨⟨trivial,_,rfl,(SM h2 hk (by simpa using h1))⟩,trivial⟩) (.refl _))<|cSR<|oR 2 rfl<|rE 17<|cO<|fG rfl (show 0+c.sets.length≤((iI c).map bC).length from by rw[aF,BF (by simpa using h1)];omega) rfl ?_;show AV.sl 1 (List.take c.sets.length (List.drop 0 ((iI c).map bC))) false=_;rw[cA,aL (by rw[aF,BF (by simpa using h1)];omega)]
theorem Sub.sl{rs:Nat}{rows rows':List (List AV)}{clip:Bool}(hl:rows.length=rows'.length)(hw:∀ (i:Nat) row row',rows[i]?=some row→rows'[i]?=some row'→row.length=row'.length∧∀ (j:Nat) a b,row[j]?=some a→row'[j]?=some b→Sub a b):Sub (.sl rs rows clip) (.sl rs rows' clip):=λ S w v h=>by
 cases h with
 | sl _ _ _ A c b o u hc hm hcl hrs hA hv h1 hr=>
  rw[hl];have back:∀ (i:Nat) row',rows'[i]?=some row'→∃ row,rows[i]?=some row:=λ i row' h=>⟨_,aA (by rw[hl];exact (Dq.1 h).1)⟩;have back2:∀ (i:Nat) row row' (j:Nat) b,rows[i]?=some row→rows'[i]?=some row'→row'[j]?=some b→∃ a,row[j]?=some a:=λ i row row' j b h h' hj=>⟨_,aA (by rw[(hw i row row' h h').1];exact (Dq.1 hj).1)⟩;refine .sl rs rows' clip A c b o u (hl ▸ hc) hm (λ e=>(hcl e).trans hl) (λ row' hr'=>?_) (λ h0=>hA omT) (λ i row' j a hi hj=>?_) h1 λ i row' j a hi hj=>?_
  ·obtain⟨i,hi,rfl⟩:=eA hr';obtain⟨row,hrow⟩:=back i _ (aA hi);rw[←(hw i row _ hrow (aA hi)).1];exact hrs row (aB hrow)
  ·obtain⟨row,hrow⟩:=back i row' hi;obtain⟨x,hx⟩:=back2 i row row' j a hrow hi hj;exact hv i row j x hrow hx
  ·obtain⟨row,hrow⟩:=back i row' hi;obtain⟨x,hx⟩:=back2 i row row' j a hrow hi hj;exact (hw i row row' hrow hi).2 j x a hx hj S w _ (hr i row j x hrow hx)
def XP:List AV→List AV→Prop
 |[],[]=>True
 |a::xs,b::ys=>Sub a b∧XP xs ys
 |_,_=>False
theorem XP.get:∀ {xs ys:List AV},XP xs ys→xs.length=ys.length∧∀ (i:Nat) a b,xs[i]?=some a→ys[i]?=some b→Sub a b
 |[],[],_=>⟨rfl,λ i a b h=>by simp at h⟩
 |x::xs,y::ys,h=>by
  obtain⟨h1,h2⟩:=XP.get h.2;refine⟨by simp[h1],λ i a b ha hb=>?_⟩
  cases i with
  |zero=>simp at ha hb;subst ha;subst hb;exact h.1
  |succ i=>exact h2 i a b (by simpa using ha) (by simpa using hb)
 |[],_::_,h=>h.elim
 |_::_,[],h=>h.elim
theorem Sub.agg{xs ys:List AV}(h:XP xs ys):Sub (.agg xs) (.agg ys):=λ S w v hv=>by
 cases hv with
 |agg _ vs hl h1 hr=>
  refine .agg ys vs (h.get.1 ▸ hl) h1 λ i b u p q=>?_;have hi:i<xs.length:=by rw[h.get.1];exact (Dq.1 p).1
  exact h.get.2 i xs[i] b (aA hi) p S w u (hr i _ u (aA hi) q)
theorem Sub.tup{xs ys:List AV}(h:XP xs ys):Sub (.tup xs) (.tup ys):=λ S w v hv=>by
 cases hv with
 |tup _ vs hl hr=>
  refine .tup ys vs (h.get.1 ▸ hl) λ i b u p q=>?_;have hi:i<xs.length:=by rw[h.get.1];exact (Dq.1 p).1
  exact h.get.2 i xs[i] b (aA hi) p S w u (hr i _ u (aA hi) q)
theorem Sub.clip(rs:Nat)(rows:List (List AV))(c:Bool):Sub (.sl rs rows c) (.sl rs rows false):=λ S w v h=>by
 cases h with
 |sl _ _ _ A c0 b o u hc hm hcl hrs hA hw h1 hr=>exact .sl rs rows false A c0 b o u hc hm (λ h=>by cases h) hrs hA hw h1 hr
theorem LX(n:Nat):Sub (.sl 1 (List.replicate n [Ri]) false) (.sl 1 (List.replicate n (bC [])) false):=by
 refine Sub.sl (by simp) λ i row row' h h'=>?_;have e1:=gH (aB h);have e2:=gH (aB h');subst e1;subst e2;refine⟨rfl,λ j a b ha hb=>?_⟩
 cases j with
 |zero=>injection ha with ha;injection hb with hb;subst ha;subst hb;exact oG 3 false
 |succ j=>simp at ha
abbrev gsL(x:Gs):List AV:=[.v (.int .u32 (x.pc:Int)),.v (.int .u32 (x.next:Int))]
abbrev guL(g:Gu):List AV:=[.sl 2 (g.slots.map gsL) false,.v (.int .u32 (g.hist:Int)),.sl 1 (g.rets.map eX) false]
theorem Uh(sets ways:Int):bX C0 41 [vI sets,vI ways] (.agg (caL (Av sets ways) false)):=by
 refine bX.intro c0Ok Tryz.func41 rfl rfl (by kernel_rfl) rfl ?_;obtain⟨L,hLe,hL,hL1⟩:∃ L:Nat,bH sets 1 4=(L:Int)∧L≤4∧1≤L:=⟨(bH sets 1 4).toNat,by unfold bH;(repeat' split)<;>omega,by unfold bH;(repeat' split)<;>omega,by unfold bH;(repeat' split)<;>omega⟩;refine cSR<|rAl 0 rfl rfl<|rE 1<|cSR<|oR 1 rfl<|rV (vI (if 1>sets then 1 else sets)) rfl<|rW (vN L) rfl (congrArg (λ z:Int=>Res.ok (.v (.int .i64 z))) hLe)<|oR 1 rfl<|rE 5<|bW<|cSR<|oR 1 rfl<|rW (vB (L==3)) rfl (okB (eqN _ _))<|rE 7<|aW rfl (λ h1=>?_) (λ h1=>?_)
 ·refine cRg<|oR 1 rfl<|rE 8<|cSR<|oR 1 rfl<|rV (vI (if 1>ways then 1 else ways)) rfl<|rV (vI (if 2<(if 1>ways then 1 else ways)then 2 else (if 1>ways then 1 else ways))) rfl<|oR 1 rfl<|rFx (x:=.osl 12 0 2 false) (h':=upd _ 12 (some (.arr (List.replicate 2 [.sl 0 ([]) true]) 1))) rfl rfl (rfl) (⟨by decide,by decide,by decide⟩)<|rV (.agg [vI (if 2<(if 1>ways then 1 else ways)then 2 else (if 1>ways then 1 else ways)),.osl 12 0 2 false]) rfl<|rSt rfl<|rE 15<|cO ?_;have e:(Av sets ways).sets=List.replicate 2 []:=by show List.replicate (if bH sets 1 4=3 then 2 else bH sets 1 4).toNat []=_;rw[hLe];rw[if_pos (by have:L=3:=(by simpa using h1);omega)];rfl
  refine⟨_,rfl,⟨trivial,by show 0+2≤(List.replicate 2 [Ri]).length;rw[cR];omega,trivial⟩,rfl,Sub.agg ⟨Sub.refl _,?_,trivial⟩⟩;show Sub (.sl 1 (List.take 2 (List.drop 0 (List.replicate 2 [Ri]))) false) (.sl 1 ((Av sets ways).sets.map bC) false);rw[e,cA,aL (by rw[cR];exact aC _),fP];exact LX 2
 ·refine bB<|cSR<|oR 1 rfl<|rV (vI (if 1>ways then 1 else ways)) rfl<|rV (vI (if 2<(if 1>ways then 1 else ways)then 2 else (if 1>ways then 1 else ways))) rfl<|oR 1 rfl<|rFx (x:=.osl 11 0 L false) (h':=upd _ 11 (some (.arr (List.replicate L [.sl 0 ([]) true]) 1))) rfl rfl (rfl) (⟨aG _,jR _,by show (L:Int)≤1000000;have:=hL;omega⟩)<|rV (.agg [vI (if 2<(if 1>ways then 1 else ways)then 2 else (if 1>ways then 1 else ways)),.osl 11 0 L false]) rfl<|rSt rfl<|rE 14<|cO ?_;have e:(Av sets ways).sets=List.replicate L []:=by show List.replicate (if bH sets 1 4=3 then 2 else bH sets 1 4).toNat []=_;rw[hLe];rw[if_neg (by have: ¬ L=3:=(by simpa using h1);omega)];rfl
  refine⟨_,rfl,⟨trivial,by show 0+L≤(List.replicate L [Ri]).length;rw[cR];omega,trivial⟩,rfl,Sub.agg ⟨Sub.refl _,?_,trivial⟩⟩;show Sub (.sl 1 (List.take L (List.drop 0 (List.replicate L [Ri]))) false) (.sl 1 ((Av sets ways).sets.map bC) false);rw[e,cA,aL (by rw[cR];exact aC _),fP];exact LX L
theorem XQ:bX C0 43 [] (.agg (guL XX)):=by
 refine bX.intro c0Ok Tryz.func43 rfl rfl (by kernel_rfl) rfl<|cSR<|rAl 0 rfl rfl<|rE 1<|cSR<|rFx (x:=.osl 1 0 8 false) (h':=upd _ 1 (some (.arr (List.replicate 8 [.v (.int .u32 0),.v (.int .u32 0)]) 2))) rfl rfl (rfl) (⟨by decide,by decide,by decide⟩)<|rV (.agg [.osl 1 0 8 false,.v (.int .u32 0),.sl 0 ([]) true]) rfl<|rSt rfl<|rE 4<|cO ?_;refine⟨_,rfl,⟨by show 0+8≤_;decide,trivial,trivial,trivial⟩,rfl,Sub.agg ⟨Sub.refl _,Sub.refl _,oG 1 false,trivial⟩⟩
abbrev ftL(x:Ft):List AV:=[.v (.int .u32 (x.pc:Int)),.v (.int .u32 (x.guess:Int))]
abbrev ptL(x:Pt):List AV:=[.v (.int .u32 (x.addr:Int)),.v (.string x.data)]
abbrev enL(e:Ent):List AV:=[.v (.int .i64 e.no),.v (.int .u32 (e.pc:Int)),.v (.int .i64 e.i.op),.v (.int .i64 e.i.rd),.v (.int .i64 e.i.rs1),.v (.int .i64 e.i.rs2),.v (.int .u32 (e.i.imm:Int)),.v (.int .u32 (e.guess:Int)),.v (.int .i64 e.is),.v (.int .i64 e.left),.v (.int .u32 (e.value:Int)),.v (.int .u32 (e.next:Int)),.v (.int .u32 (e.addr:Int)),.v (.int .i64 e.halt),.v (.int .i64 e.took),.v (.bool e.known),.v (.bool e.filled)]
abbrev coL(c:Co):List AV:=[.v (.int .i64 c.conf.mode),.v (.int .i64 c.conf.width),.v (.int .i64 c.conf.rob),.v (.int .i64 c.conf.queue),.v (.int .i64 c.conf.stores),.v (.int .i64 c.conf.slots),.v (.int .i64 c.conf.sets),.v (.int .i64 c.conf.ways),.sl 1 (c.conf.lat.map iL) false,.v (.bool c.conf.tables),.sl 1 (c.conf.tape.map eX) false,.sl 1 (c.prog.map eX) false,.v (.int .i64 c.cycle),.v (.int .u32 (c.r 0:Int)),.v (.int .u32 (c.r 1:Int)),.v (.int .u32 (c.r 2:Int)),.v (.int .u32 (c.r 3:Int)),.v (.int .u32 (c.r 4:Int)),.v (.int .u32 (c.r 5:Int)),.v (.int .u32 (c.r 6:Int)),.v (.int .u32 (c.r 7:Int)),.v (.int .u32 (c.r 8:Int)),.v (.int .u32 (c.r 9:Int)),.v (.int .u32 (c.r 10:Int)),.v (.int .u32 (c.r 11:Int)),.v (.int .u32 (c.r 12:Int)),.v (.int .u32 (c.r 13:Int)),.v (.int .u32 (c.r 14:Int)),.v (.int .u32 (c.r 15:Int)),.v (.int .u32 (c.r 16:Int)),.v (.int .u32 (c.r 17:Int)),.v (.int .u32 (c.r 18:Int)),.v (.int .u32 (c.r 19:Int)),.v (.int .u32 (c.r 20:Int)),.v (.int .u32 (c.r 21:Int)),.v (.int .u32 (c.r 22:Int)),.v (.int .u32 (c.r 23:Int)),.v (.int .u32 (c.r 24:Int)),.v (.int .u32 (c.r 25:Int)),.v (.int .u32 (c.r 26:Int)),.v (.int .u32 (c.r 27:Int)),.v (.int .u32 (c.r 28:Int)),.v (.int .u32 (c.r 29:Int)),.v (.int .u32 (c.r 30:Int)),.v (.int .u32 (c.r 31:Int)),.v (.int .u32 (c.fetch:Int)),.v (.bool c.stop),.sl 2 (c.fetched.map ftL) false,.sl 17 (c.rob.map enL) false,.v (.int .i64 c.next),.sl 2 (c.stores.map ptL) false,.v (.int .i64 c.data.ways),.sl 1 (c.data.sets.map bC) false,.v (.int .i64 c.words.ways),.sl 1 (c.words.sets.map bC) false,.sl 4 (c.bus.map rqL) false,.v (.int .i64 c.asked),.v (.int .i64 c.guessed),.v (.string c.mem),.sl 2 (c.guess.slots.map gsL) false,.v (.int .u32 (c.guess.hist:Int)),.sl 1 (c.guess.rets.map eX) false,.v (.int .i64 c.halt),.sl 9 (c.retired.map spL) false]
theorem bX.sub{C:Ctx}{f:FuncId}{args:List AV}{r r':AV}(h:bX C f args r)(k:Sub r r'):bX C f args r':=⟨h.1,λ S w vs a b c=>(h.2 S w vs a b c).mono λ e w' ⟨v,p,q,s⟩=>⟨v,p,q,k _ _ _ s⟩⟩
theorem PH(k:Nat):bX C0 40 [.v (.slice none 0 k)] (.sl 0 [] true):=by
 refine bX.intro c0Ok Tryz.func40 rfl rfl (by kernel_rfl) rfl<|cSR<|oR 1 rfl<|rE 1<|bW<|cSR<|oR 1 rfl<|rV (vB true) rfl<|rE 3<|aW rfl (λ _=>?_) (λ h=>by cases h);refine cSR<|oR 1 rfl<|rE 4<|cO ?_;exact fT rfl rfl
theorem Fa{P:Program}{w:World}(t ty e:TypeId)(i:TypeInfo)(ht:P.underlying t=some (.slice e))(hi:P.info? e=some i)(A0:Option Addr)(c0:Nat)(a:Addr)(k:Nat):
  (Builtin.append_ #[t,t] ty #[.slice A0 0 c0,.slice (some a) 0 k]).run P w=.ok (.slice A0 0 c0) w:=by
 have hl:(loadCells a 0).run P w=.ok #[] w:=rfl;cases A0<;>simp[Builtin.append_,run_underlying ht,sizeOf,typeInfo,hi,Builtin.lenOf,Builtin.firstCells,storeCells,hl]
theorem wW{P:Program}{w:World}{ops:Array Oper}{rest:List Oper}{o:Oper}{a:Act}{Q:Exit→Act→World→Prop}(hgd:o.guard=none)(s x:Operand)(t:TypeId)
  (ho:o.op=.call {callee:=.builtin .append,args:= #[s,x],argTypes:= #[t,t]}) (e:TypeId) (i:TypeInfo) (ht:P.underlying t=some (.slice e)) (hi:P.info? e=some i)
  (A0:Option Addr) (c0:Nat) (b:Addr) (k:Nat) (hs:a.eval s=.slice A0 0 c0) (hx:a.eval x=.slice (some b) 0 k)
  (h:wpList P ops Q rest (a.put o.dst (.slice A0 0 c0)) w):wpList P ops Q (o::rest) a w:=by
 refine wpList_plain hgd λ K hK=>?_;have hrun:=Fa (P:=P) (w:=w) t o.type e i ht hi A0 c0 b k;unfold Oper.wp;simp[execOp,ho,resolve,invoke,builtin,hs,hx,hrun,Result.andThen];exact hK _ _ h
theorem XR(a:Addr)(k:Nat)(w:World):Calls Tryz.prog 40 #[.slice (some a) 0 k] w λ e w'=>∃ v,e=.returned v∧Below w.heap.size w w'∧∃ A c,v=.slice A 0 c∧c≤maxLen:=by
 obtain⟨i0,z0,hi, -⟩:=(c0Ok.ty 26 _ rfl).info
 go_enter Tryz.func40,Tryz.ntmps40
 have hb:Sem.run Tryz.prog (binOp .eql 23 (.slice (some a) 0 k) (.slice none 0 0)) w=.ok (.bool false) w:=by
  have e1:(Op.equal 23 (.slice (some a) 0 k) (.slice none 0 0)).run Tryz.prog w=.ok (some a).isNone w:=AD Tryz.prog w 9999 _ 26 (c0Ok.ty 23 _ rfl).kd _ _ _;simp only[binOp,Sem.run_bind,e1,Result.andThen_ok];rfl
 go_wp2_with (first|(rw[hb];simp only[Result.andThen_ok,Oper.upon])|(at_builtin;refine wW rfl (.tmp 5) (.tmp 6) 23 rfl 26 i0 (c0Ok.ty 23 _ rfl).kd hi _ _ _ _ rfl rfl ?_))
 go_ret
 exact⟨_,rfl,(Below.refl _ _).alloc (aC _) _,_,_,rfl,aE _⟩
theorem VK(x:List AV)(xs:List (List AV))(ck:Bool)(hl:(x::xs).length≤1000000):bX C0 40 [.sl 1 (x::xs) ck] (.sl 1 (x::xs) false):=by
 refine bX.intro c0Ok Tryz.func40 rfl rfl (by kernel_rfl) rfl<|cSR<|oR 1 rfl<|rE 1<|bW<|cSR<|oR 1 rfl<|rV (vB false) rfl<|rE 3<|aW rfl (λ h=>by cases h) (λ _=>?_);refine bB<|cSR<|rV (.sl 1 ([]) true) rfl<|oR 1 rfl<|rFx (x:=.osl 5 0 (0+(x::xs).length) false) (h':=upd _ 5 (some (.arr (([])++(x::xs)) 1))) rfl rfl (rfl) (⟨by first|(exact Nat.succ_pos _)|(simp only[cU,bL];exact hl),by first|(exact Nat.succ_pos _)|(simp only[cU,bL];exact hl),trivial,trivial⟩)<|oR 1 rfl<|rE 7<|cO ?_;refine⟨_,rfl,(by show 0+(0+(x::xs).length)≤(x::xs).length;omega),rfl,?_⟩;show Sub (.sl 1 (List.take (0+(x::xs).length) (List.drop 0 ([]++(x::xs)))) false) _;rw[cA,iZ,bL,aL (aC _)];exact Sub.refl _
theorem XS(rows:List (List AV))(ck:Bool)(hl:rows.length≤1000000):bX C0 40 [.sl 1 rows ck] (.sl 1 rows false):=by
 match rows,hl with
 |x::xs,hl=>exact VK x xs ck hl
 | [],_=>
  refine⟨(PH 0).1,λ S w vs hS hG hr=>?_⟩
  match vs,hr with
  |[],hr=>simp[RepL]at hr
  |_::_::_,hr=>simp[RepL]at hr
  | [v],hr=>
   have h0:=hr.2 0 _ v rfl rfl
   cases h0 with
   | sl _ _ _ A c b o u hc hm hcl hrs hA hw h1 h'=>
    cases A with
    |none=>exact ((PH c).sub (oG 1 false)).2 S w _ hS hG (RepL.cons (.v _) (RepL.nil _ _ _))
    |some a=>
     exact (XR a c w).mono λ e w' ⟨v,h1,h2,A,c',h3,h4⟩=>⟨v,h1,h2,h3 ▸ .sl 1 [] false A c' 0 0 (λ _ _=>.bool false) (aE _) h4 (λ h=>by cases h) (λ _ h=>by cases h) (λ h=>absurd h (dS 0)) (λ i row j a h=>by simp at h) (λ _ _=>rfl) λ i row j a h=>by simp at h⟩
def fN(c:Cf)(prog:List Nat)(m:ByteArray):Co:=
 {conf:=bP c,prog:=prog.take (min prog.length 64),cycle:=0,r:=λ _=>0,fetch:=0,stop:=false,fetched:=[],rob:=[],next:=1,stores:=[],data:=Av (bP c).sets (bP c).ways,words:=Av (bP c).sets (bP c).ways,bus:=[],asked:=0,guessed:=0,mem:=qK m,guess:=XX,halt:=0,retired:=[]}
theorem Ui(c:Cf)(prog:List Nat)(m:ByteArray)(hok:c.ok)(hl:prog.length≤1000000):bX C0 15 [.agg (cfL c false false),.sl 1 (prog.map eX) false,.v (.string m)] (.agg (coL (fN c prog m))):=by
 refine bX.intro c0Ok Tryz.func15 rfl rfl (by kernel_rfl) rfl<|cSR<|rAl 0 rfl rfl<|rAl 1 rfl rfl<|rE 2<|cSR<|oR 1 rfl<|rCi rfl (Hz c false false hok)<|rSt rfl<|rE 5<|cSR<|oR 3 rfl<|rW (vN prog.length) rfl (bY eX prog)<|rW (vN (min prog.length 64)) rfl (BG prog.length 64)<|nW (.sl 1 (List.drop 0 (List.take (min prog.length 64) (prog.map eX))) false) rfl rfl (⟨jR _,by show (0:Int)≤((min prog.length 64:Nat):Int);omega,by show ((min prog.length 64:Nat):Int)≤(((prog.map eX).length:Nat):Int);rw[aF];omega⟩)<|rCi rfl (XS (List.drop 0 (List.take (min prog.length 64) (prog.map eX))) _ (by rw[aY,aN,aF];omega))<|oR 4 rfl<|rCi rfl (Uh (bP c).sets (bP c).ways)<|oR 4 rfl<|rCi rfl (Uh (bP c).sets (bP c).ways)<|oR 1 rfl<|rCi rfl (Um m)<|rCi rfl (XQ)<|rV (.agg [vI ((bP c).mode),vI ((bP c).width),vI ((bP c).rob),vI ((bP c).queue),vI ((bP c).stores),vI ((bP c).slots),vI ((bP c).sets),vI ((bP c).ways),.sl 1 ((bP c).lat.map iL) false,vB ((bP c).tables),.sl 1 ((bP c).tape.map eX) false,.sl 1 (List.drop 0 (List.take (min prog.length 64) (prog.map eX))) false,vI 0,zU,zU,zU,zU,zU,zU,zU,zU,zU,zU,zU,zU,zU,zU,zU,zU,zU,zU,zU,zU,zU,zU,zU,zU,zU,zU,zU,zU,zU,zU,zU,zU,zU,vB false,.sl 0 ([]) true,.sl 0 ([]) true,vI 1,.sl 0 ([]) true,vI ((Av (bP c).sets (bP c).ways).ways),.sl 1 ((Av (bP c).sets (bP c).ways).sets.map bC) false,vI ((Av (bP c).sets (bP c).ways).ways),.sl 1 ((Av (bP c).sets (bP c).ways).sets.map bC) false,.sl 0 ([]) true,vI 0,vI 0,.v (.string (qK m)),.sl 2 (XX.slots.map gsL) false,vU XX.hist,.sl 1 (XX.rets.map eX) false,vI 0,.sl 0 ([]) true]) rfl<|rSt rfl<|rE 27<|cO ?_;exact⟨_,rfl,tvT,rfl,Sub.agg ⟨Sub.refl _,Sub.refl _,Sub.refl _,Sub.refl _,Sub.refl _,Sub.refl _,Sub.refl _,Sub.refl _,Sub.refl _,Sub.refl _,Sub.refl _,(by show Sub (.sl 1 (List.drop 0 (List.take (min prog.length 64) (prog.map eX))) false) (.sl 1 ((prog.take (min prog.length 64)).map eX) false);rw[cA, ←fV];exact Sub.refl _),Sub.refl _,Sub.refl _,Sub.refl _,Sub.refl _,Sub.refl _,Sub.refl _,Sub.refl _,Sub.refl _,Sub.refl _,Sub.refl _,Sub.refl _,Sub.refl _,Sub.refl _,Sub.refl _,Sub.refl _,Sub.refl _,Sub.refl _,Sub.refl _,Sub.refl _,Sub.refl _,Sub.refl _,Sub.refl _,Sub.refl _,Sub.refl _,Sub.refl _,Sub.refl _,Sub.refl _,Sub.refl _,Sub.refl _,Sub.refl _,Sub.refl _,Sub.refl _,Sub.refl _,Sub.refl _,Sub.refl _,oG 2 false,oG 17 false,Sub.refl _,oG 2 false,Sub.refl _,Sub.refl _,Sub.refl _,Sub.refl _,oG 4 false,Sub.refl _,Sub.refl _,Sub.refl _,Sub.refl _,Sub.refl _,Sub.refl _,Sub.refl _,oG 9 false,trivial⟩⟩
end Go.Proofs.YtlhofpglndhfaaaGreatDoor
