/- Joined texts. -/
import Derived.Test.YtlhofpglndhfaaaGreatDoorS201
import Derived.Test.YtlhofpglndhfaaaGreatDoorS222
import Derived.Test.YtlhofpglndhfaaaGreatDoorS224
import Derived.Test.YtlhofpglndhfaaaGreatDoorS228
set_option linter.unusedVariables false
set_option linter.unusedSimpArgs false
namespace Go.Proofs.YtlhofpglndhfaaaGreatDoor
open Go.RowKit
structure Req where
 kind:Int
 line:Nat
 left:Int
 data:ByteArray
structure Wy where
 line:Nat
 dirty:Bool
 data:ByteArray
structure Ca where
 ways:Int
 sets:List (List Wy)
structure Pt where
 addr:Nat
 data:ByteArray
structure Gs where
 pc:Nat
 next:Nat
structure Gu where
 slots:List Gs
 hist:Nat
 rets:List Nat
structure Ft where
 pc:Nat
 guess:Nat
structure Cf where
 mode:Int
 width:Int
 rob:Int
 queue:Int
 stores:Int
 slots:Int
 sets:Int
 ways:Int
 lat:List Int
 tables:Bool
 tape:List Nat
structure Ent where
 no:Int
 pc:Nat
 i:SI
 guess:Nat
 is:Int
 left:Int
 value:Nat
 next:Nat
 addr:Nat
 halt:Int
 took:Int
 known:Bool
 filled:Bool
structure Co where
 conf:Cf
 prog:List Nat
 cycle:Int
 r:Nat→Nat
 fetch:Nat
 stop:Bool
 fetched:List Ft
 rob:List Ent
 next:Int
 stores:List Pt
 data:Ca
 words:Ca
 bus:List Req
 asked:Int
 guessed:Int
 mem:ByteArray
 guess:Gu
 halt:Int
 retired:List Sp
def nE:ByteArray:=⟨#[]⟩
def Cd:Ent:=⟨0,0,Zi,0,0,0,0,0,0,0,0,false,false⟩
def JB:Req:=⟨0,0,0,nE⟩
def pD:Wy:=⟨0,false,nE⟩
def bG(n lo hi:Int):Int:=if (if n<lo then lo else n)>hi then hi else (if n<lo then lo else n)
def bO(c:Cf):Cf:=
 {mode:=bG c.mode 0 2,width:=bG c.width 1 2,rob:=bG c.rob 2 8,queue:=bG c.queue 1 4,stores:=bG c.stores 1 4,slots:=bG c.slots 2 6
  sets:=if bG c.sets 1 4=3 then 2 else bG c.sets 1 4,ways:=bG c.ways 1 2
  lat:=(c.lat.take 64).map λ n=>bG n 1 8,tables:=c.tables,tape:=c.tape.take 64}
def inI(n lo hi:Int):Bool:=decide (n≥lo)&&decide (n≤hi)
def tD(c:Cf):Bool:=
 (c.lat.all λ n=>inI n 1 8)&&inI c.mode 0 2&&inI c.width 1 2&&inI c.rob 2 8&&inI c.queue 1 4&&inI c.stores 1 4&&inI c.slots 2 6&&inI c.sets 1 4&&decide (c.sets≠3)&&inI c.ways 1 2&&decide (c.lat.length≤64)&&decide (c.tape.length≤64)
def kK(c:Cf)(k:Int):Int:=
 match (bO c).lat with
 |[]=>1
 |l=>l.getD ((max k 0).toNat % l.length) 1
def xN(c:Cf)(k:Int)(pc:Nat):Nat:=
 match (bO c).tape with
 |[]=>up4 pc
 |l=>l.getD ((max k 0).toNat % l.length) 0
def lineOf(a:Nat):Nat:=a - a % 16
def oY(q:List Req)(kind:Int)(line:Nat)(left:Int)(data:ByteArray):List Req:=q++[⟨kind,line,max left 1,data⟩]
def dO(q:List Req):List Req×Req×Bool:=
 match q with
 |[]=>([],JB,false)
 |x::r=>if wrap64 (x.left - 1)>0 then ({x with left:=wrap64 (x.left - 1)}::r,JB,false)else (r,{x with left:=wrap64 (x.left - 1)},true)
def DE(q:List Req)(line:Nat)(kind:Int):Bool:=q.any λ x=>decide (x.line=line)&&decide (x.kind=kind)
def mU(q:List Req):Nat:=(q.filter λ x=>decide (x.kind≠4)).length
def xO(c:Ca)(line:Nat):Nat:=line / 16 % c.sets.length
def iZ:List Wy→Nat→Option Nat
 |[],_=>none
 |w::l,line=>if w.line=line then some 0 else (iZ l line).map (· +1)
def wD(c:Ca)(k:Nat)(set:List Wy):Bool:=
 decide ((set.length:Int)≤c.ways)&&(List.range set.length).all λ at_=>match set[at_]? with
  |some w=>decide (lineOf w.line=w.line)&&decide (xO c w.line=k)&&(decide (w.data.size=0)||decide (w.data.size=16))&&(iZ (set.take at_) w.line).isNone
  |none=>true
def iW(c:Ca):Bool:=
 (decide (c.sets.length=1)||decide (c.sets.length=2)||decide (c.sets.length=4))&&(decide (c.ways=1)||decide (c.ways=2))&&(List.range c.sets.length).all λ k=>match c.sets[k]? with
  |some s=>wD c k s
  |none=>true
def Ce(sets ways:Int):Ca:=⟨bG ways 1 2,List.replicate (if bG sets 1 4=3 then 2 else bG sets 1 4).toNat []⟩
def eR{α:Type}(l:List α)(k:Nat):List α:=(match l[k]? with|some x=>[x]|none=>[])++l.take k++l.drop (k+1)
def nL(c:Ca)(k:Nat)(set:List Wy):Ca:=⟨c.ways,c.sets.set k set⟩
def aX(c:Ca)(line:Nat):Nat×Option Nat:=
 if iW c=true then (xO c (lineOf line),iZ ((c.sets[xO c (lineOf line)]?).getD []) (lineOf line))else (0,none)
def kD(c:Ca)(k:Nat):List Wy:=(c.sets[k]?).getD []
def mL(c:Ca)(line:Nat):Ca:=
 match aX c line with
 |(k,some j)=>nL c k (eR (kD c k) j)
 |(_,none)=>c
def cP(d:ByteArray):ByteArray:=if d.size=16 then d else nE
def modHd{α:Type}(f:α→α):List α→List α
 |[]=>[]
 |x::l=>f x::l
def mF(c:Ca)(line:Nat)(data:ByteArray)(dirty:Bool):Ca×Wy×Bool:=
 if iW c=true then
  match aX c line with
  |(k,some j)=>(nL c k (modHd (λ w=>{w with data:=if (cP data).size=0 then w.data else cP data,dirty:=w.dirty||dirty}) (eR (kD c k) j)),pD,false)
  | (k,none)=>
   if ((kD c k).length:Int)=c.ways then
    (nL c k (⟨lineOf line,dirty,cP data⟩::(kD c k).dropLast),(kD c k).getLast?.getD pD,true)
   else (nL c k (⟨lineOf line,dirty,cP data⟩::kD c k),pD,false)
 else (c,pD,false)
def yO(d:ByteArray)(from_:Nat)(b:ByteArray):ByteArray:=d.extract 0 from_++b++d.extract (from_+b.size) d.size
def mV(c:Ca)(addr:Nat)(bytes:ByteArray):Ca×Bool:=
 match aX c addr with
 | (k,some j)=>
  match (kD c k)[j]? with
  |some w=>if w.data.size=0∨bytes.size+addr % 16>16 then (c,false)
   else (nL c k (modHd (λ w=>{w with data:=yO w.data (addr % 16) bytes,dirty:=true}) (eR (kD c k) j)),true)
  |none=>(c,false)
 |(_,none)=>(c,false)
def mW(c:Ca)(line:Nat):Ca:=
 match aX c line with
 |(k,some j)=>nL c k ((kD c k).modify j λ w=>{w with dirty:=false})
 |(_,none)=>c
def cM(c:Ca):Option Wy:=if iW c=true then c.sets.flatten.find? (·.dirty)else none
def wR(m:ByteArray)(p:Pt):ByteArray:=
 if p.addr<m.size then m.extract 0 p.addr++p.data.extract 0 (min p.data.size (m.size - p.addr))++m.extract (p.addr+min p.data.size (m.size - p.addr)) m.size else m
def mG(m:ByteArray)(l:List Pt):ByteArray:=l.foldl wR m
def bX(q:List Req):List Pt:=(q.filter λ x=>decide (x.kind=4)).map λ x=>⟨x.line,x.data⟩
def fW(q:List Req)(m:ByteArray):ByteArray:=mG m (bX q)
def iD(c:Ca):List Pt:=c.sets.flatten.map λ w=>⟨w.line,w.data⟩
def Am(c:Ca)(q:List Req)(m:ByteArray):ByteArray:=mG (fW q m) (iD c)
def Ko(stores:List Pt)(c:Ca)(q:List Req)(m:ByteArray):ByteArray:=mG (Am c q m) stores
def AE(m:ByteArray)(line:Nat):ByteArray:=if lineOf line<m.size then m.extract (lineOf line) (lineOf line+min (m.size - lineOf line) 16)else nE
def Yo:Gu:=⟨List.replicate 8 ⟨0,0⟩,0,[]⟩
def rX(g:Gu):Bool:=decide (g.slots.length=8)&&decide (g.hist<8)&&decide (g.rets.length≤4)
def gP(g:Gu)(pc:Nat):Nat:=(pc / 4 ^^^ g.hist) % 8
def Qf(i:SI):Bool:=(decide (i.op=3)||decide (i.op=4))&&decide (i.rd=1)
def FB(i:SI):Bool:=decide (i.op=4)&&decide (i.rd=0)&&decide (i.rs1=1)
def wE(g:Gu)(pc:Nat)(i:SI):Nat:=
 if rX g=true∧kindOf i.op=5 then
  if FB i=true∧0<g.rets.length then g.rets.getLast?.getD 0
  else match g.slots[gP g pc]? with
   |some s=>if s.pc=pc∧ ¬ (s.pc=0∧s.next=0)then s.next else up4 pc
   |none=>up4 pc
 else up4 pc
def gW(g:Gu)(pc next:Nat)(i:SI):Gu:=
 if rX g=true∧kindOf i.op=5 then
  {slots:=g.slots.set (gP g pc) ⟨pc,next⟩
   hist:=(2 * g.hist+(if next≠up4 pc then 1 else 0)) % 8
   rets:=if Qf i=true then (if (g.rets++[up4 pc]).length>4 then (g.rets++[up4 pc]).drop 1 else g.rets++[up4 pc])
    else if FB i=true∧0<g.rets.length then g.rets.dropLast else g.rets}
 else g
@[reducible] def Ctx.at(C:Ctx)(s:Nat):Ctx:={C with fr:=s}
def FC(r:AV):Nat→AV:=λ i=>match i with|0=>r|_=>.any
def abG(C:Ctx)(fn:Func)(Post:AV→AH→Prop)(s:Nat):AEx→ASt→Prop
 | .exit _,_=>False
 |_,st=>∃ rs,resA C st fn.results.toList=some rs∧GhostN ⟨FC (CO rs),st.h,st.n⟩ (λ stg=>∃ r h' σ,Post r h'∧keepB s σ (s+1)=true∧Weak stg ⟨FC r,h',s+1⟩ σ)
def Dr(h:AH):Nat→Bool
 |0=>true
 |k+1=>match h k with|some _=>Dr h k|none=>false
theorem tV{h:AH}:∀ {s:Nat},Dr h s=true→∀ x,x<s→h x≠none
 |0,_,x,hx=>absurd hx (dT _)
 | k+1,hf,x,hx=>by
  simp only[Dr]at hf;split at hf
  ·rename_i b hb;rcases al_Nat_lt_or_ge x k with h|h
   ·exact tV hf x h
   ·have:x=k:=by omega
    subst this;rw[hb];simp
  ·cases hf
theorem JI:∀ {fr:Nat} {σ:Nat→Nat} {n:Nat},keepB fr σ n=true→∀ x,x<fr→σ x=x∧x<n
 |0,_,_,_,x,hx=>absurd hx (dT _)
 | k+1,σ,n,hf,x,hx=>by
  simp only[keepB]at hf;split at hf
  ·rename_i h1 h2;rcases al_Nat_lt_or_ge x k with h|h
   ·exact JI hf x h
   ·have:x=k:=by omega
    subst this;exact⟨aK h1,aP h2⟩
  ·cases hf
section
variable (S:Nat→Prop)(w:World)(β:Bt)
def OwnB(b:Nat):Prop:=∃ x l,β x=some l∧l.blk=b
structure FrP(s:Nat)(S':Nat→Prop)(w':World)(β':Bt):Prop where
 hS:∀ b,S b→S' b
 hE:Evo S w w'
 sz:w.heap.size≤w'.heap.size
 keep:∀ x l,x<s→β x=some l→β' x=some l
 own:∀ x l,β' x=some l→OwnB β l.blk∨w.heap.size≤l.blk
 nw:∀ b,S' b→S b∨w.heap.size≤b∨OwnB β b
 still:∀ b,b<w.heap.size→ ¬ OwnB β b→w'.heap[b]?=w.heap[b]?
theorem Tg{S:Nat→Prop}{w w' w2:World}(h:Evo S w w')(e:w2.heap=w'.heap):Evo S w w2:=⟨λ b hb=>by rw[e];exact h.stable b hb,λ b cs t fr hb=>by rw[e];exact h.shape b cs t fr hb⟩
def FD(s:Nat):Inv s where
 p:=FrP S w β s
 mono:=by
  intro B S1 w1 β1 s1 S2 w2 β2 P K
  refine⟨λ b hb=>K.hS b (P.hS b hb),P.hE.trans P.hS K.hE,aL P.sz K.hB.size,λ x l hx hl=>K.hle _ _ (P.keep x l hx hl),λ x l hl=>?_,λ b hb=>?_,λ b hb hn=>?_⟩
  ·rcases K.hdom x l hl with h|⟨_,h|⟨y,k,h1,h2⟩⟩
   ·exact P.own x l h
   ·exact .inr (aL P.sz h)
   ·rw[←h2];exact P.own y k h1
  ·rcases K.hN b hb with h|⟨_,h|⟨y,k,h1,h2⟩⟩
   ·exact P.nw b h
   ·exact .inr (.inl (aL P.sz h))
   ·rcases P.own y k h1 with h|h
    ·exact .inr (.inr (h2 ▸ h))
    ·exact .inr (.inl (h2 ▸ h))
  ·refine (K.hO b (Nat.lt_of_lt_of_le hb P.sz) λ y k h1 h2=>?_).trans (P.still b hb hn)
   rcases P.own y k h1 with h|h
   ·exact hn (h2 ▸ h)
   ·rw[h2]at h;omega
 weak:=by
  intro S1 w1 β1 σ n P hk
  refine⟨P.hS,P.hE,P.sz,λ x l hx hl=>?_,λ x l hl=>?_,P.nw,P.still⟩
  ·obtain⟨h1,h2⟩:=JI hk x hx
   simp only[h2,kW,h1]
   exact P.keep x l hx hl
  ·by_cases hx:x<n
   ·rw[if_pos hx]at hl;exact P.own _ l hl
   ·rw[if_neg hx]at hl;cases hl
 frz:=by
  intro S1 w1 β1 x l P hl
  refine⟨λ b hb=>.inl (P.hS b hb),P.hE,P.sz,P.keep,P.own,λ b hb=>?_,P.still⟩
  rcases hb with hb|rfl
  ·exact P.nw b hb
  ·exact (P.own x l hl).elim (λ h=>.inr (.inr h)) λ h=>.inr (.inl h)
 heap:=by
  intro S1 w1 w2 β1 P e
  exact⟨P.hS,Tg P.hE e,by rw[e];exact P.sz,P.keep,P.own,P.nw,λ b hb hn=>by rw[e];exact P.still b hb hn⟩
end
theorem HCall.intro{C:Ctx}{s:Nat}(hC:CtxOk (C.at s)){f:FuncId}{fn:Func}{body:Code}{args:List AV}{h:AH}{Post:AV→AH→Prop}(hf:C.P.funcs[f]?=some fn)(hb:fn.body=some body)(hnm:(fn.name== "runtime.NumGoroutine")=false)
  (hN:uD fn.ntmps body=true) (hlen:Nat.ble args.length fn.ntmps=true) (hfull:Dr h s=true) (hw:fZ (C.at s) (bT (C.at s)) body ⟨argsT args,h,s⟩ (abG (C.at s) fn Post s)) (hdf:C.df=[]:=by rfl):pL C.P C.G f args h s Post:=by
 refine⟨⟨fn,hf,by rw[hb];rfl,hnm⟩,λ B S w β vs H hdom hG hargs=>?_⟩;have hlen:=aP hlen;refine calls_of_wp hf hb ?_;have hB0:({w with heap:=w.heap.extract 0 B}:World).heap.size=B:=by
  show (w.heap.extract 0 B).size=B;rw[Array.size_extract];have:=H.big;omega
 have hget:∀ b,b<B→(w.heap.extract 0 B)[b]?=w.heap[b]? :=λ b hb=>by
  rw[jS,if_pos (by have:=H.big;omega),bR]
 have M0:SimD (C.at s) (FD S w β s) {w with heap:=w.heap.extract 0 B} S fn.ntmps (· <s) (argsT args) h {tmps:=vs.toArray++Array.replicate (fn.ntmps - vs.toArray.size) undef,defers:=[]} w S β:=by
  have hl:vs.length=args.length:=hargs.1.symm;refine⟨λ i=>?_,by rw[hB0];exact H,⟨rfl,rfl,rfl,by rw[hB0];exact H.big,λ b hb=>?_⟩,hdom,hdf.symm,by simp;omega,hG,λ _ h=>.inl h,⟨λ _ h=>h,Evo.refl _ _,aC _,λ _ _ _ h=>h,λ x l h=>.inl ⟨x,l,h,rfl⟩,λ _ h=>.inl h,λ _ _ _=>rfl⟩⟩
  ·rw[zH]
   cases ha:args[i]? with
   |none=>exact .any _
   | some x=>
    have hi:i<vs.length:=by rw[hl];exact (DK.1 ha).1
    have hv:vs[i]?=some vs[i]:=aA hi;have:(vs.toArray++Array.replicate (fn.ntmps - vs.toArray.size) undef).getD i undef=vs[i]:=by
     rw[aI,dN (by simpa using hi),dY,hv];rfl
    rw[this];exact hargs.2 i x _ ha hv
  ·rw[hB0]at hb;exact (hget b hb).symm
 refine wp_mono (Cp hC body hN ⟨argsT args,h,s⟩ _ hw _ w S β M0) ?_;rintro e a' w' ⟨e',st,S',β',rfl,hfin,M⟩;have fin:(∃ rs,resA (C.at s) st fn.results.toList=some rs∧GhostN ⟨FC (CO rs),st.h,st.n⟩ (λ stg=>∃ r h' σ,Post r h'∧keepB s σ (s+1)=true∧Weak stg ⟨FC r,h',s+1⟩ σ))→a'.defers=[]∧∃ v,(results fn a'.tmps).run C.P w'=.ok v w'∧∃ v' S2 β2 r h',Post r h'∧Ending.returned v=.returned v'∧Rep S2 w' β2 r v'∧SimH B S2 w' β2 h'∧StepK B S w β s S2 w' β2:=by
  rintro ⟨rs,h1,stg,hgs,r,h',σ,hP,hk,hW⟩;obtain⟨t,hh,n⟩:=st;obtain⟨us,g1,g2⟩:=II hC M _ rs h1;have hret:Rep S' w' β' (CO rs) (if h:us.toArray.size=1 then us.toArray[0]else .tuple us.toArray):=by
   match rs,us,g2 with
   |[],us,g2=>
    have:us=[]:=bA g2.1.symm;subst this
    exact .tup [] #[] rfl λ i a u p=>by simp at p
   |[x],us,g2=>
    match us,g2 with
    |[u],g2=>simpa [CO]using g2.2 0 x u rfl rfl
    |[],g2=>exact absurd g2.1 (by simp)
    |_::_::_,g2=>exact absurd g2.1 (by simp)
   | x::y::zs,us,g2=>
    have hne: ¬ us.toArray.size=1:=by
     have:=g2.1;simp at this⊢;omega
    rw[dif_neg hne];exact .tup _ _ (by simpa using g2.1) λ i a u p q=>g2.2 i a u p (by simpa using q)
  refine⟨M.df.trans hdf,_,xY _ us g1 fn rfl,?_⟩;generalize hv:(if h:us.toArray.size=1 then us.toArray[0]else .tuple us.toArray)=v at hret⊢;have M1:SimD (C.at s) (FD S w β s) {w with heap:=w.heap.extract 0 B} S 1 (· <n) (FC (CO rs)) hh {tmps:= #[v],defers:=a'.defers} w' S' β':=by
   refine⟨λ i=>?_,M.H,M.B,M.dom,M.df,rfl,M.G,M.nw,M.iv⟩
   cases i with
   |zero=>exact hret
   |succ i=>exact .any _
  obtain⟨S2,M2⟩:=nG hgs M1;have M3:=pJ hW hk M2;have hr:=M3.T 0;refine⟨v,S2,_,r,h',hP,rfl,hr,by have:=M3.H;rwa [hB0]at this,?_⟩;have P:FrP S w β s S2 w' _:=M3.iv;have hfl:=tV hfull;refine⟨P.hS,P.hE,⟨M3.B.os,M3.B.tape,M3.B.output,P.sz,λ b hb=>?_⟩,λ x l hl=>P.keep x l (hdom x l hl) hl,λ x l hl=>?_,λ b hb=>?_,λ b hb hn=>P.still b hb λ⟨x,l,h1,h2⟩=>hn x l h1 h2⟩
  ·rw[M3.B.block b (by rw[hB0];exact hb)];exact hget b hb
  ·rcases al_Nat_lt_or_ge x s with hx|hx
   ·obtain⟨blk,hblk⟩:=Dv.1 (hfl x hx);obtain⟨l0,_,_,_,k1,_⟩:=H.own x blk hblk;have:=P.keep x l0 hx k1;rw[hl]at this;injection this with this;subst this;exact .inl k1
   ·have hx':x=s:=by
     have:=M3.dom x l hl;show x=s;have:x<s+1:=this;omega
    refine .inr ⟨hx',?_⟩;rcases P.own x l hl with ⟨y,k,h1,h2⟩|h
    ·exact .inr ⟨y,k,h1,h2⟩
    ·exact .inl h
  ·rcases P.nw b hb with h|h|⟨y,k,h1,h2⟩
   ·exact .inl h
   ·exact .inr ⟨aL H.big h,.inl h⟩
   ·rcases M3.nw b hb with h|h
    ·exact .inl h
    ·exact .inr ⟨by rwa [hB0]at h,.inr ⟨y,k,h1,h2⟩⟩
 cases e' with
 |normal=>exact fin hfin
 |ret=>exact fin hfin
 |exit i=>exact hfin.elim
theorem Lk{S:Nat→Prop}{w:World}{β:Bt}{a:AV}{v:Value}(hr:Rep S w β a v):∀ {β':Bt} {ρ:Nat→Nat},(∀ x l,β x=some l→β' (ρ x)=some l)→Rep S w β' (uV ρ a) v:=by
 induction hr with
 |v x=>intro β' ρ _;exact .v x
 |agg cs vs hl h1 h ih=>
  intro β' ρ hb;refine .agg _ vs (by rw[tI];exact hl) h1 λ i a u p q=>?_;rw[pI]at p;obtain⟨y,hy,rfl⟩:=wV.1 p
  exact ih i y u hy q hb
 |tup cs vs hl h ih=>
  intro β' ρ hb;refine .tup _ vs (by rw[tI];exact hl) λ i a u p q=>?_;rw[pI]at p;obtain⟨y,hy,rfl⟩:=wV.1 p
  exact ih i y u hy q hb
 |sl rs rows clip A c b o u hc hm hcl hrs hA hw h1 hr ih=>intro β' ρ _;exact .sl rs rows clip A c b o u hc hm hcl hrs hA hw h1 hr
 |dp rs col row b o u hrs hb hw h1 hr ih=>intro β' ρ _;exact .dp rs col row b o u hrs hb hw h1 hr
 |ptr s col l hl=>intro β' ρ hb;exact .ptr _ col l (hb _ _ hl)
 |ptr2 s row col l hl=>intro β' ρ hb;exact .ptr2 _ row col l (hb _ _ hl)
 |osl s lo len clip l A c hl hc hm hcl hA cs e fr hb room=>intro β' ρ hb';exact .osl _ lo len clip l A c (hb' _ _ hl) hc hm hcl hA cs e fr hb room
 | clo f first caps vs us hl h hl' h' ih ih'=>
  intro β' ρ hb;refine .clo f _ _ vs us (by rw[tI];exact hl) (λ i a u p q=>?_) (by rw[tI];exact hl') λ i a u p q=>?_
  ·rw[pI]at p;obtain⟨y,hy,rfl⟩:=wV.1 p;exact ih i y u hy q hb
  ·rw[pI]at p;obtain⟨y,hy,rfl⟩:=wV.1 p
   exact ih' i y u hy q hb
 |optT g a x hg h ih=>intro β' ρ hb;exact .optT g _ x hg (ih hb)
 |optF g a hg=>intro β' ρ _;exact .optF g _ hg
 |any x=>intro β' ρ _;exact .any x
theorem Qt{S:Nat→Prop}{w:World}{β β':Bt}{ρ:Nat→Nat}{l:Loc}{cs:Array Value}{blk:Blk}(k:AN S w β l cs blk)(hb:∀ x l,β x=some l→β' (ρ x)=some l):AN S w β' l cs (Fn ρ blk):=by
 cases blk with
 |box cells=>
  intro j a hj;rw[pI]at hj;obtain⟨y,hy,rfl⟩:=wV.1 hj;obtain⟨u,p1,p2,p3⟩:=k j y hy
  exact⟨u,p1,p2,Lk p3 hb⟩
 |arr rows rs=>exact k
 |row cells=>
  refine⟨k.1,λ j a hj=>?_⟩;rw[pI]at hj;obtain⟨y,hy,rfl⟩:=wV.1 hj;obtain⟨u,p1,p2,p3⟩:=k.2 j y hy;exact⟨u,p1,p2,Lk p3 hb⟩
theorem NQ{S:Nat→Prop}{w:World}{β:Bt}{ρ:Nat→Nat}{n:Nat}{l:Loc}{cs:Array Value}{blk:Blk}(hb:tP n blk=true)(k:AN S w β l cs (Fn ρ blk)):AN S w (λ s=>if s<n then β (ρ s)else none) l cs blk:=by
 cases blk with
 |box cells=>
  intro j a hj;obtain⟨u,q1,q2,q3⟩:=k j (uV ρ a) (by rw[pI,hj];rfl)
  exact⟨u,q1,q2,Cm _ _ _ (aC _) (sN _ cells (by simpa [tP]using hb) j a hj) q3⟩
 |arr rows rs=>exact k
 |row cells=>
  refine⟨k.1,λ j a hj=>?_⟩;obtain⟨u,q1,q2,q3⟩:=k.2 j (uV ρ a) (by rw[pI,hj];rfl);exact⟨u,q1,q2,Cm _ _ _ (aC _) (sN _ cells (by simpa [tP]using hb) j a hj) q3⟩
def FE(ρ:Nat→Nat)(s s2:Nat):Nat→Nat:=λ x=>match Nat.beq x s with|true=>s2|false=>ρ x
theorem vJ(ρ:Nat→Nat)(s s2:Nat):FE ρ s s2 s=s2:=by simp[FE]
theorem rA(ρ:Nat→Nat){s s2 x:Nat}(h:x≠s):FE ρ s s2 x=ρ x:=by
 unfold FE;have:Nat.beq x s=false:=by rw[←eO];exact λ e=>h (aK e)
 rw[this]
theorem pL.frame{P:Program}{G:Nat→Option (List AV)}{f:FuncId}{args:List AV}{h:AH}{s:Nat}{Post:AV→AH→Prop}(H:pL P G f args h s Post)(ρ:Nat→Nat)(K:AH)(s2:Nat)(hfull:Dr h s=true)(hlt:∀ x,h x≠none→x<s)
  (h1:∀ x blk,h x=some blk→ρ x<s2∧tP s blk=true∧K (ρ x)=some (Fn ρ blk)) (h2:∀ x y,x<s→y<s→ρ x=ρ y→x=y) (ha:pX s args=true)
  (Post':AV→AH→Prop) (hPost:∀ r h',Post r h'→∃ K',Post' (uV (FE ρ s s2) r) K'∧∀ y blk,K' y=some blk→(∃ x blk0,h' x=some blk0∧y=FE ρ s s2 x∧blk=Fn (FE ρ s s2) blk0)∨(K y=some blk∧∀ x,x<s→ρ x≠y)):
  pL P G f (Cl ρ args) K s2 Post':=by
 refine⟨H.1,λ B S w β vs HK hdom hG hargs=>?_⟩;have hfl:=tV hfull;have hβ:∀ x,x<s→∃ l,β (ρ x)=some l∧K (ρ x)≠none:=λ x hx=>by
  obtain⟨blk,hblk⟩:=Dv.1 (hfl x hx);obtain⟨_,_,e⟩:=h1 x blk hblk;obtain⟨l,_,_,_,k1,_⟩:=HK.own _ _ e;exact⟨l,k1,by rw[e];simp⟩
 have HS:SimH B S w (λ x=>if x<s then β (ρ x)else none) h:=by
  refine⟨λ x blk hx=>?_,λ x x' l l' hx hx' e e' hb=>?_,HK.lt,HK.big⟩
  ·obtain⟨_,b1,e⟩:=h1 x blk hx;have hxs:=hlt x (by rw[hx];simp);obtain⟨l,cs,t,fr,k1,k2,k3,k4,k5,k6⟩:=HK.own _ _ e;exact⟨l,cs,t,fr,by simp only[hxs,kW];exact k1,k2,k3,k4,k5,NQ b1 k6⟩
  ·have g1:=hlt x hx;have g2:=hlt x' hx';rw[if_pos g1]at e;rw[if_pos g2]at e';exact h2 x x' g1 g2 (HK.inj _ _ _ _ (hβ x g1).choose_spec.2 (hβ x' g2).choose_spec.2 e e' hb)
 have hL:RepL S w (λ x=>if x<s then β (ρ x)else none) args vs:=by
  refine⟨by rw[←hargs.1,tI],λ i a u p q=>?_⟩;exact Cm _ _ _ (aC _) (sN _ args ha i a p) (hargs.2 i (uV ρ a) u (by rw[pI,p];rfl) q)
 refine (H.2 B S w _ vs HS (λ x l hl=>?_) hG hL).mono ?_
 ·by_cases hx:x<s
  ·exact hx
  ·rw[if_neg hx]at hl;cases hl
 rintro e w' ⟨v,S',βc,r,h',hP,rfl,hr,HS',KK⟩;obtain⟨K',hP',h3⟩:=hPost r h' hP;have old:∀ x l,(if x<s then β (ρ x)else none)=some l→x<s∧β (ρ x)=some l:=λ x l hl=>by
  by_cases hx:x<s
  ·rw[if_pos hx]at hl;exact⟨hx,hl⟩
  ·rw[if_neg hx]at hl;cases hl
 have hmap:∀ x l,βc x=some l→(λ y=>if y=s2 then βc s else β y) (FE ρ s s2 x)=some l:=λ x l hl=>by
  rcases KK.hdom x l hl with h|⟨h,_⟩
  ·obtain⟨hx,hx'⟩:=old x l h;have:ρ x<s2:=hdom _ _ hx';rw[rA ρ (by omega)];show (if ρ x=s2 then βc s else β (ρ x))=some l;rw[if_neg (by omega)];exact hx'
  ·subst h;rw[vJ];show (if s2=s2 then βc x else β s2)=some l;rw[if_pos rfl];exact hl
 have hle:LT β (λ y=>if y=s2 then βc s else β y):=λ y l hl=>by
  have:=hdom y l hl;show (if y=s2 then βc s else β y)=some l;rw[if_neg (by omega)];exact hl
 have other:∀ y blk l,K y=some blk→β y=some l→(∀ x,x<s→ρ x≠y)→∀ x k,(if x<s then β (ρ x)else none)=some k→k.blk≠l.blk:=λ y blk l hy hl hne x k hk e=>by
  obtain⟨hx,hx'⟩:=old x k hk;exact hne x hx (HK.inj _ _ _ _ (hβ x hx).choose_spec.2 (by rw[hy];simp) hx' hl e)
 refine⟨v,S',λ y=>if y=s2 then βc s else β y,_,K',hP',rfl,Lk hr hmap,⟨λ y blk hy=>?_,λ y y' l l' hy hy' e1 e2 hb=>?_,HS'.lt,HS'.big⟩,⟨KK.hS,KK.hE,KK.hB,hle,λ y l hl=>?_,λ b hb=>?_,λ b hb hn=>KK.hO b hb λ x k hk=>?_⟩⟩
 ·rcases h3 y blk hy with ⟨x,blk0,e1,rfl,rfl⟩|⟨e1,hne⟩
  ·obtain⟨l,cs,t,fr,k1,k2,k3,k4,k5,k6⟩:=HS'.own x blk0 e1;exact⟨l,cs,t,fr,hmap x l k1,k2,k3,k4,k5,Qt k6 hmap⟩
  ·obtain⟨l,cs,t,fr,k1,k2,k3,k4,k5,k6⟩:=HK.own y blk e1;have hdiff:=other y blk l e1 k1 hne;have hlt:=fP k2;refine⟨l,cs,t,fr,hle _ _ k1,(KK.hO _ hlt hdiff).trans k2,k3,k4,λ hS=>?_,k6.mono KK.hS KK.hE hle⟩;rcases KK.hN _ hS with h|⟨_,h|⟨x,k,q1,q2⟩⟩
   ·exact k5 h
   ·omega
   ·exact hdiff x k q1 q2
 ·
  have sort:∀ y l,K' y≠none→(if y=s2 then βc s else β y)=some l→(∃ x,h' x≠none∧βc x=some l∧y=FE ρ s s2 x)∨(K y≠none∧β y=some l∧∀ x,x<s→ρ x≠y):=λ y l hy hl=>by
   obtain⟨blk,hblk⟩:=Dv.1 hy;rcases h3 y blk hblk with ⟨x,blk0,e1,e2,_⟩|⟨e1,hne⟩
   ·obtain⟨l0,_,_,_,k1,_⟩:=HS'.own x blk0 e1;have:=hmap x l0 k1;rw[←e2]at this;rw[show (λ y=>if y=s2 then βc s else β y) y=(if y=s2 then βc s else β y)from rfl,hl]at this;injection this with this;subst this;exact .inl ⟨x,by rw[e1];simp,k1,e2⟩
   ·obtain⟨l0,_,_,_,k1,_⟩:=HK.own y blk e1;have hys:y<s2:=hdom y l0 k1;rw[if_neg (by omega)]at hl;exact .inr ⟨by rw[e1];simp,hl,hne⟩
  have mix:∀ y l x l',K y≠none→β y=some l→(∀ x,x<s→ρ x≠y)→h' x≠none→βc x=some l'→l.blk≠l'.blk:=λ y l x l' hy hl hne hx hl' e=>by
   obtain⟨blk,hblk⟩:=Dv.1 hy;have hdiff:=other y blk l hblk hl hne;obtain⟨l0,_,_,_,k1,k2,_⟩:=HK.own y blk hblk;rw[hl]at k1;injection k1 with k1;subst k1;have hlt:=fP k2;rcases KK.hdom x l' hl' with h|⟨_,h|⟨z,k,q1,q2⟩⟩
   ·exact hdiff x l' h e.symm
   ·omega
   ·exact hdiff z k q1 (q2.trans e.symm)
  rcases sort y l hy e1 with ⟨x,a1,a2,a3⟩|⟨a1,a2,a3⟩<;>rcases sort y' l' hy' e2 with ⟨x',b1,b2,b3⟩|⟨b1,b2,b3⟩
  ·rw[a3,b3,HS'.inj x x' l l' a1 b1 a2 b2 hb]
  ·exact absurd hb.symm (mix y' l' x l b1 b2 b3 a1 a2)
  ·exact absurd hb (mix y l x' l' a1 a2 a3 b1 b2)
  ·exact HK.inj y y' l l' a1 b1 a2 b2 hb
 ·have hl:(if y=s2 then βc s else β y)=some l:=hl;by_cases hy:y=s2
  ·rw[if_pos hy]at hl;refine .inr ⟨hy,?_⟩;rcases KK.hdom s l hl with h|⟨_,h|⟨z,k,q1,q2⟩⟩
   ·exact absurd (old s l h).1 (dU _)
   ·exact .inl h
   ·exact .inr ⟨_,k,(old z k q1).2,q2⟩
  ·rw[if_neg hy]at hl;exact .inl hl
 ·rcases KK.hN b hb with h|⟨hB,h|⟨x,k,q1,q2⟩⟩
  ·exact .inl h
  ·exact .inr ⟨hB,.inl h⟩
  ·exact .inr ⟨hB,.inr ⟨_,k,(old x k q1).2,q2⟩⟩
 ·exact hn _ k (old x k hk).2
theorem pL.frame1{P:Program}{G:Nat→Option (List AV)}{f:FuncId}{args:List AV}{blk blk1:Blk}{r:AV}(H:pL P G f args (heapF [(0,blk)]) 1 (λ x h'=>x=r∧h'=heapF [(0,blk1)]))(b:Nat)(K:AH)(s2:Nat)(hb:b<s2)
  (hbl:tP 1 blk=true) (hK:K b=some (Fn (λ _=>b) blk)) (ha:pX 1 args=true):
  pL P G f (Cl (λ _=>b) args) K s2 (λ x h'=>x=uV (FE (λ _=>b) 1 s2) r∧h'=upd K b (some (Fn (FE (λ _=>b) 1 s2) blk1))):=by
 refine H.frame (λ _=>b) K s2 rfl (λ x hx=>?_) (λ x blk0 hx=>?_) (λ x y hx hy _=>by omega) ha _ λ r' h' hP=>?_
 ·cases x with
  |zero=>omega
  |succ x=>exact absurd rfl hx
 ·cases x with
  |zero=>injection hx with hx;subst hx;exact⟨hb,hbl,hK⟩
  |succ x=>cases hx
 ·obtain⟨rfl,rfl⟩:=hP;refine⟨_,⟨rfl,rfl⟩,λ y blk0 hy=>?_⟩;by_cases he:y=b
  ·subst he;rw[cZ]at hy;injection hy with hy;exact .inl ⟨0,blk1,rfl,rfl,hy.symm⟩
  ·rw[cA _ _ he]at hy;exact .inr ⟨hy,λ x hx e=>he e.symm⟩
theorem CtxOk.at{C:Ctx}{s:Nat}(h:CtxOk C):CtxOk (C.at s):=⟨h.ty,h.mixed,h.hH⟩
theorem FF{C:Ctx}{R:FuncId→List AV→AV→Prop}{Q:AEx→ASt→Prop}{κ:Type}(S:κ→ASt)(G:κ→Prop){a b:Code}{st:ASt}(ka:fZ C R a st (λ e st'=>match e with| .normal=>GhostN st' (λ st''=>∃ k σ,Weak st'' (S k) σ∧keepB C.fr σ (S k).n=true∧G k)|e=>Q e st'))(kb:∀ k,G k→fZ C R b (S k) Q):fZ C R (.seq a b) st Q:=
 Zh S G ka kb kU
theorem pE{C:Ctx}{fn:Func}{Post:AV→AH→Prop}{s:Nat}{st:ASt}{rs:List AV}(h1:resA C st fn.results.toList=some rs){r:AV}{h':AH}{σ:Nat→Nat}(hP:Post r h')(hk:keepB s σ (s+1)=true)(hW:Weak ⟨FC (CO rs),st.h,st.n⟩ ⟨FC r,h',s+1⟩ σ):
  ∃ rs,resA C st fn.results.toList=some rs∧GhostN ⟨FC (CO rs),st.h,st.n⟩ (λ stg=>∃ r h' σ,Post r h'∧keepB s σ (s+1)=true∧Weak stg ⟨FC r,h',s+1⟩ σ):=
 ⟨rs,h1,.mk _ (.refl _) ⟨r,h',σ,hP,hk,hW⟩⟩
theorem cB{st:ASt}{x r:AV}{hp:List (Nat×Blk)}{n:Nat}(σ:Nat→Nat)(hx:x=uV σ r)(hb:nJ n r=true)(hh:WH ⟨FC x,st.h,st.n⟩ n σ hp)(hi:DL ((hp.map (·.1)).map σ)=true):Weak ⟨FC x,st.h,st.n⟩ ⟨FC r,heapF hp,n⟩ σ:=by
 have W:=Weak.of_lists (st:=⟨FC x,st.h,st.n⟩) (l:=[(0,r)]) (hp:=hp) (n:=n) σ ⟨⟨hx,hb⟩,trivial⟩ hh hi;refine⟨λ i=>?_,W.h,W.inj⟩;have:=W.t i
 cases i with
 |zero=>exact this
 |succ i=>exact .inl rfl
def LeL(fz:Fz):List AV→List AV→Prop
 |[],[]=>True
 |a::as_,b::bs=>LeZ fz a b∧LeL fz as_ bs
 |_,_=>False
theorem LeL.get{fz:Fz}:∀ {as_ bs:List AV},LeL fz as_ bs→as_.length=bs.length∧∀ (i:Nat) a d,as_[i]?=some a→bs[i]?=some d→LeZ fz a d
 |[],[],_=>⟨rfl,λ i a d h=>by simp at h⟩
 |a::as_,b::bs,h=>by
  obtain⟨h1,h2⟩:=LeL.get h.2;refine⟨by simp[h1],λ i x y hx hy=>?_⟩
  cases i with
  |zero=>simp at hx hy;subst hx hy;exact h.1
  |succ i=>exact h2 i x y (by simpa using hx) (by simpa using hy)
 |[],_::_,h=>h.elim
 |_::_,[],h=>h.elim
theorem LeB.boxL{fz:Fz}{as_ bs:List AV}(h:LeL fz as_ bs):LeB fz (.box as_) (.box bs):=.box as_ bs h.get.1 h.get.2
def GT(st:ASt)(fz:Fz):List (Nat×AV)→Prop
 |[]=>True
 |(i,x)::l=>LeZ fz (st.t i) x∧GT st fz l
def GH(st:ASt)(fz:Fz):List (Nat×Blk)→Prop
 |[]=>True
 |(i,x)::l=>((match fz with|some (b,_,_)=>Nat.beq i b=false|none=>True)∧∃ b0,st.h i=some b0∧LeB fz b0 x)∧GH st fz l
theorem Ghost.of_lists{st:ASt}{fz:Fz}{l:List (Nat×AV)}{hp:List (Nat×Blk)}(hb:match fz with|some (x,rs,rows)=>st.h x=some (.arr rows rs)|none=>True)(ht:GT st fz l)(hh:GH st fz hp):Ghost st ⟨slotsF l,heapF hp,st.n⟩ fz:=by
 refine⟨λ x rs rows h=>(by subst h;exact hb),rfl,λ i=>?_,λ s blk hs=>?_⟩
 ·clear hh hb
  induction l with
  |nil=>exact .any _
  |cons p l ih=>
   obtain⟨j,x⟩:=p;show LeZ fz _ (slotsF _ _);simp only[slotsF]
   cases hq:Nat.beq j i with
   |true=>rw[←aK hq];exact ht.1
   |false=>exact ih ht.2
 ·clear ht hb
  induction hp with
  |nil=>cases hs
  | cons p hp ih=>
   obtain⟨j,x⟩:=p
   change heapF _ _=_ at hs
   simp only[heapF]at hs
   cases hq:Nat.beq j s with
   |true=>
    rw[hq]at hs;injection hs with hs;subst hs;rw[←aK hq];refine⟨λ x rs rows hz e=>?_,hh.1.2⟩;have:=hh.1.1;subst hz;simp only at this;rw[e]at this
    simp at this
   |false=>rw[hq]at hs;exact ih hh.2 hs
abbrev iI(n:Nat):List AV:=[.v (.int .u32 (n:Int))]
theorem rZ:∀ (l:List UInt8),iJ (l.map λ b=>[.v (.int .u8 (b.toNat:Int))])=some l
 |[]=>rfl
 |b::l=>by
  simp only[gO,iJ,rZ l];simp
theorem eQ{C:Ctx}{fn:Func}{r:AV}{st:ASt}{rs:List AV}(h1:resA C st fn.results.toList=some rs)(h2:jU st.h (CO rs))(h3:eZ (uU st.h (CO rs))=true)(h4:uU st.h (CO rs)=r):Ui C fn r st:=GP h1 h2 h3 h4
theorem fT{C:Ctx}{fn:Func}{r:AV}{st:ASt}{rs:List AV}(h1:resA C st fn.results.toList=some rs)(h4:uU st.h (CO rs)=r)(h2:jU st.h (CO rs):=by exact trivial)(h3:eZ (uU st.h (CO rs))=true:=by exact rfl):Ui C fn r st:=eQ h1 h2 h3 h4
set_option maxRecDepth 100000 in
set_option maxHeartbeats 4000000 in
theorem Gy(i:SI):bT C0 100 [siA i] (.tup [.v (.int .i64 i.rs1),.v (.int .i64 i.rs2)]):=by
 refine bT.intro c0Ok Tryz.func100 rfl rfl (by kernel_rfl) rfl<|bK<|iG rfl<|rFx (x:=.ptr 0 0) (h':=upd _ 0 (some (.box [.v (.int .i64 i.op),.v (.int .i64 i.rd),.v (.int .i64 i.rs1),.v (.int .i64 i.rs2),.v (.int .u32 ((i.imm:Nat):Int))]))) rfl rfl (rfl) (trivial)<|rOk (x:=.v (.int .i64 0)) rfl rfl rfl<|rOk (x:=.v (.int .i64 0)) rfl rfl rfl<|KJ (n':=3) rfl<|bK<|iG rfl<|rOk (x:=.ptr 0 2) rfl rfl rfl<|rOk (x:=.v (.int .i64 i.rs1)) rfl rfl rfl<|rOk (x:=.ptr 0 3) rfl rfl rfl<|rOk (x:=.v (.int .i64 i.rs2)) rfl rfl rfl<|rOk (x:=.v (.int .i64 i.rs1)) rfl rfl rfl<|rOk (x:=.v (.int .i64 i.rs2)) rfl rfl rfl<|KJ (n':=9) rfl<|cO ?_;exact GP rfl trivial rfl rfl
theorem Th{prog:List Nat}{pc:Nat}(h1:pc % 4=0)(h2:pc / 4<prog.length):∃ x,fetchP prog pc=some x∧prog[((pc / 4:Nat):Int).toNat]?=some x:=by
 refine⟨prog[pc / 4],?_,?_⟩
 ·unfold fetchP;rw[if_pos h1,aA h2]
 ·rw[Int.toNat_natCast,aA h2]
theorem Ti{prog:List Nat}{pc:Nat}(h:pc % 4≠0∨prog.length≤pc / 4):fetchP prog pc=none:=by
 unfold fetchP;split
 ·exact bM (by omega)
 ·rfl
theorem zC(a:Nat):up4 a≤4294967295:=by unfold up4;omega
theorem Wq{n:Nat}(h:n≤1000000):IntKind.wrap .u64 ((n:Int))=(n:Int):=by
 simp only[IntKind.wrap,IntKind.signed,IntKind.bits];simp;omega
set_option maxRecDepth 100000 in
set_option maxHeartbeats 4000000 in
theorem Qu(prog:List Nat)(pc:Nat)(clip:Bool)(hp:∀ x∈prog,x≤4294967295)(hl:prog.length≤1000000)(hpc:pc≤4294967295):bT C0 113 [.sl 1 (prog.map iI) clip,.v (.int .u32 (pc:Int))] (.tup [.v (.int .u32 (fetchW prog pc:Int)),.v (.bool (fetchP prog pc).isSome)]):=by
 refine bT.intro c0Ok Tryz.func113 rfl rfl (by kernel_rfl) rfl<|bK<|iG rfl<|rOk (x:=.v (.int .u32 0)) rfl rfl rfl<|rOk (x:=.v (.bool false)) rfl rfl rfl<|KJ (n':=2) rfl<|bK<|bK<|iG rfl<|rOk (x:=.v (.int .u32 (pc:Int))) rfl rfl rfl ?_;refine cS (x:=.v (.int .u32 ((pc % 4:Nat):Int))) rfl rfl rfl (by decide)<|rOk (x:=.v (.bool ((pc % 4) != 0))) rfl rfl (okB (neN _ _))<|rOk (x:=.v (.bool ((pc % 4) != 0))) rfl rfl rfl<|gOk (x:=.v (.int .u32 (pc:Int))) (g:= !((pc % 4) != 0)) rfl rfl rfl rfl rfl rfl ?_;have b2:pc / 4≤1073741823:=kN hpc;refine vW (x:=.v (.int .u32 ((pc / 4:Nat):Int))) (g:= !((pc % 4) != 0)) rfl rfl rfl rfl (λ h=>h) rfl (Fh (IG b2 rfl)) (λ _=>by decide)<|Xj (x:=.v (.int .u64 ((pc / 4:Nat):Int))) (g:= !((pc % 4) != 0)) rfl rfl rfl rfl (λ h=>h) rfl (okI (IG b2 rfl))<|gOk (x:=.sl 1 (prog.map iI) clip) (g:= !((pc % 4) != 0)) rfl rfl rfl rfl rfl rfl<|Xj (x:=.v (.int .i64 ((prog.map iI).length:Int))) (g:= !((pc % 4) != 0)) rfl rfl rfl rfl (λ h=>h) rfl rfl<|Xj (x:=.v (.int .u64 ((prog.length:Nat):Int))) (g:= !((pc % 4) != 0)) rfl rfl rfl rfl (λ h=>h) rfl (by show Res.ok (.v (.int .u64 (IntKind.wrap .u64 ((((prog.map iI).length:Nat):Int)))))=_;rw[aJ,Wq hl])<|Xj (x:=.v (.bool (decide ((pc / 4)≥prog.length)))) (g:= !((pc % 4) != 0)) rfl rfl rfl rfl (λ h=>by simp_all) rfl (okB (geN _ _))<|cS (x:=.v (.bool (dE ((pc % 4) != 0) true (decide ((pc / 4)≥prog.length))))) rfl rfl rfl (by simp)<|KJ (n':=14) rfl<|aV (v:=dE ((pc % 4) != 0) true (decide ((pc / 4)≥prog.length))) rfl (λ h1=>?_) (λ h1=>?_)
 ·skip
  refine bK<|iG rfl<|rOk (x:=.v (.int .u32 0)) rfl rfl rfl<|rOk (x:=.v (.bool false)) rfl rfl rfl<|KJ (n':=16) rfl<|cO ?_;exact eQ rfl trivial rfl (by unfold fetchW;rw[Ti (by simp[dE,bne]at h1;split at h1<;>first|(left;assumption)|(right;assumption)|simp_all)];rfl)
 ·skip
  refine bB<|bK<|iG rfl<|rOk (x:=.sl 1 (prog.map iI) clip) rfl rfl rfl<|rOk (x:=.v (.int .u32 (pc:Int))) rfl rfl rfl ?_;have b3:pc / 4≤1073741823:=kN hpc;refine cS (x:=.v (.int .u32 ((pc / 4:Nat):Int))) rfl rfl (Fh (IG b3 rfl)) (by decide) ?_;obtain⟨x,hf,hxx⟩:=Th (prog:=prog) (pc:=pc) (by simp[dE,bne]at h1;split at h1<;>simp_all) (by simp[dE,bne]at h1;split at h1<;>simp_all);refine CP (iI x) (x:=.dp 1 0 (iI x)) rfl rfl rfl (⟨by omega,by rw[aZ];exact congrArg (Option.map iI) hxx⟩) rfl<|rOk (x:=.v (.int .u32 (x:Int))) rfl rfl rfl<|rOk (x:=.v (.int .u32 (x:Int))) rfl rfl rfl<|rOk (x:=.v (.bool true)) rfl rfl rfl<|KJ (n':=21) rfl<|cO ?_;exact eQ rfl trivial rfl (by unfold fetchW;rw[hf];rfl)
theorem yT(m:ByteArray):(bY m).length=m.size:=by simp[bY]
def upS(n:Nat):Nat:=if n≤16 then 16 else if n≤32 then 32 else if n≤64 then 64 else if n≤128 then 128 else 256
def pF(m:ByteArray):ByteArray:=⟨((m.extract 0 (min m.size 256)).data.toList++List.replicate (upS (min m.size 256) - min m.size 256) 0).toArray⟩
theorem Cg(m:ByteArray):(m.extract 0 (min m.size 256)).size=min m.size 256:=by rw[cY];omega
theorem vK(m:ByteArray):(pF m).size=upS (min m.size 256):=by
 have h:=Cg m;have h1:(m.extract 0 (min m.size 256)).data.size=min m.size 256:=h;show (pF m).data.size=_;simp only[pF,kH,aR,cW,cQ,h1];unfold upS
 repeat' (split<;>try omega)
theorem UD{n j:Nat}(h4:j≤4)(h1:n≤16 * 2 ^ j)(h2:j=0∨16 * 2 ^ (j - 1)<n):16 * 2 ^ j=upS n:=by
 have:j=0∨j=1∨j=2∨j=3∨j=4:=by omega
 unfold upS;rcases this with rfl|rfl|rfl|rfl|rfl<;>simp at h1 h2⊢ <;>repeat' (split<;>try omega)
theorem MI{j n:Nat}(h4:j≤4)(h:16 * 2 ^ j<min n 256):j<4:=by
 have:j=0∨j=1∨j=2∨j=3∨j=4:=by omega
 rcases this with rfl|rfl|rfl|rfl|rfl<;>simp at h⊢ <;>omega
theorem NR(m:ByteArray)(s:Nat)(h:m.size≤s):iJ (List.take s (List.drop 0 (List.take 0 (List.replicate s [AV.v (.int .u8 0)])++List.take (min (bY m).length s) (bY m)++List.drop (0+min (bY m).length s) (List.replicate s [AV.v (.int .u8 0)]))))=some (m.data.toList++List.replicate (s - m.size) 0):=by
 have q:=yT m;simp only[pU,iA,cH,bR,q,sJ h];have e1:List.take m.size (bY m)=bY m:=aM (by rw[q];exact aC _);rw[e1,List.drop_replicate,aM (by simp[q];omega)];have:List.replicate (s - m.size) [AV.v (.int .u8 0)]=(List.replicate (s - m.size) (0:UInt8)).map λ b=>[.v (.int .u8 (b.toNat:Int))]:=by simp
 rw[this];simp only[bY];rw[←eA];exact rZ _
set_option maxRecDepth 100000 in
set_option maxHeartbeats 4000000 in
theorem UE(m:ByteArray):bT C0 42 [.v (.string m)] (.v (.string (pF m))):=by
 refine bT.intro c0Ok Tryz.func42 rfl rfl (by kernel_rfl) rfl<|bK<|iG rfl<|rOk (x:=.v (.string (⟨#[]⟩))) rfl rfl rfl<|KJ (n':=1) rfl<|bK<|iG rfl<|rOk (x:=.v (.string m)) rfl rfl rfl<|rOk (x:=.v (.string m)) rfl rfl rfl<|rOk (x:=.v (.int .i64 (m.size:Int))) rfl rfl rfl<|rOk (x:=.v (.int .i64 ((min m.size 256:Nat):Int))) rfl rfl (by show Res.ok (.v (.int .i64 (if (256:Int)<(m.size:Int)then 256 else (m.size:Int))))=_;congr 3;split<;>omega)<|cS (x:=.v (.string (m.extract 0 (min m.size 256)))) rfl rfl rfl (by refine⟨?_,?_,?_⟩<;>simp<;>omega)<|rOk (x:=.v (.string (m.extract 0 (min m.size 256)))) rfl rfl rfl<|KJ (n':=7) rfl<|bK<|iG rfl<|rOk (x:=.v (.int .i64 16)) rfl rfl rfl<|KJ (n':=8) rfl<|bK<|bL<|oE (κ:=Nat) (λ j=>⟨slotsF [(0,.v (.string (m.extract 0 (min m.size 256)))),(3,.v (.int .i64 ((16 * 2 ^ j:Nat):Int)))],heapF [],8⟩) (λ j=>j≤4∧(j=0∨16 * 2 ^ (j - 1)<min m.size 256)) (λ j=>4 - j) 0 (λ s=>s) (Weak.of_lists (λ s=>s) ⟨⟨rfl,rfl⟩,⟨rfl,rfl⟩,trivial⟩ trivial rfl) (⟨by decide,.inl rfl⟩) ?_;intro j hj;refine bK<|bK<|iG rfl<|rOk (x:=.v (.int .i64 ((16 * 2 ^ j:Nat):Int))) rfl rfl rfl<|rOk (x:=.v (.string (m.extract 0 (min m.size 256)))) rfl rfl rfl<|rOk (x:=.v (.int .i64 ((min m.size 256:Nat):Int))) rfl rfl (congrArg (λ n:Nat=>Res.ok (.v (.int .i64 (n:Int)))) (Cg m))<|rOk (x:=.v (.bool (decide ((16 * 2 ^ j)<(min m.size 256))))) rfl rfl (okB (ltN _ _))<|KJ (n':=12) rfl<|aV (v:=decide ((16 * 2 ^ j)<(min m.size 256))) rfl (λ h1=>?_) (λ h1=>?_)
 ·skip
  refine bB<|bL<|iG rfl<|rOk (x:=.v (.int .i64 ((16 * 2 ^ j:Nat):Int))) rfl rfl rfl<|rOk (x:=.v (.int .i64 ((16 * 2 ^ (j+1):Nat):Int))) rfl rfl (by show Res.ok (.v (.int .i64 (IntKind.wrap .i64 (((16 * 2 ^ j:Nat):Int) * 2))))=_;have p5:=eY (n:=2) (by decide) hj.1;rw[wrap_i64 (by omega) (by omega)];congr 3;rw[Nat.pow_succ];omega)<|rOk (x:=.v (.int .i64 ((16 * 2 ^ (j+1):Nat):Int))) rfl rfl rfl<|KJ (n':=15) rfl ?_;refine⟨j+1,λ s=>s,Weak.of_lists (λ s=>s) ⟨⟨rfl,rfl⟩,⟨rfl,rfl⟩,trivial⟩ trivial rfl,⟨by have:=MI hj.1 (of_decide_eq_true h1);omega,.inr (by simpa using of_decide_eq_true h1)⟩,by have:=MI hj.1 (of_decide_eq_true h1);show 4 - (j+1)<4 - j;omega⟩
 ·skip
  refine eP<|bK<|iG rfl<|rOk (x:=.v (.int .i64 ((16 * 2 ^ j:Nat):Int))) rfl rfl rfl<|rFx (x:=.osl 13 0 (16 * 2 ^ j) false) (h':=upd _ 13 (some (.arr (List.replicate (16 * 2 ^ j) [AV.v (.int .u8 0)]) 1))) rfl rfl (rfl) (by have p5:=eY (n:=2) (by decide) hj.1;refine⟨by omega,by omega,?_⟩;simp only[oZ];omega)<|rOk (x:=.osl 13 0 (16 * 2 ^ j) false) rfl rfl rfl<|KJ (n':=15) rfl<|bK<|iG rfl<|rOk (x:=.osl 13 0 (16 * 2 ^ j) false) rfl rfl rfl<|rOk (x:=.v (.string (m.extract 0 (min m.size 256)))) rfl rfl rfl<|rFx (x:=.v (.int .i64 ((min (bY (m.extract 0 (min m.size 256))).length (16 * 2 ^ j):Nat):Int))) (h':=upd _ 13 (some (.arr (List.take 0 (List.replicate (16 * 2 ^ j) [AV.v (.int .u8 0)])++List.take (min (bY (m.extract 0 (min m.size 256))).length (16 * 2 ^ j)) (bY (m.extract 0 (min m.size 256)))++List.drop (0+min (bY (m.extract 0 (min m.size 256))).length (16 * 2 ^ j)) (List.replicate (16 * 2 ^ j) [AV.v (.int .u8 0)])) 1))) rfl rfl (rfl) (⟨by simp,trivial⟩)<|KJ (n':=18) rfl<|bK<|iG rfl<|rOk (x:=.osl 13 0 (16 * 2 ^ j) false) rfl rfl rfl<|XB ((m.extract 0 (min m.size 256)).data.toList++List.replicate (upS (min m.size 256) - min m.size 256) 0) rfl rfl rfl (by show 0+16 * 2 ^ j≤List.length (List.take 0 (List.replicate (16 * 2 ^ j) [AV.v (.int .u8 0)])++List.take (min (bY (m.extract 0 (min m.size 256))).length (16 * 2 ^ j)) (bY (m.extract 0 (min m.size 256)))++List.drop (0+min (bY (m.extract 0 (min m.size 256))).length (16 * 2 ^ j)) (List.replicate (16 * 2 ^ j) [AV.v (.int .u8 0)]));have q:=yT (m.extract 0 (min m.size 256));have q2:=Cg m;have:=aE h1;simp only[aR,aN,bD,cQ,q,q2];omega) (by have e:=NR (m.extract 0 (min m.size 256)) (16 * 2 ^ j) (by have:=aE h1;rw[Cg];omega);rw[Cg,UD hj.1 (by have:=aE h1;omega) hj.2]at e;rw[UD hj.1 (by have:=aE h1;omega) hj.2];exact e)<|rOk (x:=.v (.string (pF m))) rfl rfl rfl<|KJ (n':=21) rfl<|cO ?_;exact GP rfl trivial rfl rfl
set_option maxRecDepth 100000
set_option maxHeartbeats 4000000
abbrev jL(n:Int):List AV:=[.v (.int .i64 n)]
abbrev cfL(c:Cf)(cl ct:Bool):List AV:=[.v (.int .i64 c.mode),.v (.int .i64 c.width),.v (.int .i64 c.rob),.v (.int .i64 c.queue),.v (.int .i64 c.stores),.v (.int .i64 c.slots),.v (.int .i64 c.sets),.v (.int .i64 c.ways),.sl 1 (c.lat.map jL) cl,.v (.bool c.tables),.sl 1 (c.tape.map iI) ct]
structure Cf.ok(c:Cf):Prop where
 lat:c.lat.length≤9223372036854775807
 tape:c.tape.length≤9223372036854775807
 tp:∀ x∈c.tape,x≤4294967295
mutual
theorem yM(σ:Nat→Nat):∀ (a:AV),eZ a=true→uV σ a=a
 | .v _,_| .sl _ _ _,_| .dp _ _ _,_=>by simp[uV]
 | .agg cs,h=>by simp only[uV,qQ σ cs (by simpa [eZ]using h)]
 | .tup cs,h=>by simp only[uV,qQ σ cs (by simpa [eZ]using h)]
 | .clo f a b,h=>by
  simp only[eZ]at h;split at h
  ·rename_i ha;simp only[uV,qQ σ a ha,qQ σ b h]
  ·cases h
 | .ptr _ _,h| .ptr2 _ _ _,h| .osl _ _ _ _,h| .opt _ _,h| .any,h=>by cases h
theorem qQ(σ:Nat→Nat):∀ (cs:List AV),gE cs=true→Cl σ cs=cs
 |[],_=>by simp[Cl]
 |c::cs,h=>by
  simp only[gE]at h;split at h
  ·rename_i hc;simp only[Cl,yM σ c hc,qQ σ cs h]
  ·cases h
end
mutual
theorem Ib(n:Nat):∀ (a:AV),eZ a=true→nJ n a=true
 | .v _,_| .sl _ _ _,_| .dp _ _ _,_=>by simp[nJ]
 | .agg cs,h=>by simp only[nJ,nU n cs (by simpa [eZ]using h)]
 | .tup cs,h=>by simp only[nJ,nU n cs (by simpa [eZ]using h)]
 | .clo f a b,h=>by
  simp only[eZ]at h;split at h
  ·rename_i ha;simp only[nJ,nU n a ha,nU n b h]
  ·cases h
 | .ptr _ _,h| .ptr2 _ _ _,h| .osl _ _ _ _,h| .opt _ _,h| .any,h=>by cases h
theorem nU(n:Nat):∀ (cs:List AV),gE cs=true→pX n cs=true
 |[],_=>by simp[pX]
 |c::cs,h=>by
  simp only[gE]at h;split at h
  ·rename_i hc;simp only[pX,Ib n c hc,nU n cs h]
  ·cases h
end
theorem ZC(σ:Nat→Nat){cs:List AV}(h:gE cs=true):some (Blk.box cs)=some (Fn σ (.box cs)):=by simp only[Fn,qQ σ cs h]
theorem aaN(n:Nat){cs:List AV}(h:gE cs=true):tP n (.box cs)=true:=by simp only[tP,nU n cs h]
theorem Yn(cells:List AV)(col:Nat)(n lo hi:Int)(hn:LU cells col=some (.v (.int .i64 n)))(hc:col+1≤cells.length)(hcl:gE (zM col [.v (.int .i64 (bG n lo hi))] cells)=true):
  pL C0.P C0.G 82 [.ptr 0 col,.v (.int .i64 lo),.v (.int .i64 hi)] (heapF [(0,.box cells)]) 1 (λ x h'=>x=.tup []∧h'=heapF [(0,.box (zM col [.v (.int .i64 (bG n lo hi))] cells))]):=by
 refine HCall.intro (C:=C0) (s:=1) c0Ok.at Tryz.func82 rfl rfl (by kernel_rfl) rfl rfl<|cRg<|oR 3 rfl<|rW (.v (.int .i64 n)) rfl (by show okO (LU cells col)=_;rw[hn];rfl)<|oR 1 rfl<|rV (.v (.int .i64 (if lo>n then lo else n))) rfl<|oR 1 rfl<|rV (.v (.int .i64 (if hi<(if lo>n then lo else n)then hi else (if lo>n then lo else n)))) rfl<|oR 1 rfl ?_;have hb:Nat.ble (col+1) cells.length=true:=jY hc;refine Xz (p:=True) (h':=upd _ 0 (some (.box (zM col [.v (.int .i64 (bG n lo hi))] cells)))) rfl rfl (by
  show (match Nat.ble (col+1) cells.length with|true=>Res.fx True .any (upd _ 0 (some (.box (zM col [.v (.int .i64 (if hi<(if lo>n then lo else n)then hi else (if lo>n then lo else n)))] cells))))|false=>.bad)=_;rw[hb];rfl) trivial ?_
 refine rE 11 ?_;exact pE (rs:=[]) rfl (σ:=λ s=>s) ⟨rfl,rfl⟩ rfl (cB (λ s=>s) rfl rfl ⟨⟨rfl,ZC _ hcl,aaN _ hcl⟩,trivial⟩ rfl)
theorem yN{cells cells':List AV}{b col:Nat}{n lo hi:Int}{K:AH}{s2:Nat}(hn:LU cells col=some (.v (.int .i64 n)))(hc:Nat.ble (col+1) cells.length=true)(he:zM col [.v (.int .i64 (bG n lo hi))] cells=cells')(hcl:gE cells=true)(hcl':gE cells'=true)(hb:Nat.blt b s2=true)(hK:K b=some (.box cells)):
  pL C0.P C0.G 82 [.ptr b col,.v (.int .i64 lo),.v (.int .i64 hi)] K s2 (λ x h'=>x=.tup []∧h'=upd K b (some (.box cells'))):=by
 subst he;have:=(Yn cells col n lo hi hn (aP hc) hcl').frame1 b K s2 (aP hb) (aaN 1 hcl) (by rw[hK];exact ZC _ hcl) rfl;rw[←ZC (FE (λ _=>b) 1 s2) hcl']at this;exact this
theorem Wg(rows:List (List AV))(k:Nat)(n lo hi:Int)(hn:rows[k]?=some [.v (.int .i64 n)]):
  pL C0.P C0.G 82 [.ptr2 0 k 0,.v (.int .i64 lo),.v (.int .i64 hi)] (heapF [(0,.arr rows 1)]) 1 (λ x h'=>x=.tup []∧h'=heapF [(0,.arr (rows.set k [.v (.int .i64 (bG n lo hi))]) 1)]):=by
 refine HCall.intro (C:=C0) (s:=1) c0Ok.at Tryz.func82 rfl rfl (by kernel_rfl) rfl rfl<|cRg<|oR 3 rfl<|CP [.v (.int .i64 n)] (x:=.v (.int .i64 n)) rfl rfl rfl ⟨aF _,hn⟩ rfl<|oR 1 rfl<|rV (.v (.int .i64 (if lo>n then lo else n))) rfl<|oR 1 rfl<|rV (.v (.int .i64 (if hi<(if lo>n then lo else n)then hi else (if lo>n then lo else n)))) rfl<|oR 1 rfl<|oS [.v (.int .i64 n)] (h':=upd _ 0 (some (.arr (rows.set k [.v (.int .i64 (bG n lo hi))]) 1))) rfl rfl rfl ⟨aF _,hn⟩ rfl<|rE 11 ?_;exact pE (rs:=[]) rfl (σ:=λ s=>s) ⟨rfl,rfl⟩ rfl (cB (λ s=>s) rfl rfl wH rfl)
theorem Mw{rows rows':List (List AV)}{b k:Nat}{n lo hi:Int}{K:AH}{s2:Nat}(hn:rows[k]?=some [.v (.int .i64 n)])(he:rows.set k [.v (.int .i64 (bG n lo hi))]=rows')(hb:Nat.blt b s2=true)(hK:K b=some (.arr rows 1)):
  pL C0.P C0.G 82 [.ptr2 b k 0,.v (.int .i64 lo),.v (.int .i64 hi)] K s2 (λ x h'=>x=.tup []∧h'=upd K b (some (.arr rows' 1))):=by
 subst he;exact (Wg rows k n lo hi hn).frame1 b K s2 (aP hb) rfl hK rfl
theorem Cb(a b:Nat):Res.ok (.v (.int .i64 (if (b:Int)<(a:Int)then (b:Int)else (a:Int))))=.ok (.v (.int .i64 ((min a b:Nat):Int))):=by congr 3;split<;>omega
theorem Cc{α:Type}(f:α→List AV)(l:List α)(z:List AV)(n:Nat)(hn:n=min l.length 64):(List.replicate n z).take 0++(l.map f).take (min (l.map f).length n)++(List.replicate n z).drop (0+min (l.map f).length n)=(l.take 64).map f:=by
 subst hn;rw[aJ,pU,iA,eK (by rw[cQ];omega),dZ, ←fU];congr 1;rcases Nat.le_total l.length 64 with h|h
 ·rw[aM omT,aM omT]
 ·congr 1;omega
theorem cG{α:Type}(f:α→List AV)(l:List α):Res.ok (.v (.int .i64 ((l.map f).length:Int)))=.ok (.v (.int .i64 ((l.length:Nat):Int))):=by rw[aJ]
def Dq(c:Cf)(k:Nat):List (List AV):=((((c.lat.take 64).take k).map λ n=>bG n 1 8)++(c.lat.take 64).drop k).map jL
theorem Mx(c:Cf)(k:Nat)(h:(c.lat.take 64).length≤k):Dq c k=(bO c).lat.map jL:=by
 unfold Dq bO;rw[aM h,eK h,dZ]
theorem My{c:Cf}{k:Nat}{x:Int}(hx:(c.lat.take 64)[k]?=some x):(Dq c k)[k]?=some (jL x):=by
 have hk:=(DK.1 hx).1;unfold Dq;rw[aZ,bS (by simp;omega)];simp only[aJ,aN];rw[dD,show k+(k - min k (min 64 c.lat.length))=k by have:k<(c.lat.take 64).length:=hk;rw[aN]at this;omega,hx];rfl
theorem Mz{c:Cf}{k:Nat}{x:Int}(hx:(c.lat.take 64)[k]?=some x):(Dq c k).set k [.v (.int .i64 (bG x 1 8))]=Dq c (k+1):=by
 unfold Dq;generalize c.lat.take 64=l at hx⊢;have hk:=(DK.1 hx).1;have hl:((l.take k).map λ n=>bG n 1 8).length=k:=by rw[aJ,aN];omega
 have hx':l[k]=x:=by rw[aA hk]at hx;exact Option.some.inj hx
 rw[show ([.v (.int .i64 (bG x 1 8))]:List AV)=jL (bG x 1 8)from rfl, ←List.map_set,kA _ _ omT,hl,jB,eJ hk,jV,bV,hx];simp
theorem MA(c:Cf)(k:Nat)(h:k≤(c.lat.take 64).length):(Dq c k).length=(c.lat.take 64).length:=by
 unfold Dq;simp only[aJ,aR,bD];rw[List.length_take_of_le h];omega
theorem Ic{p:Prop}{x:AV}{h:AH}{b rs:Nat}{r r':List (List AV)}(e:r=r'):Res.fx p x (upd h b (some (.arr r rs)))=.fx p x (upd h b (some (.arr r' rs))):=by rw[e]
theorem Id(c:Cf)(cl ct:Bool)(hok:c.ok):bT C0 39 [.agg (cfL c cl ct)] (.agg (cfL (bO c) false false)):=by
 refine bT.intro c0Ok Tryz.func39 rfl rfl (by kernel_rfl) rfl<|cSR<|rAl 0 rfl rfl<|rAl 1 rfl rfl<|rE 2<|cSR<|oR 1 rfl<|rE 3<|cSR<|oR 2 rfl<|fR _ rfl rfl rfl (yN (cells:=[vI c.mode,vI c.width,vI c.rob,vI c.queue,vI c.stores,vI c.slots,vI c.sets,vI c.ways,.sl 1 (c.lat.map jL) cl,vB c.tables,.sl 1 (c.tape.map iI) ct]) (cells':=[vI (bG c.mode 0 2),vI c.width,vI c.rob,vI c.queue,vI c.stores,vI c.slots,vI c.sets,vI c.ways,.sl 1 (c.lat.map jL) cl,vB c.tables,.sl 1 (c.tape.map iI) ct]) rfl rfl rfl rfl rfl rfl rfl) ?_;rintro _ _ ⟨rfl,rfl⟩;refine rE 6<|cSR<|oR 2 rfl<|fR _ rfl rfl rfl (yN (cells:=[vI (bG c.mode 0 2),vI c.width,vI c.rob,vI c.queue,vI c.stores,vI c.slots,vI c.sets,vI c.ways,.sl 1 (c.lat.map jL) cl,vB c.tables,.sl 1 (c.tape.map iI) ct]) (cells':=[vI (bG c.mode 0 2),vI (bG c.width 1 2),vI c.rob,vI c.queue,vI c.stores,vI c.slots,vI c.sets,vI c.ways,.sl 1 (c.lat.map jL) cl,vB c.tables,.sl 1 (c.tape.map iI) ct]) rfl rfl rfl rfl rfl rfl rfl) ?_;rintro _ _ ⟨rfl,rfl⟩;refine rE 9<|cSR<|oR 2 rfl<|fR _ rfl rfl rfl (yN (cells:=[vI (bG c.mode 0 2),vI (bG c.width 1 2),vI c.rob,vI c.queue,vI c.stores,vI c.slots,vI c.sets,vI c.ways,.sl 1 (c.lat.map jL) cl,vB c.tables,.sl 1 (c.tape.map iI) ct]) (cells':=[vI (bG c.mode 0 2),vI (bG c.width 1 2),vI (bG c.rob 2 8),vI c.queue,vI c.stores,vI c.slots,vI c.sets,vI c.ways,.sl 1 (c.lat.map jL) cl,vB c.tables,.sl 1 (c.tape.map iI) ct]) rfl rfl rfl rfl rfl rfl rfl) ?_;rintro _ _ ⟨rfl,rfl⟩;refine rE 12<|cSR<|oR 2 rfl<|fR _ rfl rfl rfl (yN (cells:=[vI (bG c.mode 0 2),vI (bG c.width 1 2),vI (bG c.rob 2 8),vI c.queue,vI c.stores,vI c.slots,vI c.sets,vI c.ways,.sl 1 (c.lat.map jL) cl,vB c.tables,.sl 1 (c.tape.map iI) ct]) (cells':=[vI (bG c.mode 0 2),vI (bG c.width 1 2),vI (bG c.rob 2 8),vI (bG c.queue 1 4),vI c.stores,vI c.slots,vI c.sets,vI c.ways,.sl 1 (c.lat.map jL) cl,vB c.tables,.sl 1 (c.tape.map iI) ct]) rfl rfl rfl rfl rfl rfl rfl) ?_;rintro _ _ ⟨rfl,rfl⟩;refine rE 15<|cSR<|oR 2 rfl<|fR _ rfl rfl rfl (yN (cells:=[vI (bG c.mode 0 2),vI (bG c.width 1 2),vI (bG c.rob 2 8),vI (bG c.queue 1 4),vI c.stores,vI c.slots,vI c.sets,vI c.ways,.sl 1 (c.lat.map jL) cl,vB c.tables,.sl 1 (c.tape.map iI) ct]) (cells':=[vI (bG c.mode 0 2),vI (bG c.width 1 2),vI (bG c.rob 2 8),vI (bG c.queue 1 4),vI (bG c.stores 1 4),vI c.slots,vI c.sets,vI c.ways,.sl 1 (c.lat.map jL) cl,vB c.tables,.sl 1 (c.tape.map iI) ct]) rfl rfl rfl rfl rfl rfl rfl) ?_;rintro _ _ ⟨rfl,rfl⟩;refine rE 18<|cSR<|oR 2 rfl<|fR _ rfl rfl rfl (yN (cells:=[vI (bG c.mode 0 2),vI (bG c.width 1 2),vI (bG c.rob 2 8),vI (bG c.queue 1 4),vI (bG c.stores 1 4),vI c.slots,vI c.sets,vI c.ways,.sl 1 (c.lat.map jL) cl,vB c.tables,.sl 1 (c.tape.map iI) ct]) (cells':=[vI (bG c.mode 0 2),vI (bG c.width 1 2),vI (bG c.rob 2 8),vI (bG c.queue 1 4),vI (bG c.stores 1 4),vI (bG c.slots 2 6),vI c.sets,vI c.ways,.sl 1 (c.lat.map jL) cl,vB c.tables,.sl 1 (c.tape.map iI) ct]) rfl rfl rfl rfl rfl rfl rfl) ?_;rintro _ _ ⟨rfl,rfl⟩;refine rE 21<|cSR<|oR 2 rfl<|fR _ rfl rfl rfl (yN (cells:=[vI (bG c.mode 0 2),vI (bG c.width 1 2),vI (bG c.rob 2 8),vI (bG c.queue 1 4),vI (bG c.stores 1 4),vI (bG c.slots 2 6),vI c.sets,vI c.ways,.sl 1 (c.lat.map jL) cl,vB c.tables,.sl 1 (c.tape.map iI) ct]) (cells':=[vI (bG c.mode 0 2),vI (bG c.width 1 2),vI (bG c.rob 2 8),vI (bG c.queue 1 4),vI (bG c.stores 1 4),vI (bG c.slots 2 6),vI (bG c.sets 1 4),vI c.ways,.sl 1 (c.lat.map jL) cl,vB c.tables,.sl 1 (c.tape.map iI) ct]) rfl rfl rfl rfl rfl rfl rfl) ?_;rintro _ _ ⟨rfl,rfl⟩;refine rE 24<|bK<|cSR<|oR 2 rfl<|rV (vB ((bG c.sets 1 4)==3)) rfl<|rE 27<|aV rfl (λ h1=>?_) (λ h1=>?_)
 ·refine cRg<|oR 1 rfl<|rSt rfl<|rE 29<|cSR<|oR 2 rfl<|fR _ rfl rfl rfl (yN (cells:=[vI (bG c.mode 0 2),vI (bG c.width 1 2),vI (bG c.rob 2 8),vI (bG c.queue 1 4),vI (bG c.stores 1 4),vI (bG c.slots 2 6),vI 2,vI c.ways,.sl 1 (c.lat.map jL) cl,vB c.tables,.sl 1 (c.tape.map iI) ct]) (cells':=[vI (bG c.mode 0 2),vI (bG c.width 1 2),vI (bG c.rob 2 8),vI (bG c.queue 1 4),vI (bG c.stores 1 4),vI (bG c.slots 2 6),vI 2,vI (bG c.ways 1 2),.sl 1 (c.lat.map jL) cl,vB c.tables,.sl 1 (c.tape.map iI) ct]) rfl rfl rfl rfl rfl rfl rfl) ?_;rintro _ _ ⟨rfl,rfl⟩;refine rE 32<|cSR<|oR 2 rfl<|rW (vN c.lat.length) rfl (cG jL c.lat)<|rW (vN (min c.lat.length 64)) rfl (Cb c.lat.length 64)<|rFx (x:=.osl 36 0 (min c.lat.length 64) false) (h':=upd _ 36 (some (.arr (List.replicate (min c.lat.length 64) [vI 0]) 1))) rfl rfl (rfl) (⟨aF _,kQ _,by show (((min c.lat.length 64):Nat):Int)≤1000000;have:=(aL (fC c.lat.length 64) (aC 64));omega⟩)<|oR 1 rfl<|rE 38<|cSR<|oR 3 rfl<|rFx (x:=vI ((min (c.lat.map jL).length (min c.lat.length 64):Nat):Int)) (h':=upd _ 36 (some (.arr (Dq c 0) 1))) rfl rfl (Ic (Cc jL c.lat [.v (.int .i64 0)] _ rfl)) (⟨by simp,trivial⟩)<|rE 42<|bK<|bK<|cRg<|oR 1 rfl<|rV (vN (min c.lat.length 64)) rfl<|oR 1 rfl<|rE 45<|bL<|oE (κ:=Nat) (λ k=>⟨slotsF [(1,.ptr 0 0),(2,.ptr 1 0),(3,.clo 82 [] []),(4,.osl 36 0 (min c.lat.length 64) false),(45,vN (min c.lat.length 64)),(46,vN k)],heapF [(0,.box [vI (bG c.mode 0 2),vI (bG c.width 1 2),vI (bG c.rob 2 8),vI (bG c.queue 1 4),vI (bG c.stores 1 4),vI (bG c.slots 2 6),vI 2,vI (bG c.ways 1 2),.sl 1 (c.lat.map jL) cl,vB c.tables,.sl 1 (c.tape.map iI) ct]),(1,.box [vI 0,vI 0,vI 0,vI 0,vI 0,vI 0,vI 0,vI 0,.sl 0 ([]) true,vB false,.sl 0 ([]) true]),(36,.arr (Dq c k) 1)],45⟩) (λ k=>k≤min c.lat.length 64) (λ k=>min c.lat.length 64 - k) 0 (λ s=>s) (Weak.of_lists (λ s=>s) wT wH rfl) (aD _) ?_;intro k hk;have hkB:k≤1000000:=by omega
  refine cSR<|rW (vB (decide (k<(min c.lat.length 64)))) rfl (okB (ltN _ _))<|rE 46<|bK<|aV rfl (λ h2=>?_) (λ h2=>?_)
  ·refine bB<|bK<|bL<|cSR<|oR 2 rfl<|rE 48<|cRg<|oR 3 rfl ?_;have hkl:k<(c.lat.take 64).length:=by have:=of_decide_eq_true h2;rw[aN];omega
   obtain⟨x,hx⟩:∃ x,(c.lat.take 64)[k]?=some x:=⟨_,aA hkl⟩;have hxk:(Dq c k)[0+k]?=some [.v (.int .i64 x)]:=by rw[bR];exact My hx
   refine nW (.ptr2 36 (0+k) 0) rfl rfl (⟨aF _,by show (k:Int)<((min c.lat.length 64:Nat):Int);have:=of_decide_eq_true h2;omega⟩)<|fR _ rfl rfl rfl (Mw (rows:=Dq c k) (rows':=Dq c (k+1)) (k:=0+k) (n:=x) hxk ((bR k).symm ▸ Mz hx) rfl rfl) ?_;rintro _ _ ⟨rfl,rfl⟩;refine rE 53<|cRg ?_;have b1:k+1≤1000001:=aG hkB (aC 1);refine rW (vN (k+1)) rfl (okI (bU b1 rfl))<|oR 1 rfl<|rE 55 ?_;refine⟨k+1,λ s=>s,Weak.of_lists _ wT wH rfl,by have:=of_decide_eq_true h2;omega,by have:=of_decide_eq_true h2;show min c.lat.length 64 - (k+1)<min c.lat.length 64 - k;omega⟩
  ·refine eP<|cSR<|oR 2 rfl<|rW (vN c.tape.length) rfl (cG iI c.tape)<|rW (vN (min c.tape.length 64)) rfl (Cb c.tape.length 64)<|rFx (x:=.osl 50 0 (min c.tape.length 64) false) (h':=upd _ 50 (some (.arr (List.replicate (min c.tape.length 64) [.v (.int .u32 0)]) 1))) rfl rfl (rfl) (⟨aF _,kQ _,by show (((min c.tape.length 64):Nat):Int)≤1000000;have:=(aL (fC c.tape.length 64) (aC 64));omega⟩)<|oR 1 rfl<|rE 52<|cSR<|oR 3 rfl<|rFx (x:=vI ((min (c.tape.map iI).length (min c.tape.length 64):Nat):Int)) (h':=upd _ 50 (some (.arr ((c.tape.take 64).map iI) 1))) rfl rfl (Ic (Cc iI c.tape [.v (.int .u32 0)] _ rfl)) (⟨by simp,trivial⟩)<|rE 56<|cSR<|oR 3 rfl<|rSt rfl<|oR 1 rfl<|rSt rfl<|rE 62<|cSR<|oR 1 rfl<|rSt rfl<|rE 64<|cO ?_;have hk2:(c.lat.take 64).length≤k:=by rw[aN];have:=aE h2;omega
   have hll:=MA c k (by rw[aN];omega);have e1:List.take (min c.lat.length 64) (List.drop 0 (Dq c k))=(bO c).lat.map jL:=by rw[cH,aM (by rw[hll,aN];omega),Mx c k hk2]
   have e2:List.take (min c.tape.length 64) (List.drop 0 ((c.tape.take 64).map iI))=(bO c).tape.map iI:=by rw[cH,aM (by rw[aJ,aN];omega)];rfl
   have e3:(bO c).sets=2:=if_pos (by simpa using h1);refine eQ rfl (r4 (r4 ⟨by show 0+min c.lat.length 64≤(Dq c k).length;rw[hll,aN];omega,trivial,by show 0+min c.tape.length 64≤((c.tape.take 64).map iI).length;rw[aJ,aN];omega,trivial⟩)) rfl ?_;show AV.agg [vI (bG c.mode 0 2),vI (bG c.width 1 2),vI (bG c.rob 2 8),vI (bG c.queue 1 4),vI (bG c.stores 1 4),vI (bG c.slots 2 6),vI 2,vI (bG c.ways 1 2),.sl 1 (List.take (min c.lat.length 64) (List.drop 0 (Dq c k))) false,vB c.tables,.sl 1 (List.take (min c.tape.length 64) (List.drop 0 ((c.tape.take 64).map iI))) false]=AV.agg (cfL (bO c) false false);rw[e1,e2];show _=AV.agg [vI (bO c).mode,vI (bO c).width,vI (bO c).rob,vI (bO c).queue,vI (bO c).stores,vI (bO c).slots,vI (bO c).sets,vI (bO c).ways,.sl 1 ((bO c).lat.map jL) false,vB (bO c).tables,.sl 1 ((bO c).tape.map iI) false];rw[e3];rfl
 ·refine bB<|cSR<|oR 2 rfl<|fR _ rfl rfl rfl (yN (cells:=[vI (bG c.mode 0 2),vI (bG c.width 1 2),vI (bG c.rob 2 8),vI (bG c.queue 1 4),vI (bG c.stores 1 4),vI (bG c.slots 2 6),vI (bG c.sets 1 4),vI c.ways,.sl 1 (c.lat.map jL) cl,vB c.tables,.sl 1 (c.tape.map iI) ct]) (cells':=[vI (bG c.mode 0 2),vI (bG c.width 1 2),vI (bG c.rob 2 8),vI (bG c.queue 1 4),vI (bG c.stores 1 4),vI (bG c.slots 2 6),vI (bG c.sets 1 4),vI (bG c.ways 1 2),.sl 1 (c.lat.map jL) cl,vB c.tables,.sl 1 (c.tape.map iI) ct]) rfl rfl rfl rfl rfl rfl rfl) ?_;rintro _ _ ⟨rfl,rfl⟩;refine rE 30<|cSR<|oR 2 rfl<|rW (vN c.lat.length) rfl (cG jL c.lat)<|rW (vN (min c.lat.length 64)) rfl (Cb c.lat.length 64)<|rFx (x:=.osl 34 0 (min c.lat.length 64) false) (h':=upd _ 34 (some (.arr (List.replicate (min c.lat.length 64) [vI 0]) 1))) rfl rfl (rfl) (⟨aF _,kQ _,by show (((min c.lat.length 64):Nat):Int)≤1000000;have:=(aL (fC c.lat.length 64) (aC 64));omega⟩)<|oR 1 rfl<|rE 36<|cSR<|oR 3 rfl<|rFx (x:=vI ((min (c.lat.map jL).length (min c.lat.length 64):Nat):Int)) (h':=upd _ 34 (some (.arr (Dq c 0) 1))) rfl rfl (Ic (Cc jL c.lat [.v (.int .i64 0)] _ rfl)) (⟨by simp,trivial⟩)<|rE 40<|bK<|bK<|cRg<|oR 1 rfl<|rV (vN (min c.lat.length 64)) rfl<|oR 1 rfl<|rE 43<|bL<|oE (κ:=Nat) (λ k=>⟨slotsF [(1,.ptr 0 0),(2,.ptr 1 0),(3,.clo 82 [] []),(4,.osl 34 0 (min c.lat.length 64) false),(45,vN (min c.lat.length 64)),(46,vN k)],heapF [(0,.box [vI (bG c.mode 0 2),vI (bG c.width 1 2),vI (bG c.rob 2 8),vI (bG c.queue 1 4),vI (bG c.stores 1 4),vI (bG c.slots 2 6),vI (bG c.sets 1 4),vI (bG c.ways 1 2),.sl 1 (c.lat.map jL) cl,vB c.tables,.sl 1 (c.tape.map iI) ct]),(1,.box [vI 0,vI 0,vI 0,vI 0,vI 0,vI 0,vI 0,vI 0,.sl 0 ([]) true,vB false,.sl 0 ([]) true]),(34,.arr (Dq c k) 1)],43⟩) (λ k=>k≤min c.lat.length 64) (λ k=>min c.lat.length 64 - k) 0 (λ s=>s) (Weak.of_lists (λ s=>s) wT wH rfl) (aD _) ?_;intro k hk;have hkB:k≤1000000:=by omega
  refine cSR<|rW (vB (decide (k<(min c.lat.length 64)))) rfl (okB (ltN _ _))<|rE 44<|bK<|aV rfl (λ h3=>?_) (λ h3=>?_)
  ·refine bB<|bK<|bL<|cSR<|oR 2 rfl<|rE 46<|cRg<|oR 3 rfl ?_;have hkl:k<(c.lat.take 64).length:=by have:=of_decide_eq_true h3;rw[aN];omega
   obtain⟨x,hx⟩:∃ x,(c.lat.take 64)[k]?=some x:=⟨_,aA hkl⟩;have hxk:(Dq c k)[0+k]?=some [.v (.int .i64 x)]:=by rw[bR];exact My hx
   refine nW (.ptr2 34 (0+k) 0) rfl rfl (⟨aF _,by show (k:Int)<((min c.lat.length 64:Nat):Int);have:=of_decide_eq_true h3;omega⟩)<|fR _ rfl rfl rfl (Mw (rows:=Dq c k) (rows':=Dq c (k+1)) (k:=0+k) (n:=x) hxk ((bR k).symm ▸ Mz hx) rfl rfl) ?_;rintro _ _ ⟨rfl,rfl⟩;refine rE 51<|cRg ?_;have b2:k+1≤1000001:=aG hkB (aC 1);refine rW (vN (k+1)) rfl (okI (bU b2 rfl))<|oR 1 rfl<|rE 53 ?_;refine⟨k+1,λ s=>s,Weak.of_lists _ wT wH rfl,by have:=of_decide_eq_true h3;omega,by have:=of_decide_eq_true h3;show min c.lat.length 64 - (k+1)<min c.lat.length 64 - k;omega⟩
  ·refine eP<|cSR<|oR 2 rfl<|rW (vN c.tape.length) rfl (cG iI c.tape)<|rW (vN (min c.tape.length 64)) rfl (Cb c.tape.length 64)<|rFx (x:=.osl 48 0 (min c.tape.length 64) false) (h':=upd _ 48 (some (.arr (List.replicate (min c.tape.length 64) [.v (.int .u32 0)]) 1))) rfl rfl (rfl) (⟨aF _,kQ _,by show (((min c.tape.length 64):Nat):Int)≤1000000;have:=(aL (fC c.tape.length 64) (aC 64));omega⟩)<|oR 1 rfl<|rE 50<|cSR<|oR 3 rfl<|rFx (x:=vI ((min (c.tape.map iI).length (min c.tape.length 64):Nat):Int)) (h':=upd _ 48 (some (.arr ((c.tape.take 64).map iI) 1))) rfl rfl (Ic (Cc iI c.tape [.v (.int .u32 0)] _ rfl)) (⟨by simp,trivial⟩)<|rE 54<|cSR<|oR 3 rfl<|rSt rfl<|oR 1 rfl<|rSt rfl<|rE 60<|cSR<|oR 1 rfl<|rSt rfl<|rE 62<|cO ?_;have hk2:(c.lat.take 64).length≤k:=by rw[aN];have:=aE h3;omega
   have hll:=MA c k (by rw[aN];omega);have e1:List.take (min c.lat.length 64) (List.drop 0 (Dq c k))=(bO c).lat.map jL:=by rw[cH,aM (by rw[hll,aN];omega),Mx c k hk2]
   have e2:List.take (min c.tape.length 64) (List.drop 0 ((c.tape.take 64).map iI))=(bO c).tape.map iI:=by rw[cH,aM (by rw[aJ,aN];omega)];rfl
   have e3:(bO c).sets=bG c.sets 1 4:=if_neg (by simpa using h1);refine eQ rfl (r4 (r4 ⟨by show 0+min c.lat.length 64≤(Dq c k).length;rw[hll,aN];omega,trivial,by show 0+min c.tape.length 64≤((c.tape.take 64).map iI).length;rw[aJ,aN];omega,trivial⟩)) rfl ?_;show AV.agg [vI (bG c.mode 0 2),vI (bG c.width 1 2),vI (bG c.rob 2 8),vI (bG c.queue 1 4),vI (bG c.stores 1 4),vI (bG c.slots 2 6),vI (bG c.sets 1 4),vI (bG c.ways 1 2),.sl 1 (List.take (min c.lat.length 64) (List.drop 0 (Dq c k))) false,vB c.tables,.sl 1 (List.take (min c.tape.length 64) (List.drop 0 ((c.tape.take 64).map iI))) false]=AV.agg (cfL (bO c) false false);rw[e1,e2];show _=AV.agg [vI (bO c).mode,vI (bO c).width,vI (bO c).rob,vI (bO c).queue,vI (bO c).stores,vI (bO c).slots,vI (bO c).sets,vI (bO c).ways,.sl 1 ((bO c).lat.map jL) false,vB (bO c).tables,.sl 1 ((bO c).tape.map iI) false];rw[e3];rfl
abbrev wyL(x:Wy):List AV:=[.v (.int .u32 (x.line:Int)),.v (.bool x.dirty),.v (.string x.data)]
abbrev aa3(s:List Wy):AV:=.sl 3 (s.map wyL) false
abbrev cE(s:List Wy):List AV:=[aa3 s]
abbrev caL(c:Ca)(k:Bool):List AV:=[.v (.int .i64 c.ways),.sl 1 (c.sets.map cE) k]
abbrev rqL(x:Req):List AV:=[.v (.int .i64 x.kind),.v (.int .u32 (x.line:Int)),.v (.int .i64 x.left),.v (.string x.data)]
def aa4(o:Option Nat):AV:=.tup [vN (o.getD 0),vB o.isSome]
structure Wy.ok(x:Wy):Prop where
 line:x.line≤4294967295
structure Ca.ok(c:Ca):Prop where
 sets:c.sets.length≤9223372036854775807
 set:∀ s∈c.sets,s.length≤9223372036854775807∧∀ x∈s,x.ok
theorem dR{a:Nat}(h:a≤4294967295):lineOf a≤4294967295:=by unfold lineOf;omega
theorem aa5{a b:Nat}(h:a=b):AV.v (.int .u32 (a:Int))=.v (.int .u32 (b:Int)):=by rw[h]
theorem YZ{a b:Nat}(h:a=b):AV.v (.int .i64 (a:Int))=.v (.int .i64 (b:Int)):=by rw[h]
theorem jH{α:Type}{f:α→List AV}{l:List α}{k:Nat}{x:α}(h:l[k]?=some x):(l.map f)[k]?=some (f x):=by rw[aZ,h];rfl
theorem tC(a:Nat)(ha:a≤4294967295):bT C0 92 [vU a] (vU (lineOf a)):=by
 refine bT.intro c0Ok Tryz.func92 rfl rfl (by kernel_rfl) rfl<|cSR<|oR 1 rfl<|rE 1<|cSR<|oR 2 rfl ?_;have b1:a % 16≤15:=aT (aY _ (by decide));refine nW (vU (a % 16)) rfl rfl (by decide) ?_;refine rW (vU ((a+4294967296 - (a % 16)) % 4294967296)) rfl (okI (Ug b1 rfl))<|oR 1 rfl<|rE 6<|cO ?_;exact fT rfl (aa5 (by unfold lineOf;omega))
theorem UB(c:Ca)(line:Nat)(ck:Bool)(h0:0<c.sets.length)(hl:c.sets.length≤1000000)(hline:line≤4294967295):bT C0 146 [.agg (caL c ck),vU line] (vN (xO c line)):=by
 refine bT.intro c0Ok Tryz.func146 rfl rfl (by kernel_rfl) rfl<|cSR<|rAl 0 rfl rfl<|oR 1 rfl<|rE 2<|cSR<|oR 1 rfl ?_;have b1:line / 16≤268435455:=kN hline;refine nW (vU (line / 16)) rfl (Fh (IG b1 rfl)) (by decide)<|oR 2 rfl<|rW (vN c.sets.length) rfl (cG cE c.sets)<|rW (vU c.sets.length) rfl (okI (IG hl rfl)) ?_;have b2:(line / 16) % c.sets.length≤268435455:=aL (oA _ _) b1;refine nW (vU ((line / 16) % c.sets.length)) rfl rfl omT<|rW (vN ((line / 16) % c.sets.length)) rfl (okI (bU b2 rfl))<|oR 1 rfl<|rE 11<|cO ?_;exact fT rfl rfl
theorem NJ{s:List Wy}{line k:Nat}{x:Wy}(hx:s[k]?=some x)(hn: ¬ x.line=line)(h:iZ s line=(iZ (s.drop k) line).map (· +k)):iZ s line=(iZ (s.drop (k+1)) line).map (· +(k+1)):=by
 obtain⟨hk,hx'⟩:=DK.1 hx;rw[h,eJ hk,hx'];simp only[iZ,if_neg hn,Option.map_map];congr 1;funext i;show i+1+k=i+(k+1);omega
theorem NK{s:List Wy}{line k:Nat}{x:Wy}(hx:s[k]?=some x)(hn:x.line=line)(h:iZ s line=(iZ (s.drop k) line).map (· +k)):iZ s line=some k:=by
 obtain⟨hk,hx'⟩:=DK.1 hx;rw[h,eJ hk,hx'];simp[iZ,hn]
theorem Qe{s:List Wy}{line k:Nat}(hk:s.length≤k)(h:iZ s line=(iZ (s.drop k) line).map (· +k)):iZ s line=none:=by
 rw[h,eK hk];rfl
theorem UC(s:List Wy)(line:Nat)(ck:Bool)(hs:s.length≤1000000)(ho:∀ x∈s,x.ok)(hline:line≤4294967295):bT C0 147 [.sl 3 (s.map wyL) ck,vU line] (aa4 (iZ s line)):=by
 refine bT.intro c0Ok Tryz.func147 rfl rfl (by kernel_rfl) rfl<|cSR<|oR 2 rfl<|rE 2<|bK<|cSR<|oR 1 rfl<|rW (vN s.length) rfl (cG wyL s)<|oR 1 rfl<|rE 5<|bL<|oE (κ:=Nat) (λ k=>⟨slotsF [(1,vU line),(8,.sl 3 (s.map wyL) ck),(9,vN s.length),(10,vN k)],heapF [],5⟩) (λ k=>k≤s.length∧iZ s line=(iZ (s.drop k) line).map (· +k)) (λ k=>s.length - k) 0 (λ s=>s) (Weak.of_lists (λ s=>s) wT trivial rfl) (⟨aD _,by simp⟩) ?_;intro k hk;have hkB:k≤1000000:=by have:=hk.1;omega
 refine cSR<|rW (vB (decide (k<s.length))) rfl (okB (ltN _ _))<|rE 6<|bK<|aV rfl (λ h1=>?_) (λ h1=>?_)
 ·refine bB<|bK<|bL<|cSR<|oR 1 rfl ?_;obtain⟨x,hx⟩:∃ x,s[k]?=some x:=⟨_,aA (of_decide_eq_true h1)⟩;refine rIx (wyL x) (.dp 3 0 (wyL x)) rfl rfl (jH hx) rfl<|oR 1 rfl<|rAl 9 rfl rfl<|oR 1 rfl<|rSt rfl<|rE 12<|cSR<|oR 3 rfl<|rW (vB (x.line==line)) rfl (okB (eqN _ _))<|rE 16<|aV rfl (λ h2=>?_) (λ h2=>?_)
  ·refine cSR<|oR 3 rfl<|rE 19<|cO ?_;exact fT rfl (by rw[NK hx (by simpa using h2) hk.2];rfl)
  ·refine bB<|cRg ?_;have b1:k+1≤1000001:=aG hkB (aC 1);refine rW (vN (k+1)) rfl (okI (bU b1 rfl))<|oR 1 rfl<|rE 18 ?_;refine⟨k+1,λ s=>s,Weak.of_lists _ wT trivial rfl,⟨of_decide_eq_true h1,NJ hx (by simpa using h2) hk.2⟩,by have:=of_decide_eq_true h1;show s.length - (k+1)<s.length - k;omega⟩
 ·refine eP<|cSR<|oR 2 rfl<|rE 8<|cO ?_;exact fT rfl (by rw[Qe (by have:=aE h1;omega) hk.2];rfl)
def FA(c:Ca)(k:Nat)(s:List Wy)(i:Nat)(x:Wy):Prop:=lineOf x.line=x.line∧xO c x.line=k∧(x.data.size=0∨x.data.size=16)∧iZ (s.take i) x.line=none
theorem mE(c:Ca)(k:Nat)(s:List Wy):wD c k s=true↔(s.length:Int)≤c.ways∧∀ i x,s[i]?=some x→FA c k s i x:=by
 unfold wD FA;simp only[aH,aS,iO,mZ];refine and_congr_right λ _=>⟨λ h i x hx=>?_,λ h i hi=>?_⟩
 ·have:=h i (DK.1 hx).1;rw[hx]at this;simp only[aH,dH,aS,iU]at this;exact⟨this.1.1.1,this.1.1.2,this.1.2,this.2⟩
 ·rw[aA hi];have:=h i _ (aA hi);simp only[aH,dH,aS,iU];exact⟨⟨⟨this.1,this.2.1⟩,this.2.2.1⟩,this.2.2.2⟩
theorem mK(c:Ca):iW c=true↔((c.sets.length=1∨c.sets.length=2∨c.sets.length=4)∧(c.ways=1∨c.ways=2))∧∀ k s,c.sets[k]?=some s→wD c k s=true:=by
 unfold iW;simp only[aH,dH,aS,iO,mZ];refine and_congr ?_ ⟨λ h k s hs=>?_,λ h k hk=>?_⟩
 ·rw[or_assoc]
 ·have:=h k (DK.1 hs).1
  rwa [hs]at this
 ·rw[aA hk];exact h k _ (aA hk)
theorem xM{c:Ca}(h: ¬ iW c=true):iW c=false:=by simpa using h
theorem AD{n:Nat}{w:Int}(h:dE (dE (dE (n != 1) (n != 2) false) (n != 4) false) true (dE (w != 1) (w != 2) false)=false):(n=1∨n=2∨n=4)∧(w=1∨w=2):=by
 simp only[c2]at h;constructor
 ·by_cases h1:n=1<;>by_cases h2:n=2<;>by_cases h4:n=4<;>simp_all
 ·by_cases h1:w=1
  ·exact .inl h1
  ·by_cases h2:w=2
   ·exact .inr h2
   ·simp[h1,h2]at h;omega
theorem JA{n:Nat}{w:Int}(h:dE (dE (dE (n != 1) (n != 2) false) (n != 4) false) true (dE (w != 1) (w != 2) false)=true): ¬ ((n=1∨n=2∨n=4)∧(w=1∨w=2)):=by
 rintro ⟨rfl|rfl|rfl,rfl|rfl⟩<;>simp[dE]at h
theorem Wf{c:Ca}{k j:Nat}{s:List Wy}{x:Wy}(h1:dE ((lineOf x.line) != x.line) true ((xO c x.line) != k)=false)(h2:dE ((x.data.size:Int) != 0) ((x.data.size:Int) != 16) false=false)(h3:(iZ (s.take j) x.line).isSome=false):FA c k s j x:=by
 simp only[c2]at h1 h2;refine⟨?_,?_,?_,by simpa using h3⟩
 ·by_cases h:lineOf x.line=x.line<;>simp_all
 ·by_cases h:xO c x.line=k<;>simp_all
 ·by_cases h:x.data.size=0
  ·exact .inl h
  ·right;simp_all;omega
theorem SV{c:Ca}{k j:Nat}{s:List Wy}{x:Wy}(h:dE ((lineOf x.line) != x.line) true ((xO c x.line) != k)=true): ¬ FA c k s j x:=λ q=>by
 rw[q.1,q.2.1]at h;simp[dE]at h
theorem SW{c:Ca}{k j:Nat}{s:List Wy}{x:Wy}(h:dE ((x.data.size:Int) != 0) ((x.data.size:Int) != 16) false=true): ¬ FA c k s j x:=λ q=>by
 rcases q.2.2.1 with e|e<;>rw[e]at h<;>simp[dE]at h
theorem SX{c:Ca}{k j:Nat}{s:List Wy}{x:Wy}(h:(iZ (s.take j) x.line).isSome=true): ¬ FA c k s j x:=λ q=>by
 rw[q.2.2.2]at h;cases h
theorem NL{c:Ca}{k:Nat}{s:List Wy}(hs:c.sets[k]?=some s)(h:wD c k s=true)(hk:∀ i s,i<k→c.sets[i]?=some s→wD c i s=true):∀ i s,i<k+1→c.sets[i]?=some s→wD c i s=true:=λ i s' hi hs'=>by
 by_cases e:i=k
 ·subst e;rw[hs]at hs';injection hs' with e;exact e ▸ h
 ·exact hk i s' omT hs'
theorem SY{c:Ca}{k j:Nat}{s:List Wy}{x:Wy}(hx:s[j]?=some x)(h:FA c k s j x)(hj:∀ i x,i<j→s[i]?=some x→FA c k s i x):∀ i x,i<j+1→s[i]?=some x→FA c k s i x:=λ i x' hi hx'=>by
 by_cases e:i=j
 ·subst e;rw[hx]at hx';injection hx' with e;exact e ▸ h
 ·exact hj i x' omT hx'
theorem BZ(c:Ca)(ck:Bool)(hok:c.ok):bT C0 85 [.agg (caL c ck)] (vB (iW c)):=by
 refine bT.intro c0Ok Tryz.func85 rfl rfl (by kernel_rfl) rfl<|cSR<|rAl 0 rfl rfl<|oR 1 rfl<|rE 2<|cSR<|oR 2 rfl<|rW (vN c.sets.length) rfl (cG cE c.sets)<|oR 1 rfl<|rE 6<|bK<|cSR<|oR 1 rfl<|rW (vB (c.sets.length != 1)) rfl (okB (neN _ _))<|oR 1 rfl<|gN rfl<|gBS (x:=vB (c.sets.length != 2)) rfl id (okB (neN _ _))<|cS rfl rfl rfl (λ h=>h)<|oR 1 rfl<|gN rfl<|gBS (x:=vB (c.sets.length != 4)) rfl id (okB (neN _ _))<|cS rfl rfl rfl (λ h=>h)<|oR 1 rfl<|gN rfl<|gS rfl id<|gBS (x:=vB (c.ways != 1)) rfl id rfl<|gS rfl id<|gN rfl<|gS rfl id<|gBS (x:=vB (c.ways != 2)) rfl id rfl<|vW (x:=vB (dE (c.ways != 1) (c.ways != 2) false)) (g:= !(dE (dE (c.sets.length != 1) (c.sets.length != 2) false) (c.sets.length != 4) false)) rfl rfl rfl rfl (λ h=>h) rfl rfl (λ hg hc=>by first|(rw[hg,hc];rfl)|simp_all)<|cS rfl rfl rfl (by simp)<|rE 26<|aV rfl (λ h1=>?_) (λ h1=>?_)
 ·refine cSR<|oR 1 rfl<|rE 27<|cO ?_;exact fB (x:=false) rfl (xM (c:=c) (λ q=>JA h1 ((mK c).1 q).1)).symm
 ·refine bB<|bK<|cSR<|oR 2 rfl<|rW (vN c.sets.length) rfl (cG cE c.sets)<|oR 1 rfl<|rE 30<|bL<|oE (κ:=Nat) (λ k=>⟨slotsF [(1,.ptr 0 0),(3,vN c.sets.length),(34,.sl 1 (c.sets.map cE) ck),(35,vN c.sets.length),(36,vN k)],heapF [(0,.box [vI c.ways,.sl 1 (c.sets.map cE) ck])],30⟩) (λ k=>k≤c.sets.length∧∀ i s,i<k→c.sets[i]?=some s→wD c i s=true) (λ k=>c.sets.length - k) 0 (λ s=>s) (Weak.of_lists (λ s=>s) wT wH rfl) (⟨aD _,λ i s h=>absurd h (dT i)⟩) ?_;intro k hk;have hkB:k≤1000000:=by have:=hk.1;have:=(AD h1).1;omega
  refine cSR<|rW (vB (decide (k<c.sets.length))) rfl (okB (ltN _ _))<|rE 31<|bK<|aV rfl (λ h2=>?_) (λ h2=>?_)
  ·refine bB<|bK<|bL<|cSR<|oR 1 rfl ?_;obtain⟨s,hs⟩:∃ s,c.sets[k]?=some s:=⟨_,aA (of_decide_eq_true h2)⟩;have hso:=hok.set s (aB hs);refine rIx (cE s) (.dp 1 0 (cE s)) rfl rfl (jH hs) rfl<|oR 3 rfl<|rE 36<|bK<|cSR<|oR 1 rfl<|rW (vN s.length) rfl (cG wyL s)<|oR 2 rfl<|rV (vB (decide (((s.length:Nat):Int)>c.ways))) rfl<|rE 41<|aV rfl (λ h3=>?_) (λ h3=>?_)
   ·refine cSR<|oR 1 rfl<|rE 42<|cO ?_;exact fB (x:=false) rfl (xM (c:=c) (λ q=>absurd ((mE c k s).1 (((mK c).1 q).2 k s hs)).1 (by have:=of_decide_eq_true h3;omega))).symm
   ·refine bB<|cSR<|oR 1 rfl<|rW (vN s.length) rfl (cG wyL s)<|oR 1 rfl<|rE 44<|bL<|oE (κ:=Nat) (λ j=>⟨slotsF [(1,.ptr 0 0),(3,vN c.sets.length),(34,.sl 1 (c.sets.map cE) ck),(35,vN c.sets.length),(36,vN k),(4,vN k),(5,.sl 3 (s.map wyL) false),(46,.sl 3 (s.map wyL) false),(47,vN s.length),(48,vN j)],heapF [(0,.box [vI c.ways,.sl 1 (c.sets.map cE) ck])],44⟩) (λ j=>j≤s.length∧∀ i x,i<j→s[i]?=some x→FA c k s i x) (λ j=>s.length - j) 0 (λ s=>s) (Weak.of_lists (λ s=>s) wT wH rfl) (⟨aD _,λ i s h=>absurd h (dT i)⟩) ?_;intro j hj;have hjB:j≤1000000:=by have:=hj.1;have:=(AD h1).2;have:=aE h3;omega
    refine cSR<|rW (vB (decide (j<s.length))) rfl (okB (ltN _ _))<|rE 45<|bK<|aV rfl (λ h4=>?_) (λ h4=>?_)
    ·refine bB<|bK<|bL<|cSR<|oR 1 rfl ?_;obtain⟨x,hx⟩:∃ x,s[j]?=some x:=⟨_,aA (of_decide_eq_true h4)⟩;have hxo:=hso.2 x (aB hx);refine rIx (wyL x) (.dp 3 0 (wyL x)) rfl rfl (jH hx) rfl<|oR 1 rfl<|rAl 48 rfl rfl<|oR 1 rfl<|rSt rfl<|rE 51<|bK<|cSR<|oR 2 rfl<|rCi rfl (tC x.line hxo.line)<|oR 2 rfl<|rW (vB ((lineOf x.line) != x.line)) rfl (okB (neN _ _))<|oR 1 rfl<|gN rfl<|gN rfl<|gS rfl id<|lX (x:=vN (xO c x.line)) (g:= !((lineOf x.line) != x.line)) rfl rfl rfl rfl (λ h=>by simp_all) rfl rfl rfl (.inl rfl) rfl (λ hg=>UB c x.line ck (by have:=of_decide_eq_true h2;omega) (by have:=(AD h1).1;omega) hxo.line)<|gN rfl<|gBS (x:=vB ((xO c x.line) != k)) rfl (λ h=>by simp_all) (okB (neN _ _))<|cS rfl rfl rfl (by simp)<|rE 65<|aV rfl (λ h5=>?_) (λ h5=>?_)
     ·refine cSR<|oR 1 rfl<|rE 66<|cO ?_;exact fB (x:=false) rfl (xM (c:=c) (λ q=>SV h5 (((mE c k s).1 (((mK c).1 q).2 k s hs)).2 j x hx))).symm
     ·refine bB<|bK<|cSR<|oR 2 rfl<|rV (vI (x.data.size:Int)) rfl<|rV (vB ((x.data.size:Int) != 0)) rfl<|oR 1 rfl<|gN rfl<|gS rfl id<|gBS (x:=vI (x.data.size:Int)) rfl id rfl<|gBS (x:=vB ((x.data.size:Int) != 16)) rfl id rfl<|cS rfl rfl rfl (λ h=>h)<|rE 75<|aV rfl (λ h6=>?_) (λ h6=>?_)
      ·refine cSR<|oR 1 rfl<|rE 76<|cO ?_;exact fB (x:=false) rfl (xM (c:=c) (λ q=>SW h6 (((mE c k s).1 (((mK c).1 q).2 k s hs)).2 j x hx))).symm
      ·refine bB<|cSR<|oR 2 rfl<|nW (.sl 3 (List.drop 0 (List.take j (s.map wyL))) false) rfl rfl (⟨kQ _,aF _,by show (j:Int)≤(((s.map wyL).length:Nat):Int);rw[aJ];have:=of_decide_eq_true h4;omega⟩)<|oR 2 rfl<|rCl (x:=.tup [vN ((iZ (s.take j) x.line).getD 0),vB ((iZ (s.take j) x.line).isSome)]) rfl (.inl rfl) (by show bT C0 _ [.sl 3 (List.drop 0 (List.take j (s.map wyL))) false,_] _;rw[cH, ←fU];exact UC (s.take j) x.line false (by rw[aN];omega) (λ y hy=>hso.2 y (cK hy)) hxo.line)<|oR 5 rfl<|rE 86<|cSR<|oR 1 rfl<|rE 87<|aV rfl (λ h7=>?_) (λ h7=>?_)
       ·refine cSR<|oR 1 rfl<|rE 88<|cO ?_;exact fB (x:=false) rfl (xM (c:=c) (λ q=>SX h7 (((mE c k s).1 (((mK c).1 q).2 k s hs)).2 j x hx))).symm
       ·refine bB<|cRg ?_;have b1:j+1≤1000001:=aG hjB (aC 1);refine rW (vN (j+1)) rfl (okI (bU b1 rfl))<|oR 1 rfl<|rE 89 ?_;refine⟨j+1,λ s=>s,Weak.of_lists _ wT wH rfl,⟨of_decide_eq_true h4,SY hx (Wf h5 h6 h7) hj.2⟩,by have:=of_decide_eq_true h4;show s.length - (j+1)<s.length - j;omega⟩
    ·refine eP<|cRg ?_;have b2:k+1≤1000001:=aG hkB (aC 1);refine rW (vN (k+1)) rfl (okI (bU b2 rfl))<|oR 1 rfl<|rE 47 ?_;refine⟨k+1,λ s=>s,Weak.of_lists _ wT wH rfl,⟨of_decide_eq_true h2,NL hs ((mE c k s).2 ⟨by have:=aE h3;omega,λ i y hy=>hj.2 i y (by have:=(DK.1 hy).1;have:=aE h4;omega) hy⟩) hk.2⟩,by have:=of_decide_eq_true h2;show c.sets.length - (k+1)<c.sets.length - k;omega⟩
  ·refine eP<|cSR<|oR 1 rfl<|rE 32<|cO ?_;exact fB (x:=true) rfl ((mK c).2 ⟨AD h1,λ i s hs=>hk.2 i s (by have:=(DK.1 hs).1;have:=aE h2;omega) hs⟩).symm
def Ym:AV:=.sl 0 [] true
theorem vG(rs:Nat)(c:Bool):Sub (.sl 0 [] true) (.sl rs [] c):=λ S w v h=>by
 cases h with
 |sl _ _ _ A c0 b o u hc hm hcl hrs hA hw h1 hr=>exact .sl rs [] c A c0 b o u hc hm (λ _=>hcl rfl) (λ _ h=>by cases h) (λ h=>absurd h (dU 0)) (λ i row j a h=>by simp at h) h1 λ i row j a h=>by simp at h
theorem Sub.sl{rs:Nat}{rows rows':List (List AV)}{clip:Bool}(hl:rows.length=rows'.length)(hw:∀ (i:Nat) row row',rows[i]?=some row→rows'[i]?=some row'→row.length=row'.length∧∀ (j:Nat) a b,row[j]?=some a→row'[j]?=some b→Sub a b):Sub (.sl rs rows clip) (.sl rs rows' clip):=λ S w v h=>by
 cases h with
 | sl _ _ _ A c b o u hc hm hcl hrs hA hv h1 hr=>
  rw[hl];have back:∀ (i:Nat) row',rows'[i]?=some row'→∃ row,rows[i]?=some row:=λ i row' h=>⟨_,aA (by rw[hl];exact (DK.1 h).1)⟩;have back2:∀ (i:Nat) row row' (j:Nat) b,rows[i]?=some row→rows'[i]?=some row'→row'[j]?=some b→∃ a,row[j]?=some a:=λ i row row' j b h h' hj=>⟨_,aA (by rw[(hw i row row' h h').1];exact (DK.1 hj).1)⟩;refine .sl rs rows' clip A c b o u (hl ▸ hc) hm (λ e=>(hcl e).trans hl) (λ row' hr'=>?_) (λ h0=>hA omT) (λ i row' j a hi hj=>?_) h1 λ i row' j a hi hj=>?_
  ·obtain⟨i,hi,rfl⟩:=eC hr';obtain⟨row,hrow⟩:=back i _ (aA hi);rw[←(hw i row _ hrow (aA hi)).1];exact hrs row (aB hrow)
  ·obtain⟨row,hrow⟩:=back i row' hi;obtain⟨x,hx⟩:=back2 i row row' j a hrow hi hj;exact hv i row j x hrow hx
  ·obtain⟨row,hrow⟩:=back i row' hi;obtain⟨x,hx⟩:=back2 i row row' j a hrow hi hj;exact (hw i row row' hrow hi).2 j x a hx hj S w _ (hr i row j x hrow hx)
def Yh:List AV→List AV→Prop
 |[],[]=>True
 |a::xs,b::ys=>Sub a b∧Yh xs ys
 |_,_=>False
theorem Yh.get:∀ {xs ys:List AV},Yh xs ys→xs.length=ys.length∧∀ (i:Nat) a b,xs[i]?=some a→ys[i]?=some b→Sub a b
 |[],[],_=>⟨rfl,λ i a b h=>by simp at h⟩
 |x::xs,y::ys,h=>by
  obtain⟨h1,h2⟩:=Yh.get h.2;refine⟨by simp[h1],λ i a b ha hb=>?_⟩
  cases i with
  |zero=>simp at ha hb;subst ha;subst hb;exact h.1
  |succ i=>exact h2 i a b (by simpa using ha) (by simpa using hb)
 |[],_::_,h=>h.elim
 |_::_,[],h=>h.elim
theorem Sub.agg{xs ys:List AV}(h:Yh xs ys):Sub (.agg xs) (.agg ys):=λ S w v hv=>by
 cases hv with
 |agg _ vs hl h1 hr=>
  refine .agg ys vs (h.get.1 ▸ hl) h1 λ i b u p q=>?_;have hi:i<xs.length:=by rw[h.get.1];exact (DK.1 p).1
  exact h.get.2 i xs[i] b (aA hi) p S w u (hr i _ u (aA hi) q)
theorem Sub.tup{xs ys:List AV}(h:Yh xs ys):Sub (.tup xs) (.tup ys):=λ S w v hv=>by
 cases hv with
 |tup _ vs hl hr=>
  refine .tup ys vs (h.get.1 ▸ hl) λ i b u p q=>?_;have hi:i<xs.length:=by rw[h.get.1];exact (DK.1 p).1
  exact h.get.2 i xs[i] b (aA hi) p S w u (hr i _ u (aA hi) q)
theorem Sub.clip(rs:Nat)(rows:List (List AV))(c:Bool):Sub (.sl rs rows c) (.sl rs rows false):=λ S w v h=>by
 cases h with
 |sl _ _ _ A c0 b o u hc hm hcl hrs hA hw h1 hr=>exact .sl rs rows false A c0 b o u hc hm (λ h=>by cases h) hrs hA hw h1 hr
theorem Mv(n:Nat):Sub (.sl 1 (List.replicate n [Ym]) false) (.sl 1 (List.replicate n (cE [])) false):=by
 refine Sub.sl (by simp) λ i row row' h h'=>?_;have e1:=jF (aB h);have e2:=jF (aB h');subst e1;subst e2;refine⟨rfl,λ j a b ha hb=>?_⟩
 cases j with
 |zero=>injection ha with ha;injection hb with hb;subst ha;subst hb;exact vG 3 false
 |succ j=>simp at ha
abbrev gsL(x:Gs):List AV:=[.v (.int .u32 (x.pc:Int)),.v (.int .u32 (x.next:Int))]
abbrev guL(g:Gu):List AV:=[.sl 2 (g.slots.map gsL) false,.v (.int .u32 (g.hist:Int)),.sl 1 (g.rets.map iI) false]
theorem UA(sets ways:Int):bT C0 41 [vI sets,vI ways] (.agg (caL (Ce sets ways) false)):=by
 refine bT.intro c0Ok Tryz.func41 rfl rfl (by kernel_rfl) rfl ?_;obtain⟨L,hLe,hL,hL1⟩:∃ L:Nat,bG sets 1 4=(L:Int)∧L≤4∧1≤L:=⟨(bG sets 1 4).toNat,by unfold bG;(repeat' split)<;>omega,by unfold bG;(repeat' split)<;>omega,by unfold bG;(repeat' split)<;>omega⟩;refine cSR<|rAl 0 rfl rfl<|rE 1<|cSR<|oR 1 rfl<|rV (vI (if 1>sets then 1 else sets)) rfl<|rW (vN L) rfl (congrArg (λ z:Int=>Res.ok (.v (.int .i64 z))) hLe)<|oR 1 rfl<|rE 5<|bK<|cSR<|oR 1 rfl<|rW (vB (L==3)) rfl (okB (eqN _ _))<|rE 7<|aV rfl (λ h1=>?_) (λ h1=>?_)
 ·refine cRg<|oR 1 rfl<|rE 8<|cSR<|oR 1 rfl<|rV (vI (if 1>ways then 1 else ways)) rfl<|rV (vI (if 2<(if 1>ways then 1 else ways)then 2 else (if 1>ways then 1 else ways))) rfl<|oR 1 rfl<|rFx (x:=.osl 12 0 2 false) (h':=upd _ 12 (some (.arr (List.replicate 2 [.sl 0 ([]) true]) 1))) rfl rfl (rfl) (⟨by decide,by decide,by decide⟩)<|rV (.agg [vI (if 2<(if 1>ways then 1 else ways)then 2 else (if 1>ways then 1 else ways)),.osl 12 0 2 false]) rfl<|rSt rfl<|rE 15<|cO ?_;have e:(Ce sets ways).sets=List.replicate 2 []:=by show List.replicate (if bG sets 1 4=3 then 2 else bG sets 1 4).toNat []=_;rw[hLe];rw[if_pos (by have:L=3:=(by simpa using h1);omega)];rfl
  refine⟨_,rfl,⟨trivial,by show 0+2≤(List.replicate 2 [Ym]).length;rw[cQ];omega,trivial⟩,rfl,Sub.agg ⟨Sub.refl _,?_,trivial⟩⟩;show Sub (.sl 1 (List.take 2 (List.drop 0 (List.replicate 2 [Ym]))) false) (.sl 1 ((Ce sets ways).sets.map cE) false);rw[e,cH,aM (by rw[cQ];exact aC _),gM];exact Mv 2
 ·refine bB<|cSR<|oR 1 rfl<|rV (vI (if 1>ways then 1 else ways)) rfl<|rV (vI (if 2<(if 1>ways then 1 else ways)then 2 else (if 1>ways then 1 else ways))) rfl<|oR 1 rfl<|rFx (x:=.osl 11 0 L false) (h':=upd _ 11 (some (.arr (List.replicate L [.sl 0 ([]) true]) 1))) rfl rfl (rfl) (⟨aF _,kQ _,by show (L:Int)≤1000000;have:=hL;omega⟩)<|rV (.agg [vI (if 2<(if 1>ways then 1 else ways)then 2 else (if 1>ways then 1 else ways)),.osl 11 0 L false]) rfl<|rSt rfl<|rE 14<|cO ?_;have e:(Ce sets ways).sets=List.replicate L []:=by show List.replicate (if bG sets 1 4=3 then 2 else bG sets 1 4).toNat []=_;rw[hLe];rw[if_neg (by have: ¬ L=3:=(by simpa using h1);omega)];rfl
  refine⟨_,rfl,⟨trivial,by show 0+L≤(List.replicate L [Ym]).length;rw[cQ];omega,trivial⟩,rfl,Sub.agg ⟨Sub.refl _,?_,trivial⟩⟩;show Sub (.sl 1 (List.take L (List.drop 0 (List.replicate L [Ym]))) false) (.sl 1 ((Ce sets ways).sets.map cE) false);rw[e,cH,aM (by rw[cQ];exact aC _),gM];exact Mv L
theorem Yi:bT C0 43 [] (.agg (guL Yo)):=by
 refine bT.intro c0Ok Tryz.func43 rfl rfl (by kernel_rfl) rfl<|cSR<|rAl 0 rfl rfl<|rE 1<|cSR<|rFx (x:=.osl 1 0 8 false) (h':=upd _ 1 (some (.arr (List.replicate 8 [.v (.int .u32 0),.v (.int .u32 0)]) 2))) rfl rfl (rfl) (⟨by decide,by decide,by decide⟩)<|rV (.agg [.osl 1 0 8 false,.v (.int .u32 0),.sl 0 ([]) true]) rfl<|rSt rfl<|rE 4<|cO ?_;refine⟨_,rfl,⟨by show 0+8≤_;decide,trivial,trivial,trivial⟩,rfl,Sub.agg ⟨Sub.refl _,Sub.refl _,vG 1 false,trivial⟩⟩
abbrev ftL(x:Ft):List AV:=[.v (.int .u32 (x.pc:Int)),.v (.int .u32 (x.guess:Int))]
abbrev ptL(x:Pt):List AV:=[.v (.int .u32 (x.addr:Int)),.v (.string x.data)]
abbrev enL(e:Ent):List AV:=[.v (.int .i64 e.no),.v (.int .u32 (e.pc:Int)),.v (.int .i64 e.i.op),.v (.int .i64 e.i.rd),.v (.int .i64 e.i.rs1),.v (.int .i64 e.i.rs2),.v (.int .u32 (e.i.imm:Int)),.v (.int .u32 (e.guess:Int)),.v (.int .i64 e.is),.v (.int .i64 e.left),.v (.int .u32 (e.value:Int)),.v (.int .u32 (e.next:Int)),.v (.int .u32 (e.addr:Int)),.v (.int .i64 e.halt),.v (.int .i64 e.took),.v (.bool e.known),.v (.bool e.filled)]
abbrev coL(c:Co):List AV:=[.v (.int .i64 c.conf.mode),.v (.int .i64 c.conf.width),.v (.int .i64 c.conf.rob),.v (.int .i64 c.conf.queue),.v (.int .i64 c.conf.stores),.v (.int .i64 c.conf.slots),.v (.int .i64 c.conf.sets),.v (.int .i64 c.conf.ways),.sl 1 (c.conf.lat.map jL) false,.v (.bool c.conf.tables),.sl 1 (c.conf.tape.map iI) false,.sl 1 (c.prog.map iI) false,.v (.int .i64 c.cycle),.v (.int .u32 (c.r 0:Int)),.v (.int .u32 (c.r 1:Int)),.v (.int .u32 (c.r 2:Int)),.v (.int .u32 (c.r 3:Int)),.v (.int .u32 (c.r 4:Int)),.v (.int .u32 (c.r 5:Int)),.v (.int .u32 (c.r 6:Int)),.v (.int .u32 (c.r 7:Int)),.v (.int .u32 (c.r 8:Int)),.v (.int .u32 (c.r 9:Int)),.v (.int .u32 (c.r 10:Int)),.v (.int .u32 (c.r 11:Int)),.v (.int .u32 (c.r 12:Int)),.v (.int .u32 (c.r 13:Int)),.v (.int .u32 (c.r 14:Int)),.v (.int .u32 (c.r 15:Int)),.v (.int .u32 (c.r 16:Int)),.v (.int .u32 (c.r 17:Int)),.v (.int .u32 (c.r 18:Int)),.v (.int .u32 (c.r 19:Int)),.v (.int .u32 (c.r 20:Int)),.v (.int .u32 (c.r 21:Int)),.v (.int .u32 (c.r 22:Int)),.v (.int .u32 (c.r 23:Int)),.v (.int .u32 (c.r 24:Int)),.v (.int .u32 (c.r 25:Int)),.v (.int .u32 (c.r 26:Int)),.v (.int .u32 (c.r 27:Int)),.v (.int .u32 (c.r 28:Int)),.v (.int .u32 (c.r 29:Int)),.v (.int .u32 (c.r 30:Int)),.v (.int .u32 (c.r 31:Int)),.v (.int .u32 (c.fetch:Int)),.v (.bool c.stop),.sl 2 (c.fetched.map ftL) false,.sl 17 (c.rob.map enL) false,.v (.int .i64 c.next),.sl 2 (c.stores.map ptL) false,.v (.int .i64 c.data.ways),.sl 1 (c.data.sets.map cE) false,.v (.int .i64 c.words.ways),.sl 1 (c.words.sets.map cE) false,.sl 4 (c.bus.map rqL) false,.v (.int .i64 c.asked),.v (.int .i64 c.guessed),.v (.string c.mem),.sl 2 (c.guess.slots.map gsL) false,.v (.int .u32 (c.guess.hist:Int)),.sl 1 (c.guess.rets.map iI) false,.v (.int .i64 c.halt),.sl 9 (c.retired.map spL) false]
theorem bT.sub{C:Ctx}{f:FuncId}{args:List AV}{r r':AV}(h:bT C f args r)(k:Sub r r'):bT C f args r':=⟨h.1,λ S w vs a b c=>(h.2 S w vs a b c).mono λ e w' ⟨v,p,q,s⟩=>⟨v,p,q,k _ _ _ s⟩⟩
theorem Qd(k:Nat):bT C0 40 [.v (.slice none 0 k)] (.sl 0 [] true):=by
 refine bT.intro c0Ok Tryz.func40 rfl rfl (by kernel_rfl) rfl<|cSR<|oR 1 rfl<|rE 1<|bK<|cSR<|oR 1 rfl<|rV (vB true) rfl<|rE 3<|aV rfl (λ _=>?_) (λ h=>by cases h);refine cSR<|oR 1 rfl<|rE 4<|cO ?_;exact fT rfl rfl
theorem Fy{P:Program}{w:World}(t ty e:TypeId)(i:TypeInfo)(ht:P.underlying t=some (.slice e))(hi:P.info? e=some i)(A0:Option Addr)(c0:Nat)(a:Addr)(k:Nat):
  (Builtin.append_ #[t,t] ty #[.slice A0 0 c0,.slice (some a) 0 k]).run P w=.ok (.slice A0 0 c0) w:=by
 have hl:(loadCells a 0).run P w=.ok #[] w:=rfl;cases A0<;>simp[Builtin.append_,run_underlying ht,sizeOf,typeInfo,hi,Builtin.lenOf,Builtin.firstCells,storeCells,hl]
theorem xL{P:Program}{w:World}{ops:Array Oper}{rest:List Oper}{o:Oper}{a:Act}{Q:Exit→Act→World→Prop}(hgd:o.guard=none)(s x:Operand)(t:TypeId)
  (ho:o.op=.call {callee:=.builtin .append,args:= #[s,x],argTypes:= #[t,t]}) (e:TypeId) (i:TypeInfo) (ht:P.underlying t=some (.slice e)) (hi:P.info? e=some i)
  (A0:Option Addr) (c0:Nat) (b:Addr) (k:Nat) (hs:a.eval s=.slice A0 0 c0) (hx:a.eval x=.slice (some b) 0 k)
  (h:wpList P ops Q rest (a.put o.dst (.slice A0 0 c0)) w):wpList P ops Q (o::rest) a w:=by
 refine wpList_plain hgd λ K hK=>?_;have hrun:=Fy (P:=P) (w:=w) t o.type e i ht hi A0 c0 b k;unfold Oper.wp;simp[execOp,ho,resolve,invoke,builtin,hs,hx,hrun,Result.andThen];exact hK _ _ h
theorem Yj(a:Addr)(k:Nat)(w:World):Calls Tryz.prog 40 #[.slice (some a) 0 k] w λ e w'=>∃ v,e=.returned v∧Below w.heap.size w w'∧∃ A c,v=.slice A 0 c∧c≤maxLen:=by
 obtain⟨i0,z0,hi, -⟩:=(c0Ok.ty 26 _ rfl).info
 go_enter Tryz.func40,Tryz.ntmps40
 have hb:Sem.run Tryz.prog (binOp .eql 23 (.slice (some a) 0 k) (.slice none 0 0)) w=.ok (.bool false) w:=by
  have e1:(Op.equal 23 (.slice (some a) 0 k) (.slice none 0 0)).run Tryz.prog w=.ok (some a).isNone w:=AY Tryz.prog w 9999 _ 26 (c0Ok.ty 23 _ rfl).kd _ _ _;simp only[binOp,Sem.run_bind,e1,Result.andThen_ok];rfl
 go_wp2_with (first|(rw[hb];simp only[Result.andThen_ok,Oper.upon])|(at_builtin;refine xL rfl (.tmp 5) (.tmp 6) 23 rfl 26 i0 (c0Ok.ty 23 _ rfl).kd hi _ _ _ _ rfl rfl ?_))
 go_ret
 exact⟨_,rfl,(Below.refl _ _).alloc (aC _) _,_,_,rfl,aD _⟩
theorem We(x:List AV)(xs:List (List AV))(ck:Bool)(hl:(x::xs).length≤1000000):bT C0 40 [.sl 1 (x::xs) ck] (.sl 1 (x::xs) false):=by
 refine bT.intro c0Ok Tryz.func40 rfl rfl (by kernel_rfl) rfl<|cSR<|oR 1 rfl<|rE 1<|bK<|cSR<|oR 1 rfl<|rV (vB false) rfl<|rE 3<|aV rfl (λ h=>by cases h) (λ _=>?_);refine bB<|cSR<|rV (.sl 1 ([]) true) rfl<|oR 1 rfl<|rFx (x:=.osl 5 0 (0+(x::xs).length) false) (h':=upd _ 5 (some (.arr (([])++(x::xs)) 1))) rfl rfl (rfl) (⟨by first|(exact Nat.succ_pos _)|(simp only[cR,bR];exact hl),by first|(exact Nat.succ_pos _)|(simp only[cR,bR];exact hl),trivial,trivial⟩)<|oR 1 rfl<|rE 7<|cO ?_;refine⟨_,rfl,(by show 0+(0+(x::xs).length)≤(x::xs).length;omega),rfl,?_⟩;show Sub (.sl 1 (List.take (0+(x::xs).length) (List.drop 0 ([]++(x::xs)))) false) _;rw[cH,iA,bR,aM (aC _)];exact Sub.refl _
theorem Yk(rows:List (List AV))(ck:Bool)(hl:rows.length≤1000000):bT C0 40 [.sl 1 rows ck] (.sl 1 rows false):=by
 match rows,hl with
 |x::xs,hl=>exact We x xs ck hl
 | [],_=>
  refine⟨(Qd 0).1,λ S w vs hS hG hr=>?_⟩
  match vs,hr with
  |[],hr=>simp[RepL]at hr
  |_::_::_,hr=>simp[RepL]at hr
  | [v],hr=>
   have h0:=hr.2 0 _ v rfl rfl
   cases h0 with
   | sl _ _ _ A c b o u hc hm hcl hrs hA hw h1 h'=>
    cases A with
    |none=>exact ((Qd c).sub (vG 1 false)).2 S w _ hS hG (RepL.cons (.v _) (RepL.nil _ _ _))
    |some a=>
     exact (Yj a c w).mono λ e w' ⟨v,h1,h2,A,c',h3,h4⟩=>⟨v,h1,h2,h3 ▸ .sl 1 [] false A c' 0 0 (λ _ _=>.bool false) (aD _) h4 (λ h=>by cases h) (λ _ h=>by cases h) (λ h=>absurd h (dU 0)) (λ i row j a h=>by simp at h) (λ _ _=>rfl) λ i row j a h=>by simp at h⟩
def qP(c:Cf)(prog:List Nat)(m:ByteArray):Co:=
 {conf:=bO c,prog:=prog.take (min prog.length 64),cycle:=0,r:=λ _=>0,fetch:=0,stop:=false,fetched:=[],rob:=[],next:=1,stores:=[],data:=Ce (bO c).sets (bO c).ways,words:=Ce (bO c).sets (bO c).ways,bus:=[],asked:=0,guessed:=0,mem:=pF m,guess:=Yo,halt:=0,retired:=[]}
theorem Yl(c:Cf)(prog:List Nat)(m:ByteArray)(hok:c.ok)(hl:prog.length≤1000000):bT C0 15 [.agg (cfL c false false),.sl 1 (prog.map iI) false,.v (.string m)] (.agg (coL (qP c prog m))):=by
 refine bT.intro c0Ok Tryz.func15 rfl rfl (by kernel_rfl) rfl<|cSR<|rAl 0 rfl rfl<|rAl 1 rfl rfl<|rE 2<|cSR<|oR 1 rfl<|rCi rfl (Id c false false hok)<|rSt rfl<|rE 5<|cSR<|oR 3 rfl<|rW (vN prog.length) rfl (cG iI prog)<|rW (vN (min prog.length 64)) rfl (Cb prog.length 64)<|nW (.sl 1 (List.drop 0 (List.take (min prog.length 64) (prog.map iI))) false) rfl rfl (⟨kQ _,by show (0:Int)≤((min prog.length 64:Nat):Int);omega,by show ((min prog.length 64:Nat):Int)≤(((prog.map iI).length:Nat):Int);rw[aJ];omega⟩)<|rCi rfl (Yk (List.drop 0 (List.take (min prog.length 64) (prog.map iI))) _ (by rw[bD,aN,aJ];omega))<|oR 4 rfl<|rCi rfl (UA (bO c).sets (bO c).ways)<|oR 4 rfl<|rCi rfl (UA (bO c).sets (bO c).ways)<|oR 1 rfl<|rCi rfl (UE m)<|rCi rfl (Yi)<|rV (.agg [vI ((bO c).mode),vI ((bO c).width),vI ((bO c).rob),vI ((bO c).queue),vI ((bO c).stores),vI ((bO c).slots),vI ((bO c).sets),vI ((bO c).ways),.sl 1 ((bO c).lat.map jL) false,vB ((bO c).tables),.sl 1 ((bO c).tape.map iI) false,.sl 1 (List.drop 0 (List.take (min prog.length 64) (prog.map iI))) false,vI 0,zU,zU,zU,zU,zU,zU,zU,zU,zU,zU,zU,zU,zU,zU,zU,zU,zU,zU,zU,zU,zU,zU,zU,zU,zU,zU,zU,zU,zU,zU,zU,zU,zU,vB false,.sl 0 ([]) true,.sl 0 ([]) true,vI 1,.sl 0 ([]) true,vI ((Ce (bO c).sets (bO c).ways).ways),.sl 1 ((Ce (bO c).sets (bO c).ways).sets.map cE) false,vI ((Ce (bO c).sets (bO c).ways).ways),.sl 1 ((Ce (bO c).sets (bO c).ways).sets.map cE) false,.sl 0 ([]) true,vI 0,vI 0,.v (.string (pF m)),.sl 2 (Yo.slots.map gsL) false,vU Yo.hist,.sl 1 (Yo.rets.map iI) false,vI 0,.sl 0 ([]) true]) rfl<|rSt rfl<|rE 27<|cO ?_;exact⟨_,rfl,tvT,rfl,Sub.agg ⟨Sub.refl _,Sub.refl _,Sub.refl _,Sub.refl _,Sub.refl _,Sub.refl _,Sub.refl _,Sub.refl _,Sub.refl _,Sub.refl _,Sub.refl _,(by show Sub (.sl 1 (List.drop 0 (List.take (min prog.length 64) (prog.map iI))) false) (.sl 1 ((prog.take (min prog.length 64)).map iI) false);rw[cH, ←fU];exact Sub.refl _),Sub.refl _,Sub.refl _,Sub.refl _,Sub.refl _,Sub.refl _,Sub.refl _,Sub.refl _,Sub.refl _,Sub.refl _,Sub.refl _,Sub.refl _,Sub.refl _,Sub.refl _,Sub.refl _,Sub.refl _,Sub.refl _,Sub.refl _,Sub.refl _,Sub.refl _,Sub.refl _,Sub.refl _,Sub.refl _,Sub.refl _,Sub.refl _,Sub.refl _,Sub.refl _,Sub.refl _,Sub.refl _,Sub.refl _,Sub.refl _,Sub.refl _,Sub.refl _,Sub.refl _,Sub.refl _,Sub.refl _,vG 2 false,vG 17 false,Sub.refl _,vG 2 false,Sub.refl _,Sub.refl _,Sub.refl _,Sub.refl _,vG 4 false,Sub.refl _,Sub.refl _,Sub.refl _,Sub.refl _,Sub.refl _,Sub.refl _,Sub.refl _,vG 9 false,trivial⟩⟩
theorem MJ(l:List Nat)(k:Nat):(l.take k).sum≤l.sum:=by
 have:=congrArg List.sum (gF k l);rw[List.sum_append]at this;omega
noncomputable def CIR:Ctx:={P:=Tryz.prog,ty:=tys.find,G:=λ _=>none,H:=pL Tryz.prog (λ _=>none)}
theorem cirOk:CtxOk CIR:=⟨TT.find_ok tys Yr,by kernel_rfl,λ _ _ _ _ _ h=>h⟩
def Xl(p:Nat×Nat):List AV:=[vN p.1,vN p.2]
def Zb(f:Nat):Nat:=if 2≤f∧f≤7 then 2 else 0
theorem Wt(op:Int):bT CIR 190 [vI op] (vN (cL op)):=.of_flat Tryz.func190 rfl rfl rfl rfl λ w=>(BE op w).mono λ _ _ ⟨a,b⟩=>⟨a,b ▸ qU _⟩
theorem Yv(f:Nat)(hf:f≤8):bT CIR 193 [vN f] (.tup [vB (uA f),vB (pB f),vB (pZ f)]):=.of_tup Tryz.func193 rfl rfl rfl rfl λ w=>(KO f hf w).mono λ _ _ ⟨a,b⟩=>⟨a,b ▸ qU _⟩
theorem DG(x a n:Nat)(h1:1≤n)(h2:a+n≤32)(hx:x<4294967296):bT CIR 215 [vU x,vN a,vN n] (vU (field x a n)):=.of_flat Tryz.func215 rfl rfl rfl rfl λ w=>Pa x a n w h1 h2 hx
theorem Yw(x a n v:Nat)(h1:1≤n)(h2:a+n≤32)(hx:x<4294967296)(hv:v<4294967296):bT CIR 194 [vU x,vN a,vN n,vU v] (vU (setf x a n v)):=.of_flat Tryz.func194 rfl rfl rfl rfl λ w=>Pb x a n v w h1 h2 hx hv
theorem Wu(x n:Nat)(h1:1≤n)(h2:n≤32)(hx:x<4294967296):bT CIR 197 [vU x,vN n] (vU (sext x n)):=.of_flat Tryz.func197 rfl rfl rfl rfl λ w=>Hs x n w h1 h2 hx
theorem Tk:bT CIR 197 [vU 0,vN 0] (vU 0):=.of_flat Tryz.func197 rfl rfl rfl rfl λ w=>OW w
theorem Yx(f:Nat)(hf:f≤8):bT CIR 191 [vN f] (.tup [.sl (Zb f) ((eD f).map Xl) true,vN (nO f)]):=by
 refine bT.intro cirOk Tryz.func191 rfl rfl (by kernel_rfl) rfl<|cSR<|oR 2 rfl<|rE 2<|bK<|cSR<|oR 1 rfl<|rE 3<|bL<|cSR<|rW (vB (f==2)) rfl (okB (eqN _ _))<|oR 1 rfl<|rE 5<|aV rfl (λ h1=>?_) (λ h1=>?_)
 ·refine cSR<|rV (.agg [vI 20,vI 12]) rfl<|rV (.sl 2 ([[vI 20,vI 12]]) true) rfl<|oR 2 rfl<|rE 9<|cO ?_;obtain rfl:f=2:=by have z:=h1;simp at z;omega
  exact eQ rfl rcT rfl rfl
 ·refine cSR<|rW (vB (f==3)) rfl (okB (eqN _ _))<|oR 1 rfl<|rE 7<|aV rfl (λ h2=>?_) (λ h2=>?_)
  ·refine cSR<|rV (.agg [vI 20,vI 5]) rfl<|rV (.sl 2 ([[vI 20,vI 5]]) true) rfl<|oR 2 rfl<|rE 11<|cO ?_;obtain rfl:f=3:=by have z:=h2;simp at z;omega
   exact eQ rfl rcT rfl rfl
  ·refine cSR<|rW (vB (f==4)) rfl (okB (eqN _ _))<|oR 1 rfl<|rE 9<|aV rfl (λ h3=>?_) (λ h3=>?_)
   ·refine cSR<|rV (.agg [vI 7,vI 5]) rfl<|rV (.agg [vI 25,vI 7]) rfl<|rV (.sl 2 ([[vI 7,vI 5],[vI 25,vI 7]]) true) rfl<|oR 2 rfl<|rE 14<|cO ?_;obtain rfl:f=4:=by have z:=h3;simp at z;omega
    exact eQ rfl rcT rfl rfl
   ·refine cSR<|rW (vB (f==5)) rfl (okB (eqN _ _))<|oR 1 rfl<|rE 11<|aV rfl (λ h4=>?_) (λ h4=>?_)
    ·refine cSR<|rV (.agg [vI 8,vI 4]) rfl<|rV (.agg [vI 25,vI 6]) rfl<|rV (.agg [vI 7,vI 1]) rfl<|rV (.agg [vI 31,vI 1]) rfl<|rV (.sl 2 ([[vI 8,vI 4],[vI 25,vI 6],[vI 7,vI 1],[vI 31,vI 1]]) true) rfl<|oR 2 rfl<|rE 18<|cO ?_;obtain rfl:f=5:=by have z:=h4;simp at z;omega
     exact eQ rfl rcT rfl rfl
    ·refine cSR<|rW (vB (f==6)) rfl (okB (eqN _ _))<|oR 1 rfl<|rE 13<|aV rfl (λ h5=>?_) (λ h5=>?_)
     ·refine cSR<|rV (.agg [vI 12,vI 20]) rfl<|rV (.sl 2 ([[vI 12,vI 20]]) true) rfl<|oR 2 rfl<|rE 17<|cO ?_;obtain rfl:f=6:=by have z:=h5;simp at z;omega
      exact eQ rfl rcT rfl rfl
     ·refine cSR<|rW (vB (f==7)) rfl (okB (eqN _ _))<|oR 1 rfl<|rE 15<|aV rfl (λ h6=>?_) (λ h6=>?_)
      ·refine cSR<|rV (.agg [vI 21,vI 10]) rfl<|rV (.agg [vI 20,vI 1]) rfl<|rV (.agg [vI 12,vI 8]) rfl<|rV (.agg [vI 31,vI 1]) rfl<|rV (.sl 2 ([[vI 21,vI 10],[vI 20,vI 1],[vI 12,vI 8],[vI 31,vI 1]]) true) rfl<|oR 2 rfl<|rE 22<|cO ?_;obtain rfl:f=7:=by have z:=h6;simp at z;omega
       exact eQ rfl rcT rfl rfl
      ·refine bB<|cSR<|oR 2 rfl<|rE 17<|cO ?_;have hz:f=0∨f=1∨f=8:=by simp at h1 h2 h3 h4 h5 h6;omega
       rcases hz with rfl|rfl|rfl<;>exact eQ rfl rcT rfl rfl
theorem Yy(x rs:Nat)(ps:List (Nat×Nat))(ck:Bool)(hx:x<4294967296)(hrs:ps≠[]→rs=2)(hok:KN ps)(hl:ps.length≤100):bT CIR 216 [vU x,.sl rs (ps.map Xl) ck] (.tup [vU (nN x ps).1,vN (nN x ps).2]):=by
 refine bT.intro cirOk Tryz.func216 rfl rfl (by kernel_rfl) rfl<|cSR<|oR 2 rfl<|rE 2<|cSR<|oR 2 rfl<|rE 4<|bK<|cSR<|oR 1 rfl<|rW (vN ps.length) rfl (cG Xl ps)<|oR 1 rfl<|rE 7<|bL<|oE (κ:=Nat) (λ k=>⟨slotsF [(0,vU x),(10,.sl rs (ps.map Xl) ck),(11,vN ps.length),(12,vN k),(6,vU (((ps.take k).foldl (uW x) (0,0)).1)),(7,vN (((ps.take k).foldl (uW x) (0,0)).2))],heapF [],7⟩) (λ k=>k≤ps.length) (λ k=>ps.length - k) 0 (λ s=>s) (Weak.of_lists (λ s=>s) wT trivial rfl) (aD _) ?_;intro k hk;have hkB:k≤100:=by omega
 have hsk:tZ (ps.take k)≤32:=aL (by unfold tZ;rw[fU];exact MJ _ _) hok.2;have hi:=Cu x (ps.take k) (0,0) (by show 0<4294967296;omega) (λ p hp=>hok.1 p (cK hp)) omT;have hu:((ps.take k).foldl (uW x) (0,0)).1≤4294967295:=by omega
 have hv2:((ps.take k).foldl (uW x) (0,0)).2=tZ (ps.take k):=hi.2.trans (bR _);have hv:((ps.take k).foldl (uW x) (0,0)).2≤32:=by omega
 refine cSR<|rW (vB (decide (k<ps.length))) rfl (okB (ltN _ _))<|rE 8<|bK<|aV rfl (λ h1=>?_) (λ h1=>?_)
 ·refine bB<|bK<|bL<|cSR ?_;obtain⟨p,hp⟩:∃ p,ps[k]?=some p:=⟨_,aA (of_decide_eq_true h1)⟩;obtain rfl:=hrs (λ z=>by subst z;cases hp);obtain⟨p1,p2⟩:=hok.1 p (aB hp);have hp1:p.1≤32:=by omega
  have hp2:p.2≤32:=by omega
  have hsz:tZ (ps.take (k+1))≤32:=aL (by unfold tZ;rw[fU];exact MJ _ _) hok.2;have hs2:tZ (ps.take (k+1))=tZ (ps.take k)+p.2:=by rw[bV,hp];simp[tZ]
  have hfl:field x p.1 p.2<4294967296:=Nat.lt_of_lt_of_le (BF _ _ _) (vX omT);refine rIx (Xl p) (.dp 2 0 (Xl p)) rfl rfl (jH hp) rfl<|oR 1 rfl<|rAl 10 rfl rfl<|rSt rfl<|rE 12<|cSR<|oR 9 rfl<|rCi rfl (DG x p.1 p.2 p1 p2 hx)<|rCi rfl (Yw ((ps.take k).foldl (uW x) (0,0)).1 ((ps.take k).foldl (uW x) (0,0)).2 p.2 (field x p.1 p.2) p1 omT omT hfl)<|oR 1 rfl<|rE 24<|cRg<|oR 3 rfl ?_;have b1:(((ps.take k).foldl (uW x) (0,0)).2)+p.2≤64:=aG hv hp2;refine rW (vN ((((ps.take k).foldl (uW x) (0,0)).2)+p.2)) rfl (okI (bU b1 rfl))<|oR 1 rfl<|rE 29<|cRg ?_;have b2:k+1≤101:=aG hkB (aC 1);refine rW (vN (k+1)) rfl (okI (bU b2 rfl))<|oR 1 rfl<|rE 31 ?_;refine⟨k+1,λ s=>s,Weak.of_lists (λ s=>s) ⟨⟨rfl,rfl⟩,⟨rfl,rfl⟩,⟨rfl,rfl⟩,⟨rfl,rfl⟩,⟨(congrArg (λ z:Nat×Nat=>AV.v (.int .u32 (z.1:Int))) (Ed (uW x) (0,0) ps k p hp).symm),rfl⟩,⟨(congrArg (λ z:Nat×Nat=>AV.v (.int .i64 (z.2:Int))) (Ed (uW x) (0,0) ps k p hp).symm),rfl⟩,trivial⟩ trivial rfl,of_decide_eq_true h1,by have:=of_decide_eq_true h1;show ps.length - (k+1)<ps.length - k;omega⟩
 ·refine eP<|cSR<|oR 4 rfl<|rE 12<|cO ?_;have hke:=aE h1;exact eQ rfl rcT rfl (by rw[aM (show ps.length≤k by omega)];rfl)
theorem ZV{x c:Nat}(h:c≤32):IntKind.wrap .u32 ((x:Int) * 2 ^ (min (Int.toNat (c:Int)) (IntKind.bits .u32)))=((x * 2 ^ c % 4294967296:Nat):Int):=by
 rw[Int.toNat_natCast,show min c (IntKind.bits .u32)=c from sJ h];show ((x:Int) * 2 ^ c) % 4294967296=_;have e:((x * 2 ^ c % 4294967296:Nat):Int)=((x * 2 ^ c:Nat):Int) % ((4294967296:Nat):Int):=Int.natCast_emod _ _;rw[e,Int.natCast_mul,Int.natCast_pow];rfl
theorem Yz(f:Nat):nO f≤12:=by unfold nO;split<;>decide
theorem Tl(f x:Nat)(hf1:1≤f)(hf:f≤8)(h3:(f != 3)=true):bT CIR 197 [vU ((nN x (eD f)).1 * 2 ^ nO f % 4294967296),vN ((nN x (eD f)).2+nO f)] (vU (Ba f x)):=by
 have h3:f≠3:=by simpa using h3
 rw[(Bb x f).1];unfold Ba;rw[if_neg h3];by_cases h:f=1∨f=8
 ·rw[if_pos h];rcases h with rfl|rfl<;>exact Tk
 ·rw[if_neg h];have hs:1≤tZ (eD f)+nO f∧tZ (eD f)+nO f≤32:=by
   have:f=2∨f=4∨f=5∨f=6∨f=7:=by omega
   rcases this with rfl|rfl|rfl|rfl|rfl<;>decide
  exact Wu _ _ hs.1 hs.2 omT
theorem Wv(op:Int)(x f:Nat)(hfo:cL op=f)(hf1:1≤f)(hf:f≤8)(hx:x<4294967296):bT CIR 195 [vI op,vU x] (.agg [vI op,vN (cond (uA f) (field x 7 5) 0),vN (cond (pB f) (field x 15 5) 0),vN (cond (pZ f) (field x 20 5) 0),vU (Ba f x)]):=by
 refine bT.intro cirOk Tryz.func195 rfl rfl (by kernel_rfl) rfl ?_;have hfrd:field x 7 5≤31:=aT (BF x 7 5);have hfrs1:field x 15 5≤31:=aT (BF x 15 5);have hfrs2:field x 20 5≤31:=aT (BF x 20 5);have hZ:(nN x (eD f)).2≤32:=by rw[(Bb x f).1];exact (uL f).2
 have hpl:(eD f).length≤100:=by unfold eD;split<;>decide
 have hne:eD f≠[]→Zb f=2:=by unfold eD Zb;intro h;split at h<;>first|rfl|exact absurd rfl h
 refine cSR<|rAl 0 rfl rfl<|rE 1<|cSR<|oR 1 rfl<|rCi rfl (hfo ▸ Wt op)<|oR 1 rfl<|rE 4<|cSR<|oR 1 rfl<|rV (.agg [vI op,vI 0,vI 0,vI 0,.v (.int .u32 0)]) rfl<|rAl 6 rfl rfl<|rSt rfl<|rE 8<|cSR<|oR 1 rfl<|rCi rfl (Yv f hf)<|oR 7 rfl<|rE 17<|FF (κ:=Unit) (λ u_=>⟨slotsF [(1,vU x),(4,.ptr 0 0),(5,vN f),(6,.ptr 6 0),(8,vB (pB f)),(9,vB (pZ f))],heapF [(0,.box [vI 0,vI 0,vI 0,vI 0,.v (.int .u32 0)]),(6,.box [vI op,vN (cond (uA f) (field x 7 5) 0),vI 0,vI 0,.v (.int .u32 0)])],17⟩) (λ u_=>True) ?_ ?_
 ·refine cSR<|oR 1 rfl<|rE 18<|aV rfl (λ h1=>?_) (λ h1=>?_)
  ·refine cRg<|oR 1 rfl<|rCi rfl (DG x 7 5 (by decide) (by decide) hx)<|rW (vN (field x 7 5)) rfl (okI (bU hfrd rfl))<|oR 1 rfl<|rSt rfl<|rE 23<|.mk _ (.refl _) ⟨(),λ s=>s,Weak.of_lists (λ s=>s) wT ⟨⟨rfl,rfl,rfl⟩,⟨rfl,(by rw[h1];rfl),rfl⟩,trivial⟩ rfl,rfl,trivial⟩
  ·refine bB<|.mk _ (.refl _) ⟨(),λ s=>s,Weak.of_lists (λ s=>s) wT ⟨⟨rfl,rfl,rfl⟩,⟨rfl,(by rw[h1];rfl),rfl⟩,trivial⟩ rfl,rfl,trivial⟩
 ·intro u_ _;refine FF (κ:=Unit) (λ u_=>⟨slotsF [(1,vU x),(4,.ptr 0 0),(5,vN f),(6,.ptr 6 0),(9,vB (pZ f))],heapF [(0,.box [vI 0,vI 0,vI 0,vI 0,.v (.int .u32 0)]),(6,.box [vI op,vN (cond (uA f) (field x 7 5) 0),vN (cond (pB f) (field x 15 5) 0),vI 0,.v (.int .u32 0)])],17⟩) (λ u_=>True) ?_ ?_
  ·refine cSR<|oR 1 rfl<|rE 18<|aV rfl (λ h2=>?_) (λ h2=>?_)
   ·refine cRg<|oR 1 rfl<|rCi rfl (DG x 15 5 (by decide) (by decide) hx)<|rW (vN (field x 15 5)) rfl (okI (bU hfrs1 rfl))<|oR 1 rfl<|rSt rfl<|rE 23<|.mk _ (.refl _) ⟨(),λ s=>s,Weak.of_lists (λ s=>s) wT ⟨⟨rfl,rfl,rfl⟩,⟨rfl,(by rw[h2];rfl),rfl⟩,trivial⟩ rfl,rfl,trivial⟩
   ·refine bB<|.mk _ (.refl _) ⟨(),λ s=>s,Weak.of_lists (λ s=>s) wT ⟨⟨rfl,rfl,rfl⟩,⟨rfl,(by rw[h2];rfl),rfl⟩,trivial⟩ rfl,rfl,trivial⟩
  ·intro u_ _;refine FF (κ:=Unit) (λ u_=>⟨slotsF [(1,vU x),(4,.ptr 0 0),(5,vN f),(6,.ptr 6 0)],heapF [(0,.box [vI 0,vI 0,vI 0,vI 0,.v (.int .u32 0)]),(6,.box [vI op,vN (cond (uA f) (field x 7 5) 0),vN (cond (pB f) (field x 15 5) 0),vN (cond (pZ f) (field x 20 5) 0),.v (.int .u32 0)])],17⟩) (λ u_=>True) ?_ ?_
   ·refine cSR<|oR 1 rfl<|rE 18<|aV rfl (λ h3=>?_) (λ h3=>?_)
    ·refine cRg<|oR 1 rfl<|rCi rfl (DG x 20 5 (by decide) (by decide) hx)<|rW (vN (field x 20 5)) rfl (okI (bU hfrs2 rfl))<|oR 1 rfl<|rSt rfl<|rE 23<|.mk _ (.refl _) ⟨(),λ s=>s,Weak.of_lists (λ s=>s) wT ⟨⟨rfl,rfl,rfl⟩,⟨rfl,(by rw[h3];rfl),rfl⟩,trivial⟩ rfl,rfl,trivial⟩
    ·refine bB<|.mk _ (.refl _) ⟨(),λ s=>s,Weak.of_lists (λ s=>s) wT ⟨⟨rfl,rfl,rfl⟩,⟨rfl,(by rw[h3];rfl),rfl⟩,trivial⟩ rfl,rfl,trivial⟩
   ·intro u_ _;refine cSR<|oR 1 rfl<|rCi rfl (Yx f hf)<|oR 5 rfl<|rE 24<|cSR<|oR 2 rfl<|rCi rfl (Yy x (Zb f) (eD f) true hx hne (uL f) hpl)<|oR 5 rfl<|rE 32<|cSR<|oR 2 rfl<|nW (vU ((nN x (eD f)).1 * 2 ^ nO f % 4294967296)) rfl (Fh (ZV (aL (Yz f) (by decide)))) (aF _)<|oR 1 rfl<|rSt rfl<|rE 37<|FF (κ:=Unit) (λ u_=>⟨slotsF [(4,.ptr 0 0),(6,.ptr 6 0)],heapF [(0,.box [vI 0,vI 0,vI 0,vI 0,.v (.int .u32 0)]),(6,.box [vI op,vN (cond (uA f) (field x 7 5) 0),vN (cond (pB f) (field x 15 5) 0),vN (cond (pZ f) (field x 20 5) 0),vU (Ba f x)])],37⟩) (λ u_=>True) ?_ ?_
    ·refine cSR<|oR 1 rfl<|rW (vB (f != 3)) rfl (okB (neN _ _))<|rE 39<|aV rfl (λ h4=>?_) (λ h4=>?_)
     ·refine cRg<|oR 4 rfl ?_;have b1:((nN x (eD f)).2)+(nO f)≤44:=aG hZ (Yz f);refine rW (vN (((nN x (eD f)).2)+(nO f))) rfl (okI (bU b1 rfl))<|rCi rfl (Tl f x hf1 hf h4)<|oR 1 rfl<|rSt rfl<|rE 47<|.mk _ (.refl _) ⟨(),λ s=>s,Weak.of_lists (λ s=>s) wT wH rfl,rfl,trivial⟩
     ·refine bB<|.mk _ (.refl _) ⟨(),λ s=>s,Weak.of_lists (λ s=>s) wT ⟨⟨rfl,rfl,rfl⟩,⟨rfl,(by rw[show f=3 by simpa using h4];rfl),rfl⟩,trivial⟩ rfl,rfl,trivial⟩
    ·intro u_ _;refine cSR<|oR 1 rfl<|rSt rfl<|rE 39<|cO ?_;exact eQ rfl rcT rfl rfl
theorem CF:OV:=λ op x w hop hx=>by
 have h2:cL op≠0:=by unfold cL;repeat' (split<;>try omega)
 have h:=bT.flat (Wv op x (cL op) rfl (eX h2) (uX op) hx) (λ _ _ _ _ h=>by cases h) rfl rfl w;refine h.mono λ e w' ⟨he,hB⟩=>⟨he.trans ?_,hB⟩;show Ending.returned (.agg #[.int .i64 op,.int .i64 _,.int .i64 _,.int .i64 _,.int .u32 _])=_;unfold SI.val lY;cases uA (cL op)<;>cases pB (cL op)<;>cases pZ (cL op)<;>rfl
theorem Lo(x:Nat)(hx:x<4294967296):bT C0 169 [.v (.int .u32 (x:Int))] (.tup [siA (lL x),.v (.int .i64 ((decE x:Nat):Int))]):=
 .of_tupG Tryz.func169 rfl rfl rfl rfl λ S w hG=>Nt CF x w (CB hG) hx
def isK(e:Ent)(k:Nat):Bool:=decide (kindOf e.i.op=k)
def tS(e:Ent)(a b:Nat):Nat:=if wr e.i=0 then 0 else Qj e.i.op e.i.imm e.pc a b
def oU(e:Ent)(a b:Nat):Ent:=
 if e.is≠0∨kindOf e.i.op=3∨kindOf e.i.op=4 then e
 else if kindOf e.i.op=1 then {e with is:=1,value:=tS e a b,next:=up4 e.pc,left:=3}
 else if kindOf e.i.op=2 then {e with is:=1,value:=tS e a b,next:=up4 e.pc,took:=zF e.i.op a b,left:=zF e.i.op a b}
 else if kindOf e.i.op=5 then
  if wS e.i.op e.i.imm e.pc a b % 4=0 then {e with is:=1,value:=tS e a b,next:=wS e.i.op e.i.imm e.pc a b,left:=1}
  else {e with is:=1,value:=0,next:=up4 e.pc,left:=1,halt:=3}
 else {e with is:=1,value:=tS e a b,next:=up4 e.pc,left:=1}
def goE(e:Ent):Ent:=
 if e.is≠1 then e
 else if wrap64 (e.left - 1)≤0 then {e with left:=0,is:=3,known:=if kindOf e.i.op=5∧e.halt=0 then true else e.known}
 else {e with left:=wrap64 (e.left - 1)}
def qO(e:Ent)(size:Int)(a:Nat):Ent:=
 if (kindOf e.i.op≠3∧kindOf e.i.op≠4)∨e.is≠0∨e.known=true then e
 else if nM size ((a+e.i.imm) % 4294967296) (dB e.i.op)=true then {e with addr:=(a+e.i.imm) % 4294967296,known:=true}
 else {e with addr:=(a+e.i.imm) % 4294967296,halt:=if kindOf e.i.op=4 then 5 else 4,is:=3}
def rU(e:Ent)(s:ByteArray):Ent:=
 if kindOf e.i.op≠3∨e.known=false∨(e.is≠0∧e.is≠2)then e
 else {e with is:=1,left:=1,value:=if wr e.i=0 then 0 else loadP e.i.op s}
def qJ(e:Ent)(b:Nat):Ent:=
 if kindOf e.i.op≠4∨e.known=false∨e.is≠0 then e else {e with is:=3,value:=valB b (dB e.i.op)}
def bW(e:Ent):Sp:=
 if e.halt≠0 then ⟨e.pc,e.pc,0,0,if e.halt=4∨e.halt=5 then e.addr else 0,0,false,e.halt,0⟩
 else if kindOf e.i.op=4 then ⟨e.pc,up4 e.pc,wr e.i,e.value,e.addr,(dB e.i.op:Nat),true,0,0⟩
 else if kindOf e.i.op=3 then ⟨e.pc,up4 e.pc,wr e.i,if wr e.i≠0 then e.value else 0,e.addr,(dB e.i.op:Nat),false,0,0⟩
 else if kindOf e.i.op=2 then ⟨e.pc,up4 e.pc,wr e.i,if wr e.i≠0 then e.value else 0,0,0,false,0,e.took⟩
 else if kindOf e.i.op=5 then ⟨e.pc,e.next,wr e.i,if wr e.i≠0 then e.value else 0,0,0,false,0,0⟩
 else ⟨e.pc,up4 e.pc,wr e.i,if wr e.i≠0 then e.value else 0,0,0,false,0,0⟩
def Do(o:Option Nat):Int:=match o with|some k=>k|none=> -1
def Mu(e:Ent):Bool:=decide (kindOf e.i.op=5)&&e.known&&decide (e.next≠e.guess)
def xK(rob:List Ent):Option Nat:=rob.findIdx? Mu
def BU(rob:List Ent)(i:Nat):List Ent:=match rob[i]? with|some e=>rob.take i++[{e with guess:=e.next}]|none=>rob
def RB(i:SI):Bool:=decide (1≤i.op)&&decide (i.op≤48)&&decide ((lY i.op (wG i)).op=i.op)&&decide ((lY i.op (wG i)).rd=i.rd)&&decide ((lY i.op (wG i)).rs1=i.rs1)&&decide ((lY i.op (wG i)).rs2=i.rs2)&&decide ((lY i.op (wG i)).imm=i.imm)
def tA(e:Ent):Bool:=
 if e.is<0∨e.is>3 then false
 else if (e.is=1∧e.left≤0)∨(e.is≠1∧e.left≠0)then false
 else if e.is=2∧(kindOf e.i.op≠3∨e.known=false)then false
 else if e.halt≠0∧e.is≠3∧ ¬ (e.is=1∧kindOf e.i.op=5∧e.halt=3)then false
 else if RB e.i=true then true else decide (e.halt=1)||decide (e.halt=2)
def Wd(rob:List Ent)(i:Nat):Int:=match rob[i]? with|some e=>e.no|none=>0
def Ey(rob:List Ent)(i:Nat):Bool:=match rob[i]? with|some e=>(i==0||decide (Wd rob (i - 1)<e.no))&&tA e|none=>true
def BV(rob:List Ent):Bool:=decide (rob.length≤8)&&(List.range rob.length).all (Ey rob)
def qK(no:Int)(f:Ft)(prog:List Nat):Ent:=
 if (fetchP prog f.pc).isSome=false then {Cd with no:=no,pc:=f.pc,guess:=f.guess,halt:=1,is:=3}
 else if Fr (fetchW prog f.pc)=0 then {Cd with no:=no,pc:=f.pc,guess:=f.guess,halt:=2,is:=3}
 else if (lL (fetchW prog f.pc)).op=47 then {Cd with no:=no,pc:=f.pc,guess:=f.guess,i:=lL (fetchW prog f.pc),halt:=6,is:=3}
 else if (lL (fetchW prog f.pc)).op=48 then {Cd with no:=no,pc:=f.pc,guess:=f.guess,i:=lL (fetchW prog f.pc),halt:=7,is:=3}
 else {Cd with no:=no,pc:=f.pc,guess:=f.guess,i:=lL (fetchW prog f.pc)}
def Le(rob:List Ent)(reg:Int)(k:Nat):Bool:=match rob[k]? with|some e=>decide (wr e.i=reg)|none=>false
def Ai(rob:List Ent)(reg:Int):Nat→Option Nat
 |0=>none
 |n+1=>if Le rob reg n=true then some n else Ai rob reg n
def gZ(rob:List Ent)(i:Nat)(reg:Int):Option Nat:=if reg<1∨reg>31 then none else Ai rob reg (min i rob.length)
def kY(rob:List Ent)(r:Nat→Nat)(i:Nat)(reg:Int):Option Nat:=
 if reg=0 then some 0
 else if reg<0∨reg>31 then none
 else match gZ rob i reg with
  |none=>some (r reg.toNat)
  |some k=>match rob[k]? with
   |some e=>if e.is=3∧e.halt=0 then some e.value else none
   |none=>none
def lI(rob:List Ent)(r:Nat→Nat)(i:Nat):Nat×Nat×Bool:=
 match rob[i]? with
 |some e=>((kY rob r i e.i.rs1).getD 0,(kY rob r i e.i.rs2).getD 0,(kY rob r i e.i.rs1).isSome&&(kY rob r i e.i.rs2).isSome)
 |none=>(0,0,false)
def Lf(e:Ent):Bool:=if e.halt≠0 then false else if kindOf e.i.op=6 then false else if kindOf e.i.op=3∨kindOf e.i.op=4∨kindOf e.i.op=5 then e.known else true
def BW(rob:List Ent):Nat:=rob.findIdx λ e=> !Lf e
def uJ(rob:List Ent)(i:Nat):Bool:=decide (i≤rob.length)&&decide (i≤BW rob)
def sL(roots:List Int)(k:Option Nat):Int:=match k with|some k=>roots.getD k (-1)|none=> -1
def Da(rob:List Ent)(roots:List Int)(k:Nat):Int:=
 match rob[k]? with
 |some e=>if kindOf e.i.op≠3 then max (sL roots (gZ rob k e.i.rs1)) (sL roots (gZ rob k e.i.rs2))else if k>BW rob then k else -1
 |none=> -1
def eU(rob:List Ent):Nat→List Int
 |0=>[]
 |k+1=>eU rob k++[Da rob (eU rob k) k]
def zA(rob:List Ent):List Int:=eU rob rob.length
def Ia(rob:List Ent)(i:Nat)(reg:Int):Bool:=match gZ rob i reg with|some k=>decide (0≤(zA rob).getD k (-1))|none=>false
def Db(e:Ent):Bool:=decide (kindOf e.i.op=3∨kindOf e.i.op=4∨kindOf e.i.op=2∨kindOf e.i.op=5)
def qB(e:Ent):List Int:=if kindOf e.i.op=3∨kindOf e.i.op=4 then [e.i.rs1]else [e.i.rs1,e.i.rs2]
def On(mode:Int)(rob:List Ent)(i:Nat):Bool:=
 match rob[i]? with
 |none=>false
 |some e=>if Db e=false then true
  else if mode=0 then true
  else if mode=1 then (qB e).all λ reg=> !Ia rob i reg
  else if mode=2 then uJ rob i
  else false
structure Std where
 addr:Nat
 size:Nat
 data:ByteArray
 there:Bool
def Ez(e:Ent):Std:=⟨e.addr,dB e.i.op,rY e.value (dB e.i.op),decide (e.is=3)⟩
def CA(p:Pt):Std:=⟨p.addr,p.data.size,p.data,true⟩
def Fw(rob:List Ent)(stores:List Pt):List Std:=((rob.filter λ e=>isK e 4).map Ez).reverse++(stores.map CA).reverse
def Fx(a n b m:Nat):Bool:=decide (0<n)&&decide (0<m)&&decide (a<b+m)&&decide (b<a+n)
def EA(a n b m:Nat):Bool:=decide (0<m)&&decide (a≤b)&&decide (b+m≤a+n)
def wP(at_ n:Nat):List Std→Int×ByteArray
 |[]=>(2,nE)
 |s::l=>if Fx s.addr s.size at_ n=false then wP at_ n l
  else if EA s.addr s.size at_ n=false∨s.there=false then (0,nE)
  else (1,s.data.extract (at_ - s.addr) (at_ - s.addr+n))
def Aj(e:Ent):Bool:=isK e 4&&(!e.known||decide (e.halt≠0))
def kZ(rob:List Ent)(stores:List Pt)(i:Nat):Int×ByteArray:=
 match rob[i]? with
 |none=>(0,nE)
 |some e=>if kindOf e.i.op≠3 then (0,nE)
  else if (rob.take i).any Aj=true then (0,nE)
  else wP e.addr (dB e.i.op) (Fw (rob.take i) stores)
def sM(r:Nat→Nat)(s:Sp):Nat→Nat:=if 1≤s.rd∧s.rd≤31∧s.halt=0 then Wh r s.rd.toNat s.value else r
def gH(s:Sp):Option Pt:=if s.store=false∨s.halt≠0∨(s.size≠1∧s.size≠2∧s.size≠4)then none else some ⟨s.addr,rY s.value s.size.toNat⟩
def gD(c:Ca)(q:List Req)(m:ByteArray)(line:Nat)(left:Int):Ca×List Req×Bool:=
 if iW c=false then (c,q,false)
 else if (aX c (lineOf line)).2.isSome=true then (mL c (lineOf line),q,false)
 else match mF c (lineOf line) (AE (fW q m) (lineOf line)) false with
  |(d,gone,went)=>if went=true∧gone.dirty=true∧gone.data.size≠0 then (d,oY q 4 gone.line left gone.data,true)else (d,q,false)
def lJ(stores:List Pt)(c:Ca):List Pt×Ca×Bool:=
 match stores with
 |[]=>(stores,c,false)
 |p::l=>if (mV c p.addr p.data).2=true then (l,(mV c p.addr p.data).1,true)else (stores,c,false)
def iR(c:Co)(kind:Int)(line:Nat)(data:ByteArray):Co:={c with bus:=oY c.bus kind line (kK c.conf c.asked) data,asked:=wrap64 (c.asked+1)}
def qL(c:Co)(first:Bool):Bool:=if first=true then decide ((mU c.bus:Int)<c.conf.slots)else decide ((mU c.bus:Int)<c.conf.slots - 1)
def eG(c:Co)(line:Nat):Co:=
 match gD c.data c.bus c.mem line (kK c.conf c.asked)with
 |(d,q,asked)=>{c with data:=d,bus:=q,asked:=if asked=true then wrap64 (c.asked+1)else c.asked}
def tT(c:Co):ByteArray:=Ko c.stores c.data c.bus c.mem
def oG(c:Co)(e:Ent):ByteArray:=if nM ((tT c).size:Int) e.addr (dB e.i.op:Nat)=true then Wi (tT c) e.addr (dB e.i.op)else nE
def tU(c:Co)(line:Nat)(e:Ent):Ent:=if e.is=2∧lineOf e.addr=line then rU {e with filled:=true} (oG c e)else e
def wQ(c:Co)(x:Req):Co:=
 if x.kind=1 then {c with rob:=c.rob.map (tU c x.line)}
 else if x.kind=2 then {c with words:=(mF c.words x.line nE false).1}
 else if x.kind=3 then eG c x.line
 else if x.kind=4 then {c with mem:=mG c.mem [⟨x.line,x.data⟩]}
 else c
def eH(c:Co):Co:=
 match dO c.bus with
 |(q,x,ok)=>if ok=true then wQ {c with bus:=q} x else {c with bus:=q}
def storeAt(r:Nat→Nat)(rob:List Ent)(i:Nat):List Ent:=
 match rob[i]? with
 |some e=>if kindOf e.i.op=4 then (match kY rob r i e.i.rs2 with|some b=>rob.set i (qJ e b)|none=>rob)else rob
 |none=>rob
def cD(r:Nat→Nat)(rob:List Ent):Nat→List Ent
 |0=>rob
 |k+1=>storeAt r (cD r rob k) k
def dA(c:Co):List Ent:=cD c.r (c.rob.map goE) c.rob.length
def fH(c:Co):Co:=
 if c.halt≠0 then c
 else match xK (dA c)with
  |some i=>{c with rob:=BU (dA c) i,fetch:=(match (dA c)[i]? with|some e=>e.next|none=>0),fetched:=[],stop:=false}
  |none=>{c with rob:=dA c}
def tB(c:Co)(s:Sp):Co:={c with retired:=c.retired++[s],halt:=s.halt,rob:=[],fetched:=[],stop:=true}
def qZ(c:Co)(e:Ent)(s:Sp):Co:=if kindOf e.i.op=3 then eG c s.addr else c
def eV(c:Co)(s:Sp):Co:={c with retired:=c.retired++[s],stores:=(match gH s with|some p=>c.stores++[p]|none=>c.stores)}
def qM(c:Co)(e:Ent)(s:Sp)(l:List Ent):Co:=
 {qZ (eV c s) e s with r:=sM c.r s,guess:=gW c.guess s.pc s.next e.i,rob:=l}
def dF:Nat→Co→Co
 |0,c=>c
 | n+1,c=>
  if c.halt≠0 then c
  else match c.rob with
   |[]=>c
   |e::l=>
    if e.is≠3 then c
    else if (bW e).halt≠0 then tB c (bW e)
    else if (bW e).store=true∧(c.stores.length:Int)≥c.conf.stores then c
    else dF n (qM c e (bW e) l)
def dG(c:Co):Co:=dF c.conf.width.toNat c
def BX(c:Co)(i:Nat):Bool:=
 match c.rob[i]? with
 |none=>false
 |some e=>
  if e.is≠0 then false
  else if kindOf e.i.op=3 then e.known||((kY c.rob c.r i e.i.rs1).isSome&&On c.conf.mode c.rob i)
  else if kindOf e.i.op=4 then !e.known&&(kY c.rob c.r i e.i.rs1).isSome&&On c.conf.mode c.rob i
  else (lI c.rob c.r i).2.2&&On c.conf.mode c.rob i
def Jz(c:Co)(line:Nat):Bool:=(aX c.data line).2.isSome||c.rob.any λ e=>e.filled&&decide (lineOf e.addr=line)
def setE(c:Co)(i:Nat)(e:Ent):Co:={c with rob:=c.rob.set i e}
def jM(c:Co)(i:Nat):Co:=
 match c.rob[i]? with
 |none=>c
 |some e=>
  if e.known=false then c
  else if (kZ c.rob c.stores i).1=1 then setE c i (rU e (kZ c.rob c.stores i).2)
  else if (kZ c.rob c.stores i).1≠2 then c
  else if Jz c (lineOf e.addr)=true then setE c i (rU e (oG c e))
  else if DE c.bus (lineOf e.addr) 1=true then setE c i {e with is:=2}
  else if qL c (uJ c.rob i)=true∧DE c.bus (lineOf e.addr) 3=false then setE (iR c 1 (lineOf e.addr) nE) i {e with is:=2}
  else c
def eN(c:Co)(i:Nat):Co:=
 match c.rob[i]? with
 |none=>c
 |some e=>
  if kindOf e.i.op=4 then setE c i (qO e c.mem.size (lI c.rob c.r i).1)
  else if kindOf e.i.op=3 then jM (setE c i (qO e c.mem.size (lI c.rob c.r i).1)) i
  else setE c i (oU e (lI c.rob c.r i).1 (lI c.rob c.r i).2.1)
def Dp(e:Ent):Bool:=decide (kindOf e.i.op=2)&&decide (e.is=1)
def Al(c:Co):List Int:=c.rob.map λ e=>(kindOf e.i.op:Int)
def zB(c:Co):List Bool:=(List.range c.rob.length).map (BX c)
def eE(c:Co):Co:=if c.halt≠0 then c else (pickOf c.conf.width (c.rob.any Dp) (Al c) (zB c)).foldl eN c
def iL:Nat→Co→Co
 |0,c=>c
 | n+1,c=>
  if (c.rob.length:Int)≥c.conf.rob then c
  else match c.fetched with
   |[]=>c
   |f::l=>iL n {c with rob:=c.rob++[qK c.next f c.prog],next:=wrap64 (c.next+1),fetched:=l}
def fQ(c:Co):Co:=if c.halt≠0 then c else iL c.conf.width.toNat c
def cF(c:Co)(w:Nat):Co×Nat:=
 if Fr w=0∨kindOf (lL w).op≠5 then (c,up4 c.fetch)
 else if c.conf.tables=true then (c,wE c.guess c.fetch (lL w))
 else ({c with guessed:=wrap64 (c.guessed+1)},xN c.conf c.guessed c.fetch)
def Lg(c:Co)(n:Nat):Co:={c with fetched:=c.fetched++[⟨c.fetch,n⟩],fetch:=n}
def dS:Nat→Co→Co
 |0,c=>c
 | n+1,c=>
  if c.stop=true∨(c.fetched.length:Int)≥c.conf.queue then c
  else if (fetchP c.prog c.fetch).isSome=false then {c with fetched:=c.fetched++[⟨c.fetch,up4 c.fetch⟩],stop:=true}
  else if (aX c.words (lineOf c.fetch)).2.isSome=false then
   (if DE c.bus (lineOf c.fetch) 2=false∧qL c false=true then iR c 2 (lineOf c.fetch) nE else c)
  else
   dS n (Lg (cF {c with words:=mL c.words (lineOf c.fetch)} (fetchW c.prog c.fetch)).1 (cF {c with words:=mL c.words (lineOf c.fetch)} (fetchW c.prog c.fetch)).2)
def cX(c:Co):Co:=if c.halt≠0 then c else dS c.conf.width.toNat c
def aQ(c:Co):Co:={c with stores:=(lJ c.stores c.data).1,data:=(lJ c.stores c.data).2.1}
def jK(c:Co):Co:=
 match c.stores with
 |[]=>c
 |p::_=>if DE c.bus (lineOf p.addr) 3=false∧qL c true=true then iR c 3 (lineOf p.addr) nE else c
def kE(c:Co):Co:=
 match cM c.data with
 |some w=>if w.data.size≠0 then {iR c 4 w.line w.data with data:=mW c.data w.line}else c
 |none=>c
def iM(c:Co):Co:=if c.stores≠[]∨c.halt=0 then c else kE c
def kJ(c:Co):Co:=
 match c.stores with
 |[]=>iM (aQ c)
 |_::_=>if (lJ c.stores c.data).2.2=true then iM (aQ c)else iM (jK (aQ c))
def uF(c:Ca)(f:Cf):Bool:=iW c&&decide ((c.sets.length:Int)=f.sets)&&decide (c.ways=f.ways)
def fS(c:Co):Bool:=
 tD c.conf&&decide (c.prog.length≤64)&&(c.mem.toList==(pF c.mem).toList)&&BV c.rob&&decide ((c.rob.length:Int)≤c.conf.rob)&&(c.rob.all λ e=>decide (e.no<c.next))&&uF c.data c.conf&&uF c.words c.conf&&rX c.guess&&decide ((c.fetched.length:Int)≤c.conf.queue)&&decide ((c.stores.length:Int)≤c.conf.stores)&&c.stores.all λ p=>nM c.mem.size p.addr p.data.size
def EB(c:Co):Co:=kJ (cX (fQ (eE (dG (fH (eH {c with cycle:=wrap64 (c.cycle+1)}))))))
def gI(c:Co):Co:=if fS c=true then EB c else c
def gA(c:Co):Nat→Co
 |0=>c
 |n+1=>gI (gA c n)
end Go.Proofs.YtlhofpglndhfaaaGreatDoor
