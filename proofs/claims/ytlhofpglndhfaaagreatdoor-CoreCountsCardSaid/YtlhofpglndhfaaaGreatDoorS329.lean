/- Joined texts. -/
import Derived.Test.YtlhofpglndhfaaaGreatDoorS301
import Derived.Test.YtlhofpglndhfaaaGreatDoorS322
import Derived.Test.YtlhofpglndhfaaaGreatDoorS324
import Derived.Test.YtlhofpglndhfaaaGreatDoorS328
set_option linter.unusedVariables false
set_option linter.unusedSimpArgs false
namespace Go.Proofs.YtlhofpglndhfaaaGreatDoor
open Go.RowKit
structure Req where
 kind:Int
 line:Nat
 left:Int
 data:ByteArray
structure Wy where
 line:Nat
 dirty:Bool
 data:ByteArray
structure Ca where
 ways:Int
 sets:List (List Wy)
structure Pt where
 addr:Nat
 data:ByteArray
structure Gs where
 pc:Nat
 next:Nat
structure Gu where
 slots:List Gs
 hist:Nat
 rets:List Nat
structure Ft where
 pc:Nat
 guess:Nat
structure Cf where
 mode:Int
 width:Int
 rob:Int
 queue:Int
 stores:Int
 slots:Int
 sets:Int
 ways:Int
 lat:List Int
 tables:Bool
 tape:List Nat
structure Ent where
 no:Int
 pc:Nat
 i:SI
 guess:Nat
 is:Int
 left:Int
 value:Nat
 next:Nat
 addr:Nat
 halt:Int
 took:Int
 known:Bool
 filled:Bool
structure Co where
 conf:Cf
 prog:List Nat
 cycle:Int
 r:Nat→Nat
 fetch:Nat
 stop:Bool
 fetched:List Ft
 rob:List Ent
 next:Int
 stores:List Pt
 data:Ca
 words:Ca
 bus:List Req
 asked:Int
 guessed:Int
 mem:ByteArray
 guess:Gu
 halt:Int
 retired:List Sp
def mH:ByteArray:=⟨#[]⟩
def Br:Ent:=⟨0,0,WK,0,0,0,0,0,0,0,0,false,false⟩
def MB:Req:=⟨0,0,0,mH⟩
def pC:Wy:=⟨0,false,mH⟩
def aV(n lo hi:Int):Int:=if (if n<lo then lo else n)>hi then hi else (if n<lo then lo else n)
def bB(c:Cf):Cf:=
 {mode:=aV c.mode 0 2,width:=aV c.width 1 2,rob:=aV c.rob 2 8,queue:=aV c.queue 1 4,stores:=aV c.stores 1 4,slots:=aV c.slots 2 6
  sets:=if aV c.sets 1 4=3 then 2 else aV c.sets 1 4,ways:=aV c.ways 1 2
  lat:=(c.lat.take 64).map λ n=>aV n 1 8,tables:=c.tables,tape:=c.tape.take 64}
def inI(n lo hi:Int):Bool:=decide (n≥lo)&&decide (n≤hi)
def uQ(c:Cf):Bool:=
 (c.lat.all λ n=>inI n 1 8)&&inI c.mode 0 2&&inI c.width 1 2&&inI c.rob 2 8&&inI c.queue 1 4&&inI c.stores 1 4&&inI c.slots 2 6&&inI c.sets 1 4&&decide (c.sets≠3)&&inI c.ways 1 2&&decide (c.lat.length≤64)&&decide (c.tape.length≤64)
def jM(c:Cf)(k:Int):Int:=
 match (bB c).lat with
 |[]=>1
 |l=>l.getD ((max k 0).toNat % l.length) 1
def wS(c:Cf)(k:Int)(pc:Nat):Nat:=
 match (bB c).tape with
 |[]=>up4 pc
 |l=>l.getD ((max k 0).toNat % l.length) 0
def lineOf(a:Nat):Nat:=a - a % 16
def wB(q:List Req)(kind:Int)(line:Nat)(left:Int)(data:ByteArray):List Req:=q++[⟨kind,line,max left 1,data⟩]
def dZ(q:List Req):List Req×Req×Bool:=
 match q with
 |[]=>([],MB,false)
 |x::r=>if wrap64 (x.left - 1)>0 then ({x with left:=wrap64 (x.left - 1)}::r,MB,false)else (r,{x with left:=wrap64 (x.left - 1)},true)
def CW(q:List Req)(line:Nat)(kind:Int):Bool:=q.any λ x=>decide (x.line=line)&&decide (x.kind=kind)
def kE(q:List Req):Nat:=(q.filter λ x=>decide (x.kind≠4)).length
def xQ(c:Ca)(line:Nat):Nat:=line / 16 % c.sets.length
def jN:List Wy→Nat→Option Nat
 |[],_=>none
 |w::l,line=>if w.line=line then some 0 else (jN l line).map (· +1)
def vR(c:Ca)(k:Nat)(set:List Wy):Bool:=
 decide ((set.length:Int)≤c.ways)&&(List.range set.length).all λ at_=>match set[at_]? with
  |some w=>decide (lineOf w.line=w.line)&&decide (xQ c w.line=k)&&(decide (w.data.size=0)||decide (w.data.size=16))&&(jN (set.take at_) w.line).isNone
  |none=>true
def fY(c:Ca):Bool:=
 (decide (c.sets.length=1)||decide (c.sets.length=2)||decide (c.sets.length=4))&&(decide (c.ways=1)||decide (c.ways=2))&&(List.range c.sets.length).all λ k=>match c.sets[k]? with
  |some s=>vR c k s
  |none=>true
def BT(sets ways:Int):Ca:=⟨aV ways 1 2,List.replicate (if aV sets 1 4=3 then 2 else aV sets 1 4).toNat []⟩
def eH{α:Type}(l:List α)(k:Nat):List α:=(match l[k]? with|some x=>[x]|none=>[])++l.take k++l.drop (k+1)
def oH(c:Ca)(k:Nat)(set:List Wy):Ca:=⟨c.ways,c.sets.set k set⟩
def bE(c:Ca)(line:Nat):Nat×Option Nat:=
 if fY c=true then (xQ c (lineOf line),jN ((c.sets[xQ c (lineOf line)]?).getD []) (lineOf line))else (0,none)
def oT(c:Ca)(k:Nat):List Wy:=(c.sets[k]?).getD []
def sK(c:Ca)(line:Nat):Ca:=
 match bE c line with
 |(k,some j)=>oH c k (eH (oT c k) j)
 |(_,none)=>c
def lG(d:ByteArray):ByteArray:=if d.size=16 then d else mH
def modHd{α:Type}(f:α→α):List α→List α
 |[]=>[]
 |x::l=>f x::l
def qF(c:Ca)(line:Nat)(data:ByteArray)(dirty:Bool):Ca×Wy×Bool:=
 if fY c=true then
  match bE c line with
  |(k,some j)=>(oH c k (modHd (λ w=>{w with data:=if (lG data).size=0 then w.data else lG data,dirty:=w.dirty||dirty}) (eH (oT c k) j)),pC,false)
  | (k,none)=>
   if ((oT c k).length:Int)=c.ways then
    (oH c k (⟨lineOf line,dirty,lG data⟩::(oT c k).dropLast),(oT c k).getLast?.getD pC,true)
   else (oH c k (⟨lineOf line,dirty,lG data⟩::oT c k),pC,false)
 else (c,pC,false)
def DW(d:ByteArray)(from_:Nat)(b:ByteArray):ByteArray:=d.extract 0 from_++b++d.extract (from_+b.size) d.size
def wC(c:Ca)(addr:Nat)(bytes:ByteArray):Ca×Bool:=
 match bE c addr with
 | (k,some j)=>
  match (oT c k)[j]? with
  |some w=>if w.data.size=0∨bytes.size+addr % 16>16 then (c,false)
   else (oH c k (modHd (λ w=>{w with data:=DW w.data (addr % 16) bytes,dirty:=true}) (eH (oT c k) j)),true)
  |none=>(c,false)
 |(_,none)=>(c,false)
def uR(c:Ca)(line:Nat):Ca:=
 match bE c line with
 |(k,some j)=>oH c k ((oT c k).modify j λ w=>{w with dirty:=false})
 |(_,none)=>c
def cP(c:Ca):Option Wy:=if fY c=true then c.sets.flatten.find? (·.dirty)else none
def Az(m:ByteArray)(p:Pt):ByteArray:=
 if p.addr<m.size then m.extract 0 p.addr++p.data.extract 0 (min p.data.size (m.size - p.addr))++m.extract (p.addr+min p.data.size (m.size - p.addr)) m.size else m
def qV(m:ByteArray)(l:List Pt):ByteArray:=l.foldl Az m
def fN(q:List Req):List Pt:=(q.filter λ x=>decide (x.kind=4)).map λ x=>⟨x.line,x.data⟩
def jO(q:List Req)(m:ByteArray):ByteArray:=qV m (fN q)
def Kc(c:Ca):List Pt:=c.sets.flatten.map λ w=>⟨w.line,w.data⟩
def Bs(c:Ca)(q:List Req)(m:ByteArray):ByteArray:=qV (jO q m) (Kc c)
def VP(stores:List Pt)(c:Ca)(q:List Req)(m:ByteArray):ByteArray:=qV (Bs c q m) stores
def EG(m:ByteArray)(line:Nat):ByteArray:=if lineOf line<m.size then m.extract (lineOf line) (lineOf line+min (m.size - lineOf line) 16)else mH
def VQ:Gu:=⟨List.replicate 8 ⟨0,0⟩,0,[]⟩
def rH(g:Gu):Bool:=decide (g.slots.length=8)&&decide (g.hist<8)&&decide (g.rets.length≤4)
def gL(g:Gu)(pc:Nat):Nat:=(pc / 4 ^^^ g.hist) % 8
def OW(i:SI):Bool:=(decide (i.op=3)||decide (i.op=4))&&decide (i.rd=1)
def EH(i:SI):Bool:=decide (i.op=4)&&decide (i.rd=0)&&decide (i.rs1=1)
def vS(g:Gu)(pc:Nat)(i:SI):Nat:=
 if rH g=true∧kindOf i.op=5 then
  if EH i=true∧0<g.rets.length then g.rets.getLast?.getD 0
  else match g.slots[gL g pc]? with
   |some s=>if s.pc=pc∧ ¬ (s.pc=0∧s.next=0)then s.next else up4 pc
   |none=>up4 pc
 else up4 pc
def dY(g:Gu)(pc next:Nat)(i:SI):Gu:=
 if rH g=true∧kindOf i.op=5 then
  {slots:=g.slots.set (gL g pc) ⟨pc,next⟩
   hist:=(2 * g.hist+(if next≠up4 pc then 1 else 0)) % 8
   rets:=if OW i=true then (if (g.rets++[up4 pc]).length>4 then (g.rets++[up4 pc]).drop 1 else g.rets++[up4 pc])
    else if EH i=true∧0<g.rets.length then g.rets.dropLast else g.rets}
 else g
@[reducible] def Ctx.at(C:Ctx)(s:Nat):Ctx:={C with fr:=s}
def Hn(r:AV):Nat→AV:=λ i=>match i with|0=>r|_=>.any
def XN(C:Ctx)(fn:Func)(Post:AV→AH→Prop)(s:Nat):AEx→ASt→Prop
 | .exit _,_=>False
 |_,st=>∃ rs,resA C st fn.results.toList=some rs∧GhostN ⟨Hn (Cz rs),st.h,st.n⟩ (λ stg=>∃ r h' σ,Post r h'∧keepB s σ (s+1)=true∧Weak stg ⟨Hn r,h',s+1⟩ σ)
def CF(h:AH):Nat→Bool
 |0=>true
 |k+1=>match h k with|some _=>CF h k|none=>false
theorem tL{h:AH}:∀ {s:Nat},CF h s=true→∀ x,x<s→h x≠none
 |0,_,x,hx=>absurd hx (dX _)
 | k+1,hf,x,hx=>by
  simp only[CF]at hf;split at hf
  ·rename_i b hb;rcases al_Nat_lt_or_ge x k with h|h
   ·exact tL hf x h
   ·have:x=k:=by omega
    subst this;rw[hb];simp
  ·cases hf
theorem IG:∀ {fr:Nat} {σ:Nat→Nat} {n:Nat},keepB fr σ n=true→∀ x,x<fr→σ x=x∧x<n
 |0,_,_,_,x,hx=>absurd hx (dX _)
 | k+1,σ,n,hf,x,hx=>by
  simp only[keepB]at hf;split at hf
  ·rename_i h1 h2;rcases al_Nat_lt_or_ge x k with h|h
   ·exact IG hf x h
   ·have:x=k:=by omega
    subst this;exact⟨aM h1,aR h2⟩
  ·cases hf
section
variable (S:Nat→Prop)(w:World)(β:Bt)
def OwnB(b:Nat):Prop:=∃ x l,β x=some l∧l.blk=b
structure FrP(s:Nat)(S':Nat→Prop)(w':World)(β':Bt):Prop where
 hS:∀ b,S b→S' b
 hE:Evo S w w'
 sz:w.heap.size≤w'.heap.size
 keep:∀ x l,x<s→β x=some l→β' x=some l
 own:∀ x l,β' x=some l→OwnB β l.blk∨w.heap.size≤l.blk
 nw:∀ b,S' b→S b∨w.heap.size≤b∨OwnB β b
 still:∀ b,b<w.heap.size→ ¬ OwnB β b→w'.heap[b]?=w.heap[b]?
theorem RA{S:Nat→Prop}{w w' w2:World}(h:Evo S w w')(e:w2.heap=w'.heap):Evo S w w2:=⟨λ b hb=>by rw[e];exact h.stable b hb,λ b cs t fr hb=>by rw[e];exact h.shape b cs t fr hb⟩
def EI(s:Nat):Inv s where
 p:=FrP S w β s
 mono:=by
  intro B S1 w1 β1 s1 S2 w2 β2 P K
  refine⟨λ b hb=>K.hS b (P.hS b hb),P.hE.trans P.hS K.hE,aL P.sz K.hB.size,λ x l hx hl=>K.hle _ _ (P.keep x l hx hl),λ x l hl=>?_,λ b hb=>?_,λ b hb hn=>?_⟩
  ·rcases K.hdom x l hl with h|⟨_,h|⟨y,k,h1,h2⟩⟩
   ·exact P.own x l h
   ·exact .inr (aL P.sz h)
   ·rw[←h2];exact P.own y k h1
  ·rcases K.hN b hb with h|⟨_,h|⟨y,k,h1,h2⟩⟩
   ·exact P.nw b h
   ·exact .inr (.inl (aL P.sz h))
   ·rcases P.own y k h1 with h|h
    ·exact .inr (.inr (h2 ▸ h))
    ·exact .inr (.inl (h2 ▸ h))
  ·refine (K.hO b (Nat.lt_of_lt_of_le hb P.sz) λ y k h1 h2=>?_).trans (P.still b hb hn)
   rcases P.own y k h1 with h|h
   ·exact hn (h2 ▸ h)
   ·rw[h2]at h;omega
 weak:=by
  intro S1 w1 β1 σ n P hk
  refine⟨P.hS,P.hE,P.sz,λ x l hx hl=>?_,λ x l hl=>?_,P.nw,P.still⟩
  ·obtain⟨h1,h2⟩:=IG hk x hx
   simp only[h2,kK,h1]
   exact P.keep x l hx hl
  ·by_cases hx:x<n
   ·rw[if_pos hx]at hl;exact P.own _ l hl
   ·rw[if_neg hx]at hl;cases hl
 frz:=by
  intro S1 w1 β1 x l P hl
  refine⟨λ b hb=>.inl (P.hS b hb),P.hE,P.sz,P.keep,P.own,λ b hb=>?_,P.still⟩
  rcases hb with hb|rfl
  ·exact P.nw b hb
  ·exact (P.own x l hl).elim (λ h=>.inr (.inr h)) λ h=>.inr (.inl h)
 heap:=by
  intro S1 w1 w2 β1 P e
  exact⟨P.hS,RA P.hE e,by rw[e];exact P.sz,P.keep,P.own,P.nw,λ b hb hn=>by rw[e];exact P.still b hb hn⟩
end
theorem HCall.intro{C:Ctx}{s:Nat}(hC:CtxOk (C.at s)){f:FuncId}{fn:Func}{body:Code}{args:List AV}{h:AH}{Post:AV→AH→Prop}(hf:C.P.funcs[f]?=some fn)(hb:fn.body=some body)(hnm:(fn.name== "runtime.NumGoroutine")=false)
  (hN:tQ fn.ntmps body=true) (hlen:Nat.ble args.length fn.ntmps=true) (hfull:CF h s=true) (hw:gC (C.at s) (bY (C.at s)) body ⟨argsT args,h,s⟩ (XN (C.at s) fn Post s)) (hdf:C.df=[]:=by rfl):pJ C.P C.G f args h s Post:=by
 refine⟨⟨fn,hf,by rw[hb];rfl,hnm⟩,λ B S w β vs H hdom hG hargs=>?_⟩;have hlen:=aR hlen;refine calls_of_wp hf hb ?_;have hB0:({w with heap:=w.heap.extract 0 B}:World).heap.size=B:=by
  show (w.heap.extract 0 B).size=B;rw[Array.size_extract];have:=H.big;omega
 have hget:∀ b,b<B→(w.heap.extract 0 B)[b]?=w.heap[b]? :=λ b hb=>by
  rw[mG,if_pos (by have:=H.big;omega),bU]
 have M0:SimD (C.at s) (EI S w β s) {w with heap:=w.heap.extract 0 B} S fn.ntmps (· <s) (argsT args) h {tmps:=vs.toArray++Array.replicate (fn.ntmps - vs.toArray.size) undef,defers:=[]} w S β:=by
  have hl:vs.length=args.length:=hargs.1.symm;refine⟨λ i=>?_,by rw[hB0];exact H,⟨rfl,rfl,rfl,by rw[hB0];exact H.big,λ b hb=>?_⟩,hdom,hdf.symm,by simp;omega,hG,λ _ h=>.inl h,⟨λ _ h=>h,Evo.refl _ _,aC _,λ _ _ _ h=>h,λ x l h=>.inl ⟨x,l,h,rfl⟩,λ _ h=>.inl h,λ _ _ _=>rfl⟩⟩
  ·rw[yP]
   cases ha:args[i]? with
   |none=>exact .any _
   | some x=>
    have hi:i<vs.length:=by rw[hl];exact (Db.1 ha).1
    have hv:vs[i]?=some vs[i]:=aA hi;have:(vs.toArray++Array.replicate (fn.ntmps - vs.toArray.size) undef).getD i undef=vs[i]:=by
     rw[aJ,dL (by simpa using hi),eK,hv];rfl
    rw[this];exact hargs.2 i x _ ha hv
  ·rw[hB0]at hb;exact (hget b hb).symm
 refine wp_mono (BE hC body hN ⟨argsT args,h,s⟩ _ hw _ w S β M0) ?_;rintro e a' w' ⟨e',st,S',β',rfl,hfin,M⟩;have fin:(∃ rs,resA (C.at s) st fn.results.toList=some rs∧GhostN ⟨Hn (Cz rs),st.h,st.n⟩ (λ stg=>∃ r h' σ,Post r h'∧keepB s σ (s+1)=true∧Weak stg ⟨Hn r,h',s+1⟩ σ))→a'.defers=[]∧∃ v,(results fn a'.tmps).run C.P w'=.ok v w'∧∃ v' S2 β2 r h',Post r h'∧Ending.returned v=.returned v'∧Rep S2 w' β2 r v'∧SimH B S2 w' β2 h'∧StepK B S w β s S2 w' β2:=by
  rintro ⟨rs,h1,stg,hgs,r,h',σ,hP,hk,hW⟩;obtain⟨t,hh,n⟩:=st;obtain⟨us,g1,g2⟩:=Hs hC M _ rs h1;have hret:Rep S' w' β' (Cz rs) (if h:us.toArray.size=1 then us.toArray[0]else .tuple us.toArray):=by
   match rs,us,g2 with
   |[],us,g2=>
    have:us=[]:=bF g2.1.symm;subst this
    exact .tup [] #[] rfl λ i a u p=>by simp at p
   |[x],us,g2=>
    match us,g2 with
    |[u],g2=>simpa [Cz]using g2.2 0 x u rfl rfl
    |[],g2=>exact absurd g2.1 (by simp)
    |_::_::_,g2=>exact absurd g2.1 (by simp)
   | x::y::zs,us,g2=>
    have hne: ¬ us.toArray.size=1:=by
     have:=g2.1;simp at this⊢;omega
    rw[dif_neg hne];exact .tup _ _ (by simpa using g2.1) λ i a u p q=>g2.2 i a u p (by simpa using q)
  refine⟨M.df.trans hdf,_,wX _ us g1 fn rfl,?_⟩;generalize hv:(if h:us.toArray.size=1 then us.toArray[0]else .tuple us.toArray)=v at hret⊢;have M1:SimD (C.at s) (EI S w β s) {w with heap:=w.heap.extract 0 B} S 1 (· <n) (Hn (Cz rs)) hh {tmps:= #[v],defers:=a'.defers} w' S' β':=by
   refine⟨λ i=>?_,M.H,M.B,M.dom,M.df,rfl,M.G,M.nw,M.iv⟩
   cases i with
   |zero=>exact hret
   |succ i=>exact .any _
  obtain⟨S2,M2⟩:=mV hgs M1;have M3:=oZ hW hk M2;have hr:=M3.T 0;refine⟨v,S2,_,r,h',hP,rfl,hr,by have:=M3.H;rwa [hB0]at this,?_⟩;have P:FrP S w β s S2 w' _:=M3.iv;have hfl:=tL hfull;refine⟨P.hS,P.hE,⟨M3.B.os,M3.B.tape,M3.B.output,P.sz,λ b hb=>?_⟩,λ x l hl=>P.keep x l (hdom x l hl) hl,λ x l hl=>?_,λ b hb=>?_,λ b hb hn=>P.still b hb λ⟨x,l,h1,h2⟩=>hn x l h1 h2⟩
  ·rw[M3.B.block b (by rw[hB0];exact hb)];exact hget b hb
  ·rcases al_Nat_lt_or_ge x s with hx|hx
   ·obtain⟨blk,hblk⟩:=CJ.1 (hfl x hx);obtain⟨l0,_,_,_,k1,_⟩:=H.own x blk hblk;have:=P.keep x l0 hx k1;rw[hl]at this;injection this with this;subst this;exact .inl k1
   ·have hx':x=s:=by
     have:=M3.dom x l hl;show x=s;have:x<s+1:=this;omega
    refine .inr ⟨hx',?_⟩;rcases P.own x l hl with ⟨y,k,h1,h2⟩|h
    ·exact .inr ⟨y,k,h1,h2⟩
    ·exact .inl h
  ·rcases P.nw b hb with h|h|⟨y,k,h1,h2⟩
   ·exact .inl h
   ·exact .inr ⟨aL H.big h,.inl h⟩
   ·rcases M3.nw b hb with h|h
    ·exact .inl h
    ·exact .inr ⟨by rwa [hB0]at h,.inr ⟨y,k,h1,h2⟩⟩
 cases e' with
 |normal=>exact fin hfin
 |ret=>exact fin hfin
 |exit i=>exact hfin.elim
theorem Kf{S:Nat→Prop}{w:World}{β:Bt}{a:AV}{v:Value}(hr:Rep S w β a v):∀ {β':Bt} {ρ:Nat→Nat},(∀ x l,β x=some l→β' (ρ x)=some l)→Rep S w β' (uK ρ a) v:=by
 induction hr with
 |v x=>intro β' ρ _;exact .v x
 |agg cs vs hl h1 h ih=>
  intro β' ρ hb;refine .agg _ vs (by rw[sR];exact hl) h1 λ i a u p q=>?_;rw[oY]at p;obtain⟨y,hy,rfl⟩:=EL.1 p
  exact ih i y u hy q hb
 |tup cs vs hl h ih=>
  intro β' ρ hb;refine .tup _ vs (by rw[sR];exact hl) λ i a u p q=>?_;rw[oY]at p;obtain⟨y,hy,rfl⟩:=EL.1 p
  exact ih i y u hy q hb
 |sl rs rows clip A c b o u hc hm hcl hrs hA hw h1 hr ih=>intro β' ρ _;exact .sl rs rows clip A c b o u hc hm hcl hrs hA hw h1 hr
 |dp rs col row b o u hrs hb hw h1 hr ih=>intro β' ρ _;exact .dp rs col row b o u hrs hb hw h1 hr
 |ptr s col l hl=>intro β' ρ hb;exact .ptr _ col l (hb _ _ hl)
 |ptr2 s row col l hl=>intro β' ρ hb;exact .ptr2 _ row col l (hb _ _ hl)
 |osl s lo len clip l A c hl hc hm hcl hA cs e fr hb room=>intro β' ρ hb';exact .osl _ lo len clip l A c (hb' _ _ hl) hc hm hcl hA cs e fr hb room
 | clo f first caps vs us hl h hl' h' ih ih'=>
  intro β' ρ hb;refine .clo f _ _ vs us (by rw[sR];exact hl) (λ i a u p q=>?_) (by rw[sR];exact hl') λ i a u p q=>?_
  ·rw[oY]at p;obtain⟨y,hy,rfl⟩:=EL.1 p;exact ih i y u hy q hb
  ·rw[oY]at p;obtain⟨y,hy,rfl⟩:=EL.1 p
   exact ih' i y u hy q hb
 |optT g a x hg h ih=>intro β' ρ hb;exact .optT g _ x hg (ih hb)
 |optF g a hg=>intro β' ρ _;exact .optF g _ hg
 |any x=>intro β' ρ _;exact .any x
theorem Pn{S:Nat→Prop}{w:World}{β β':Bt}{ρ:Nat→Nat}{l:Loc}{cs:Array Value}{blk:Blk}(k:Ai S w β l cs blk)(hb:∀ x l,β x=some l→β' (ρ x)=some l):Ai S w β' l cs (Ew ρ blk):=by
 cases blk with
 |box cells=>
  intro j a hj;rw[oY]at hj;obtain⟨y,hy,rfl⟩:=EL.1 hj;obtain⟨u,p1,p2,p3⟩:=k j y hy
  exact⟨u,p1,p2,Kf p3 hb⟩
 |arr rows rs=>exact k
 |row cells=>
  refine⟨k.1,λ j a hj=>?_⟩;rw[oY]at hj;obtain⟨y,hy,rfl⟩:=EL.1 hj;obtain⟨u,p1,p2,p3⟩:=k.2 j y hy;exact⟨u,p1,p2,Kf p3 hb⟩
theorem MH{S:Nat→Prop}{w:World}{β:Bt}{ρ:Nat→Nat}{n:Nat}{l:Loc}{cs:Array Value}{blk:Blk}(hb:tC n blk=true)(k:Ai S w β l cs (Ew ρ blk)):Ai S w (λ s=>if s<n then β (ρ s)else none) l cs blk:=by
 cases blk with
 |box cells=>
  intro j a hj;obtain⟨u,q1,q2,q3⟩:=k j (uK ρ a) (by rw[oY,hj];rfl)
  exact⟨u,q1,q2,BC _ _ _ (aC _) (rQ _ cells (by simpa [tC]using hb) j a hj) q3⟩
 |arr rows rs=>exact k
 |row cells=>
  refine⟨k.1,λ j a hj=>?_⟩;obtain⟨u,q1,q2,q3⟩:=k.2 j (uK ρ a) (by rw[oY,hj];rfl);exact⟨u,q1,q2,BC _ _ _ (aC _) (rQ _ cells (by simpa [tC]using hb) j a hj) q3⟩
def EJ(ρ:Nat→Nat)(s s2:Nat):Nat→Nat:=λ x=>match Nat.beq x s with|true=>s2|false=>ρ x
theorem uT(ρ:Nat→Nat)(s s2:Nat):EJ ρ s s2 s=s2:=by simp[EJ]
theorem qP(ρ:Nat→Nat){s s2 x:Nat}(h:x≠s):EJ ρ s s2 x=ρ x:=by
 unfold EJ;have:Nat.beq x s=false:=by rw[←eI];exact λ e=>h (aM e)
 rw[this]
theorem pJ.frame{P:Program}{G:Nat→Option (List AV)}{f:FuncId}{args:List AV}{h:AH}{s:Nat}{Post:AV→AH→Prop}(H:pJ P G f args h s Post)(ρ:Nat→Nat)(K:AH)(s2:Nat)(hfull:CF h s=true)(hlt:∀ x,h x≠none→x<s)
  (h1:∀ x blk,h x=some blk→ρ x<s2∧tC s blk=true∧K (ρ x)=some (Ew ρ blk)) (h2:∀ x y,x<s→y<s→ρ x=ρ y→x=y) (ha:pK s args=true)
  (Post':AV→AH→Prop) (hPost:∀ r h',Post r h'→∃ K',Post' (uK (EJ ρ s s2) r) K'∧∀ y blk,K' y=some blk→(∃ x blk0,h' x=some blk0∧y=EJ ρ s s2 x∧blk=Ew (EJ ρ s s2) blk0)∨(K y=some blk∧∀ x,x<s→ρ x≠y)):
  pJ P G f (Bz ρ args) K s2 Post':=by
 refine⟨H.1,λ B S w β vs HK hdom hG hargs=>?_⟩;have hfl:=tL hfull;have hβ:∀ x,x<s→∃ l,β (ρ x)=some l∧K (ρ x)≠none:=λ x hx=>by
  obtain⟨blk,hblk⟩:=CJ.1 (hfl x hx);obtain⟨_,_,e⟩:=h1 x blk hblk;obtain⟨l,_,_,_,k1,_⟩:=HK.own _ _ e;exact⟨l,k1,by rw[e];simp⟩
 have HS:SimH B S w (λ x=>if x<s then β (ρ x)else none) h:=by
  refine⟨λ x blk hx=>?_,λ x x' l l' hx hx' e e' hb=>?_,HK.lt,HK.big⟩
  ·obtain⟨_,b1,e⟩:=h1 x blk hx;have hxs:=hlt x (by rw[hx];simp);obtain⟨l,cs,t,fr,k1,k2,k3,k4,k5,k6⟩:=HK.own _ _ e;exact⟨l,cs,t,fr,by simp only[hxs,kK];exact k1,k2,k3,k4,k5,MH b1 k6⟩
  ·have g1:=hlt x hx;have g2:=hlt x' hx';rw[if_pos g1]at e;rw[if_pos g2]at e';exact h2 x x' g1 g2 (HK.inj _ _ _ _ (hβ x g1).choose_spec.2 (hβ x' g2).choose_spec.2 e e' hb)
 have hL:RepL S w (λ x=>if x<s then β (ρ x)else none) args vs:=by
  refine⟨by rw[←hargs.1,sR],λ i a u p q=>?_⟩;exact BC _ _ _ (aC _) (rQ _ args ha i a p) (hargs.2 i (uK ρ a) u (by rw[oY,p];rfl) q)
 refine (H.2 B S w _ vs HS (λ x l hl=>?_) hG hL).mono ?_
 ·by_cases hx:x<s
  ·exact hx
  ·rw[if_neg hx]at hl;cases hl
 rintro e w' ⟨v,S',βc,r,h',hP,rfl,hr,HS',KK⟩;obtain⟨K',hP',h3⟩:=hPost r h' hP;have old:∀ x l,(if x<s then β (ρ x)else none)=some l→x<s∧β (ρ x)=some l:=λ x l hl=>by
  by_cases hx:x<s
  ·rw[if_pos hx]at hl;exact⟨hx,hl⟩
  ·rw[if_neg hx]at hl;cases hl
 have hmap:∀ x l,βc x=some l→(λ y=>if y=s2 then βc s else β y) (EJ ρ s s2 x)=some l:=λ x l hl=>by
  rcases KK.hdom x l hl with h|⟨h,_⟩
  ·obtain⟨hx,hx'⟩:=old x l h;have:ρ x<s2:=hdom _ _ hx';rw[qP ρ (by omega)];show (if ρ x=s2 then βc s else β (ρ x))=some l;rw[if_neg (by omega)];exact hx'
  ·subst h;rw[uT];show (if s2=s2 then βc x else β s2)=some l;rw[if_pos rfl];exact hl
 have hle:Jk β (λ y=>if y=s2 then βc s else β y):=λ y l hl=>by
  have:=hdom y l hl;show (if y=s2 then βc s else β y)=some l;rw[if_neg (by omega)];exact hl
 have other:∀ y blk l,K y=some blk→β y=some l→(∀ x,x<s→ρ x≠y)→∀ x k,(if x<s then β (ρ x)else none)=some k→k.blk≠l.blk:=λ y blk l hy hl hne x k hk e=>by
  obtain⟨hx,hx'⟩:=old x k hk;exact hne x hx (HK.inj _ _ _ _ (hβ x hx).choose_spec.2 (by rw[hy];simp) hx' hl e)
 refine⟨v,S',λ y=>if y=s2 then βc s else β y,_,K',hP',rfl,Kf hr hmap,⟨λ y blk hy=>?_,λ y y' l l' hy hy' e1 e2 hb=>?_,HS'.lt,HS'.big⟩,⟨KK.hS,KK.hE,KK.hB,hle,λ y l hl=>?_,λ b hb=>?_,λ b hb hn=>KK.hO b hb λ x k hk=>?_⟩⟩
 ·rcases h3 y blk hy with ⟨x,blk0,e1,rfl,rfl⟩|⟨e1,hne⟩
  ·obtain⟨l,cs,t,fr,k1,k2,k3,k4,k5,k6⟩:=HS'.own x blk0 e1;exact⟨l,cs,t,fr,hmap x l k1,k2,k3,k4,k5,Pn k6 hmap⟩
  ·obtain⟨l,cs,t,fr,k1,k2,k3,k4,k5,k6⟩:=HK.own y blk e1;have hdiff:=other y blk l e1 k1 hne;have hlt:=fI k2;refine⟨l,cs,t,fr,hle _ _ k1,(KK.hO _ hlt hdiff).trans k2,k3,k4,λ hS=>?_,k6.mono KK.hS KK.hE hle⟩;rcases KK.hN _ hS with h|⟨_,h|⟨x,k,q1,q2⟩⟩
   ·exact k5 h
   ·omega
   ·exact hdiff x k q1 q2
 ·
  have sort:∀ y l,K' y≠none→(if y=s2 then βc s else β y)=some l→(∃ x,h' x≠none∧βc x=some l∧y=EJ ρ s s2 x)∨(K y≠none∧β y=some l∧∀ x,x<s→ρ x≠y):=λ y l hy hl=>by
   obtain⟨blk,hblk⟩:=CJ.1 hy;rcases h3 y blk hblk with ⟨x,blk0,e1,e2,_⟩|⟨e1,hne⟩
   ·obtain⟨l0,_,_,_,k1,_⟩:=HS'.own x blk0 e1;have:=hmap x l0 k1;rw[←e2]at this;rw[show (λ y=>if y=s2 then βc s else β y) y=(if y=s2 then βc s else β y)from rfl,hl]at this;injection this with this;subst this;exact .inl ⟨x,by rw[e1];simp,k1,e2⟩
   ·obtain⟨l0,_,_,_,k1,_⟩:=HK.own y blk e1;have hys:y<s2:=hdom y l0 k1;rw[if_neg (by omega)]at hl;exact .inr ⟨by rw[e1];simp,hl,hne⟩
  have mix:∀ y l x l',K y≠none→β y=some l→(∀ x,x<s→ρ x≠y)→h' x≠none→βc x=some l'→l.blk≠l'.blk:=λ y l x l' hy hl hne hx hl' e=>by
   obtain⟨blk,hblk⟩:=CJ.1 hy;have hdiff:=other y blk l hblk hl hne;obtain⟨l0,_,_,_,k1,k2,_⟩:=HK.own y blk hblk;rw[hl]at k1;injection k1 with k1;subst k1;have hlt:=fI k2;rcases KK.hdom x l' hl' with h|⟨_,h|⟨z,k,q1,q2⟩⟩
   ·exact hdiff x l' h e.symm
   ·omega
   ·exact hdiff z k q1 (q2.trans e.symm)
  rcases sort y l hy e1 with ⟨x,a1,a2,a3⟩|⟨a1,a2,a3⟩<;>rcases sort y' l' hy' e2 with ⟨x',b1,b2,b3⟩|⟨b1,b2,b3⟩
  ·rw[a3,b3,HS'.inj x x' l l' a1 b1 a2 b2 hb]
  ·exact absurd hb.symm (mix y' l' x l b1 b2 b3 a1 a2)
  ·exact absurd hb (mix y l x' l' a1 a2 a3 b1 b2)
  ·exact HK.inj y y' l l' a1 b1 a2 b2 hb
 ·have hl:(if y=s2 then βc s else β y)=some l:=hl;by_cases hy:y=s2
  ·rw[if_pos hy]at hl;refine .inr ⟨hy,?_⟩;rcases KK.hdom s l hl with h|⟨_,h|⟨z,k,q1,q2⟩⟩
   ·exact absurd (old s l h).1 (gX _)
   ·exact .inl h
   ·exact .inr ⟨_,k,(old z k q1).2,q2⟩
  ·rw[if_neg hy]at hl;exact .inl hl
 ·rcases KK.hN b hb with h|⟨hB,h|⟨x,k,q1,q2⟩⟩
  ·exact .inl h
  ·exact .inr ⟨hB,.inl h⟩
  ·exact .inr ⟨hB,.inr ⟨_,k,(old x k q1).2,q2⟩⟩
 ·exact hn _ k (old x k hk).2
theorem pJ.frame1{P:Program}{G:Nat→Option (List AV)}{f:FuncId}{args:List AV}{blk blk1:Blk}{r:AV}(H:pJ P G f args (heapF [(0,blk)]) 1 (λ x h'=>x=r∧h'=heapF [(0,blk1)]))(b:Nat)(K:AH)(s2:Nat)(hb:b<s2)
  (hbl:tC 1 blk=true) (hK:K b=some (Ew (λ _=>b) blk)) (ha:pK 1 args=true):
  pJ P G f (Bz (λ _=>b) args) K s2 (λ x h'=>x=uK (EJ (λ _=>b) 1 s2) r∧h'=upd K b (some (Ew (EJ (λ _=>b) 1 s2) blk1))):=by
 refine H.frame (λ _=>b) K s2 rfl (λ x hx=>?_) (λ x blk0 hx=>?_) (λ x y hx hy _=>by omega) ha _ λ r' h' hP=>?_
 ·cases x with
  |zero=>omega
  |succ x=>exact absurd rfl hx
 ·cases x with
  |zero=>injection hx with hx;subst hx;exact⟨hb,hbl,hK⟩
  |succ x=>cases hx
 ·obtain⟨rfl,rfl⟩:=hP;refine⟨_,⟨rfl,rfl⟩,λ y blk0 hy=>?_⟩;by_cases he:y=b
  ·subst he;rw[dA]at hy;injection hy with hy;exact .inl ⟨0,blk1,rfl,rfl,hy.symm⟩
  ·rw[cE _ _ he]at hy;exact .inr ⟨hy,λ x hx e=>he e.symm⟩
theorem CtxOk.at{C:Ctx}{s:Nat}(h:CtxOk C):CtxOk (C.at s):=⟨h.ty,h.mixed,h.hH⟩
theorem Kg{C:Ctx}{R:FuncId→List AV→AV→Prop}{Q:AEx→ASt→Prop}{κ:Type}(S:κ→ASt)(G:κ→Prop){a b:Code}{st:ASt}(ka:gC C R a st (λ e st'=>match e with| .normal=>GhostN st' (λ st''=>∃ k σ,Weak st'' (S k) σ∧keepB C.fr σ (S k).n=true∧G k)|e=>Q e st'))(kb:∀ k,G k→gC C R b (S k) Q):gC C R (.seq a b) st Q:=
 WI S G ka kb kI
theorem oX{C:Ctx}{fn:Func}{Post:AV→AH→Prop}{s:Nat}{st:ASt}{rs:List AV}(h1:resA C st fn.results.toList=some rs){r:AV}{h':AH}{σ:Nat→Nat}(hP:Post r h')(hk:keepB s σ (s+1)=true)(hW:Weak ⟨Hn (Cz rs),st.h,st.n⟩ ⟨Hn r,h',s+1⟩ σ):
  ∃ rs,resA C st fn.results.toList=some rs∧GhostN ⟨Hn (Cz rs),st.h,st.n⟩ (λ stg=>∃ r h' σ,Post r h'∧keepB s σ (s+1)=true∧Weak stg ⟨Hn r,h',s+1⟩ σ):=
 ⟨rs,h1,.mk _ (.refl _) ⟨r,h',σ,hP,hk,hW⟩⟩
theorem cF{st:ASt}{x r:AV}{hp:List (Nat×Blk)}{n:Nat}(σ:Nat→Nat)(hx:x=uK σ r)(hb:mW n r=true)(hh:WH ⟨Hn x,st.h,st.n⟩ n σ hp)(hi:EM ((hp.map (·.1)).map σ)=true):Weak ⟨Hn x,st.h,st.n⟩ ⟨Hn r,heapF hp,n⟩ σ:=by
 have W:=Weak.of_lists (st:=⟨Hn x,st.h,st.n⟩) (l:=[(0,r)]) (hp:=hp) (n:=n) σ ⟨⟨hx,hb⟩,trivial⟩ hh hi;refine⟨λ i=>?_,W.h,W.inj⟩;have:=W.t i
 cases i with
 |zero=>exact this
 |succ i=>exact .inl rfl
def LeL(fz:Fz):List AV→List AV→Prop
 |[],[]=>True
 |a::as_,b::bs=>LeZ fz a b∧LeL fz as_ bs
 |_,_=>False
theorem LeL.get{fz:Fz}:∀ {as_ bs:List AV},LeL fz as_ bs→as_.length=bs.length∧∀ (i:Nat) a d,as_[i]?=some a→bs[i]?=some d→LeZ fz a d
 |[],[],_=>⟨rfl,λ i a d h=>by simp at h⟩
 |a::as_,b::bs,h=>by
  obtain⟨h1,h2⟩:=LeL.get h.2;refine⟨by simp[h1],λ i x y hx hy=>?_⟩
  cases i with
  |zero=>simp at hx hy;subst hx hy;exact h.1
  |succ i=>exact h2 i x y (by simpa using hx) (by simpa using hy)
 |[],_::_,h=>h.elim
 |_::_,[],h=>h.elim
theorem LeB.boxL{fz:Fz}{as_ bs:List AV}(h:LeL fz as_ bs):LeB fz (.box as_) (.box bs):=.box as_ bs h.get.1 h.get.2
def GT(st:ASt)(fz:Fz):List (Nat×AV)→Prop
 |[]=>True
 |(i,x)::l=>LeZ fz (st.t i) x∧GT st fz l
def GH(st:ASt)(fz:Fz):List (Nat×Blk)→Prop
 |[]=>True
 |(i,x)::l=>((match fz with|some (b,_,_)=>Nat.beq i b=false|none=>True)∧∃ b0,st.h i=some b0∧LeB fz b0 x)∧GH st fz l
theorem Ghost.of_lists{st:ASt}{fz:Fz}{l:List (Nat×AV)}{hp:List (Nat×Blk)}(hb:match fz with|some (x,rs,rows)=>st.h x=some (.arr rows rs)|none=>True)(ht:GT st fz l)(hh:GH st fz hp):Ghost st ⟨cI l,heapF hp,st.n⟩ fz:=by
 refine⟨λ x rs rows h=>(by subst h;exact hb),rfl,λ i=>?_,λ s blk hs=>?_⟩
 ·clear hh hb
  induction l with
  |nil=>exact .any _
  |cons p l ih=>
   obtain⟨j,x⟩:=p;show LeZ fz _ (cI _ _);simp only[cI]
   cases hq:Nat.beq j i with
   |true=>rw[←aM hq];exact ht.1
   |false=>exact ih ht.2
 ·clear ht hb
  induction hp with
  |nil=>cases hs
  | cons p hp ih=>
   obtain⟨j,x⟩:=p
   change heapF _ _=_ at hs
   simp only[heapF]at hs
   cases hq:Nat.beq j s with
   |true=>
    rw[hq]at hs;injection hs with hs;subst hs;rw[←aM hq];refine⟨λ x rs rows hz e=>?_,hh.1.2⟩;have:=hh.1.1;subst hz;simp only at this;rw[e]at this
    simp at this
   |false=>rw[hq]at hs;exact ih hh.2 hs
abbrev eJ(n:Nat):List AV:=[.v (.int .u32 (n:Int))]
theorem uU:∀ (l:List UInt8),iG (l.map λ b=>[.v (.int .u8 (b.toNat:Int))])=some l
 |[]=>rfl
 |b::l=>by
  simp only[iW,iG,uU l];simp
theorem eW{C:Ctx}{fn:Func}{r:AV}{st:ASt}{rs:List AV}(h1:resA C st fn.results.toList=some rs)(h2:jG st.h (Cz rs))(h3:eM (uJ st.h (Cz rs))=true)(h4:uJ st.h (Cz rs)=r):Sg C fn r st:=FG h1 h2 h3 h4
theorem fT{C:Ctx}{fn:Func}{r:AV}{st:ASt}{rs:List AV}(h1:resA C st fn.results.toList=some rs)(h4:uJ st.h (Cz rs)=r)(h2:jG st.h (Cz rs):=by exact trivial)(h3:eM (uJ st.h (Cz rs))=true:=by exact rfl):Sg C fn r st:=eW h1 h2 h3 h4
set_option maxRecDepth 100000 in
set_option maxHeartbeats 4000000 in
theorem Fw(i:SI):bY C0 100 [siA i] (.tup [.v (.int .i64 i.rs1),.v (.int .i64 i.rs2)]):=by
 refine bY.intro c0Ok Tryz.func100 rfl rfl (by kernel_rfl) rfl ?_;refine aE ?_;refine aG rfl ?_;refine rFx (d:=1) (x:=.ptr 0 0) (h':=upd _ 0 (some (.box [.v (.int .i64 i.op),.v (.int .i64 i.rd),.v (.int .i64 i.rs1),.v (.int .i64 i.rs2),.v (.int .u32 ((i.imm:Nat):Int))]))) rfl rfl (rfl) (trivial) ?_;refine rOk (d:=2) (x:=.v (.int .i64 0)) rfl rfl rfl ?_;refine rOk (d:=3) (x:=.v (.int .i64 0)) rfl rfl rfl ?_;refine JE (n':=3) rfl ?_;refine aE ?_;refine aG rfl ?_;refine rOk (d:=4) (x:=.ptr 0 2) rfl rfl rfl ?_;refine rOk (d:=5) (x:=.v (.int .i64 i.rs1)) rfl rfl rfl ?_;refine rOk (d:=6) (x:=.ptr 0 3) rfl rfl rfl ?_;refine rOk (d:=7) (x:=.v (.int .i64 i.rs2)) rfl rfl rfl ?_;refine rOk (d:=2) (x:=.v (.int .i64 i.rs1)) rfl rfl rfl ?_;refine rOk (d:=3) (x:=.v (.int .i64 i.rs2)) rfl rfl rfl ?_;refine JE (n':=9) rfl ?_;refine cT ?_;exact FG rfl trivial rfl rfl
theorem RB{prog:List Nat}{pc:Nat}(h1:pc % 4=0)(h2:pc / 4<prog.length):∃ x,fetchP prog pc=some x∧prog[((pc / 4:Nat):Int).toNat]?=some x:=by
 refine⟨prog[pc / 4],?_,?_⟩
 ·unfold fetchP;rw[if_pos h1,aA h2]
 ·rw[Int.toNat_natCast,aA h2]
theorem RC{prog:List Nat}{pc:Nat}(h:pc % 4≠0∨prog.length≤pc / 4):fetchP prog pc=none:=by
 unfold fetchP;split
 ·exact bR (by omega)
 ·rfl
theorem yJ(a:Nat):up4 a≤4294967295:=by unfold up4;omega
theorem Uh{n:Nat}(h:n≤1000000):IntKind.wrap .u64 ((n:Int))=(n:Int):=by
 simp only[IntKind.wrap,IntKind.signed,IntKind.bits];simp;omega
set_option maxRecDepth 100000 in
set_option maxHeartbeats 4000000 in
theorem Po(prog:List Nat)(pc:Nat)(clip:Bool)(hp:∀ x∈prog,x≤4294967295)(hl:prog.length≤1000000)(hpc:pc≤4294967295):bY C0 113 [.sl 1 (prog.map eJ) clip,.v (.int .u32 (pc:Int))] (.tup [.v (.int .u32 (fetchW prog pc:Int)),.v (.bool (fetchP prog pc).isSome)]):=by
 refine bY.intro c0Ok Tryz.func113 rfl rfl (by kernel_rfl) rfl ?_;refine aE ?_;refine aG rfl ?_;refine rOk (d:=4) (x:=.v (.int .u32 0)) rfl rfl rfl ?_;refine rOk (d:=5) (x:=.v (.bool false)) rfl rfl rfl ?_;refine JE (n':=2) rfl ?_;refine aE ?_;refine aE ?_;refine aG rfl ?_;refine rOk (d:=6) (x:=.v (.int .u32 (pc:Int))) rfl rfl rfl ?_;have b1:pc % 4≤3:=aT (bG _ (by decide));refine cH (d:=7) (x:=.v (.int .u32 ((pc % 4:Nat):Int))) rfl rfl rfl (by decide) ?_;refine rOk (d:=8) (x:=.v (.bool ((pc % 4) != 0))) rfl rfl (okB (neN _ _)) ?_;refine rOk (d:=9) (x:=.v (.bool ((pc % 4) != 0))) rfl rfl rfl ?_;refine gOk (d:=10) (x:=.v (.int .u32 (pc:Int))) (g:= !((pc % 4) != 0)) rfl rfl rfl rfl rfl rfl ?_;have b2:pc / 4≤1073741823:=kC hpc;refine vK (d:=11) (x:=.v (.int .u32 ((pc / 4:Nat):Int))) (g:= !((pc % 4) != 0)) rfl rfl rfl rfl (λ h=>h) rfl (Jn (Hr b2 rfl)) (λ _=>by decide) ?_;refine UP (d:=12) (x:=.v (.int .u64 ((pc / 4:Nat):Int))) (g:= !((pc % 4) != 0)) rfl rfl rfl rfl (λ h=>h) rfl (okI (Hr b2 rfl)) ?_;refine gOk (d:=13) (x:=.sl 1 (prog.map eJ) clip) (g:= !((pc % 4) != 0)) rfl rfl rfl rfl rfl rfl ?_;refine UP (d:=14) (x:=.v (.int .i64 ((prog.map eJ).length:Int))) (g:= !((pc % 4) != 0)) rfl rfl rfl rfl (λ h=>h) rfl rfl ?_;refine UP (d:=15) (x:=.v (.int .u64 ((prog.length:Nat):Int))) (g:= !((pc % 4) != 0)) rfl rfl rfl rfl (λ h=>h) rfl (by show Res.ok (.v (.int .u64 (IntKind.wrap .u64 ((((prog.map eJ).length:Nat):Int)))))=_;rw[aO,Uh hl]) ?_;refine UP (d:=16) (x:=.v (.bool (decide ((pc / 4)≥prog.length)))) (g:= !((pc % 4) != 0)) rfl rfl rfl rfl (λ h=>by simp_all) rfl (okB (geN _ _)) ?_;refine cH (d:=17) (x:=.v (.bool (cA ((pc % 4) != 0) true (decide ((pc / 4)≥prog.length))))) rfl rfl rfl (by simp) ?_;refine JE (n':=14) rfl ?_;refine aU (v:=cA ((pc % 4) != 0) true (decide ((pc / 4)≥prog.length))) rfl (λ h1=>?_) (λ h1=>?_)
 ·skip
  refine aE ?_;refine aG rfl ?_;refine rOk (d:=4) (x:=.v (.int .u32 0)) rfl rfl rfl ?_;refine rOk (d:=5) (x:=.v (.bool false)) rfl rfl rfl ?_;refine JE (n':=16) rfl ?_;refine cT ?_;exact eW rfl trivial rfl (by unfold fetchW;rw[RC (by simp[cA,bne]at h1;split at h1<;>first|(left;assumption)|(right;assumption)|simp_all)];rfl)
 ·skip
  refine aZ ?_;refine aE ?_;refine aG rfl ?_;refine rOk (d:=18) (x:=.sl 1 (prog.map eJ) clip) rfl rfl rfl ?_;refine rOk (d:=19) (x:=.v (.int .u32 (pc:Int))) rfl rfl rfl ?_;have b3:pc / 4≤1073741823:=kC hpc;refine cH (d:=20) (x:=.v (.int .u32 ((pc / 4:Nat):Int))) rfl rfl (Jn (Hr b3 rfl)) (by decide) ?_;obtain⟨x,hf,hxx⟩:=RB (prog:=prog) (pc:=pc) (by simp[cA,bne]at h1;split at h1<;>simp_all) (by simp[cA,bne]at h1;split at h1<;>simp_all);have hx:x≤4294967295:=hp x (aB hxx);refine Fb (eJ x) (d:=21) (x:=.dp 1 0 (eJ x)) rfl rfl rfl (⟨by omega,by rw[bH];exact congrArg (Option.map eJ) hxx⟩) rfl ?_;refine rOk (d:=22) (x:=.v (.int .u32 (x:Int))) rfl rfl rfl ?_;refine rOk (d:=4) (x:=.v (.int .u32 (x:Int))) rfl rfl rfl ?_;refine rOk (d:=5) (x:=.v (.bool true)) rfl rfl rfl ?_;refine JE (n':=21) rfl ?_;refine cT ?_;exact eW rfl trivial rfl (by unfold fetchW;rw[hf];rfl)
theorem xX(m:ByteArray):(cC m).length=m.size:=by simp[cC]
def upS(n:Nat):Nat:=if n≤16 then 16 else if n≤32 then 32 else if n≤64 then 64 else if n≤128 then 128 else 256
def qQ(m:ByteArray):ByteArray:=⟨((m.extract 0 (min m.size 256)).data.toList++List.replicate (upS (min m.size 256) - min m.size 256) 0).toArray⟩
theorem Bu(m:ByteArray):(m.extract 0 (min m.size 256)).size=min m.size 256:=by rw[dU];omega
theorem xY(m:ByteArray):(qQ m).size=upS (min m.size 256):=by
 have h:=Bu m;have h1:(m.extract 0 (min m.size 256)).data.size=min m.size 256:=h;show (qQ m).data.size=_;simp only[qQ,mK,aY,dO,cU,h1];unfold upS
 repeat' (split<;>try omega)
theorem SJ{n j:Nat}(h4:j≤4)(h1:n≤16 * 2 ^ j)(h2:j=0∨16 * 2 ^ (j - 1)<n):16 * 2 ^ j=upS n:=by
 have:j=0∨j=1∨j=2∨j=3∨j=4:=by omega
 unfold upS;rcases this with rfl|rfl|rfl|rfl|rfl<;>simp at h1 h2⊢ <;>repeat' (split<;>try omega)
theorem LC{j n:Nat}(h4:j≤4)(h:16 * 2 ^ j<min n 256):j<4:=by
 have:j=0∨j=1∨j=2∨j=3∨j=4:=by omega
 rcases this with rfl|rfl|rfl|rfl|rfl<;>simp at h⊢ <;>omega
theorem MI(m:ByteArray)(s:Nat)(h:m.size≤s):iG (List.take s (List.drop 0 (List.take 0 (List.replicate s [AV.v (.int .u8 0)])++List.take (min (cC m).length s) (cC m)++List.drop (0+min (cC m).length s) (List.replicate s [AV.v (.int .u8 0)]))))=some (m.data.toList++List.replicate (s - m.size) 0):=by
 have q:=xX m;simp only[pF,iN,cQ,bU,q,rN h];have e1:List.take m.size (cC m)=cC m:=aN (by rw[q];exact aC _);rw[e1,List.drop_replicate,aN (by simp[q];omega)];have:List.replicate (s - m.size) [AV.v (.int .u8 0)]=(List.replicate (s - m.size) (0:UInt8)).map λ b=>[.v (.int .u8 (b.toNat:Int))]:=by simp
 rw[this];simp only[cC];rw[←fX];exact uU _
set_option maxRecDepth 100000 in
set_option maxHeartbeats 4000000 in
theorem SK(m:ByteArray):bY C0 42 [.v (.string m)] (.v (.string (qQ m))):=by
 refine bY.intro c0Ok Tryz.func42 rfl rfl (by kernel_rfl) rfl ?_;refine aE ?_;refine aG rfl ?_;refine rOk (d:=2) (x:=.v (.string (⟨#[]⟩))) rfl rfl rfl ?_;refine JE (n':=1) rfl ?_;refine aE ?_;refine aG rfl ?_;refine rOk (d:=5) (x:=.v (.string m)) rfl rfl rfl ?_;refine rOk (d:=6) (x:=.v (.string m)) rfl rfl rfl ?_;refine rOk (d:=7) (x:=.v (.int .i64 (m.size:Int))) rfl rfl rfl ?_;refine rOk (d:=8) (x:=.v (.int .i64 ((min m.size 256:Nat):Int))) rfl rfl (by show Res.ok (.v (.int .i64 (if (256:Int)<(m.size:Int)then 256 else (m.size:Int))))=_;congr 3;split<;>omega) ?_;refine cH (d:=9) (x:=.v (.string (m.extract 0 (min m.size 256)))) rfl rfl rfl (by refine⟨?_,?_,?_⟩<;>simp<;>omega) ?_;refine rOk (d:=0) (x:=.v (.string (m.extract 0 (min m.size 256)))) rfl rfl rfl ?_;refine JE (n':=7) rfl ?_;refine aE ?_;refine aG rfl ?_;refine rOk (d:=3) (x:=.v (.int .i64 16)) rfl rfl rfl ?_;refine JE (n':=8) rfl ?_;refine aE ?_;refine bI ?_;refine kZ (κ:=Nat) (λ j=>⟨cI [(0,.v (.string (m.extract 0 (min m.size 256)))),(3,.v (.int .i64 ((16 * 2 ^ j:Nat):Int)))],heapF [],8⟩) (λ j=>j≤4∧(j=0∨16 * 2 ^ (j - 1)<min m.size 256)) (λ j=>4 - j) 0 (λ s=>s) (Weak.of_lists (λ s=>s) ⟨⟨rfl,rfl⟩,⟨rfl,rfl⟩,trivial⟩ trivial rfl) (⟨by decide,.inl rfl⟩) ?_;intro j hj;refine aE ?_;refine aE ?_;refine aG rfl ?_;refine rOk (d:=10) (x:=.v (.int .i64 ((16 * 2 ^ j:Nat):Int))) rfl rfl rfl ?_;refine rOk (d:=11) (x:=.v (.string (m.extract 0 (min m.size 256)))) rfl rfl rfl ?_;refine rOk (d:=12) (x:=.v (.int .i64 ((min m.size 256:Nat):Int))) rfl rfl (congrArg (λ n:Nat=>Res.ok (.v (.int .i64 (n:Int)))) (Bu m)) ?_;refine rOk (d:=13) (x:=.v (.bool (decide ((16 * 2 ^ j)<(min m.size 256))))) rfl rfl (okB (ltN _ _)) ?_;refine JE (n':=12) rfl ?_;refine aU (v:=decide ((16 * 2 ^ j)<(min m.size 256))) rfl (λ h1=>?_) (λ h1=>?_)
 ·skip
  refine aZ ?_;refine bI ?_;refine aG rfl ?_;refine rOk (d:=14) (x:=.v (.int .i64 ((16 * 2 ^ j:Nat):Int))) rfl rfl rfl ?_;refine rOk (d:=15) (x:=.v (.int .i64 ((16 * 2 ^ (j+1):Nat):Int))) rfl rfl (by show Res.ok (.v (.int .i64 (IntKind.wrap .i64 (((16 * 2 ^ j:Nat):Int) * 2))))=_;have p5:=fM (n:=2) (by decide) hj.1;rw[wrap_i64 (by omega) (by omega)];congr 3;rw[Nat.pow_succ];omega) ?_;refine rOk (d:=3) (x:=.v (.int .i64 ((16 * 2 ^ (j+1):Nat):Int))) rfl rfl rfl ?_;refine JE (n':=15) rfl ?_;refine⟨j+1,λ s=>s,Weak.of_lists (λ s=>s) ⟨⟨rfl,rfl⟩,⟨rfl,rfl⟩,trivial⟩ trivial rfl,⟨by have:=LC hj.1 (of_decide_eq_true h1);omega,.inr (by simpa using of_decide_eq_true h1)⟩,by have:=LC hj.1 (of_decide_eq_true h1);show 4 - (j+1)<4 - j;omega⟩
 ·skip
  refine eA ?_;refine aE ?_;refine aG rfl ?_;refine rOk (d:=16) (x:=.v (.int .i64 ((16 * 2 ^ j:Nat):Int))) rfl rfl rfl ?_;refine rFx (d:=17) (x:=.osl 13 0 (16 * 2 ^ j) false) (h':=upd _ 13 (some (.arr (List.replicate (16 * 2 ^ j) [AV.v (.int .u8 0)]) 1))) rfl rfl (rfl) (by have p5:=fM (n:=2) (by decide) hj.1;refine⟨by omega,by omega,?_⟩;simp only[oL];omega) ?_;refine rOk (d:=4) (x:=.osl 13 0 (16 * 2 ^ j) false) rfl rfl rfl ?_;refine JE (n':=15) rfl ?_;refine aE ?_;refine aG rfl ?_;refine rOk (d:=18) (x:=.osl 13 0 (16 * 2 ^ j) false) rfl rfl rfl ?_;refine rOk (d:=19) (x:=.v (.string (m.extract 0 (min m.size 256)))) rfl rfl rfl ?_;refine rFx (d:=20) (x:=.v (.int .i64 ((min (cC (m.extract 0 (min m.size 256))).length (16 * 2 ^ j):Nat):Int))) (h':=upd _ 13 (some (.arr (List.take 0 (List.replicate (16 * 2 ^ j) [AV.v (.int .u8 0)])++List.take (min (cC (m.extract 0 (min m.size 256))).length (16 * 2 ^ j)) (cC (m.extract 0 (min m.size 256)))++List.drop (0+min (cC (m.extract 0 (min m.size 256))).length (16 * 2 ^ j)) (List.replicate (16 * 2 ^ j) [AV.v (.int .u8 0)])) 1))) rfl rfl (rfl) (⟨by simp,trivial⟩) ?_;refine JE (n':=18) rfl ?_;refine aE ?_;refine aG rfl ?_;refine rOk (d:=21) (x:=.osl 13 0 (16 * 2 ^ j) false) rfl rfl rfl ?_;refine WF ((m.extract 0 (min m.size 256)).data.toList++List.replicate (upS (min m.size 256) - min m.size 256) 0) (d:=22) rfl rfl rfl (by show 0+16 * 2 ^ j≤List.length (List.take 0 (List.replicate (16 * 2 ^ j) [AV.v (.int .u8 0)])++List.take (min (cC (m.extract 0 (min m.size 256))).length (16 * 2 ^ j)) (cC (m.extract 0 (min m.size 256)))++List.drop (0+min (cC (m.extract 0 (min m.size 256))).length (16 * 2 ^ j)) (List.replicate (16 * 2 ^ j) [AV.v (.int .u8 0)]));have q:=xX (m.extract 0 (min m.size 256));have q2:=Bu m;have:=aD h1;simp only[aY,aQ,bA,cU,q,q2];omega) (by have e:=MI (m.extract 0 (min m.size 256)) (16 * 2 ^ j) (by have:=aD h1;rw[Bu];omega);rw[Bu,SJ hj.1 (by have:=aD h1;omega) hj.2]at e;rw[SJ hj.1 (by have:=aD h1;omega) hj.2];exact e) ?_;refine rOk (d:=2) (x:=.v (.string (qQ m))) rfl rfl rfl ?_;refine JE (n':=21) rfl ?_;refine cT ?_;exact FG rfl trivial rfl rfl
set_option maxRecDepth 100000
set_option maxHeartbeats 4000000
abbrev fD(n:Int):List AV:=[.v (.int .i64 n)]
abbrev cfL(c:Cf)(cl ct:Bool):List AV:=[.v (.int .i64 c.mode),.v (.int .i64 c.width),.v (.int .i64 c.rob),.v (.int .i64 c.queue),.v (.int .i64 c.stores),.v (.int .i64 c.slots),.v (.int .i64 c.sets),.v (.int .i64 c.ways),.sl 1 (c.lat.map fD) cl,.v (.bool c.tables),.sl 1 (c.tape.map eJ) ct]
structure Cf.ok(c:Cf):Prop where
 lat:c.lat.length≤9223372036854775807
 tape:c.tape.length≤9223372036854775807
 tp:∀ x∈c.tape,x≤4294967295
mutual
theorem xO(σ:Nat→Nat):∀ (a:AV),eM a=true→uK σ a=a
 | .v _,_| .sl _ _ _,_| .dp _ _ _,_=>by simp[uK]
 | .agg cs,h=>by simp only[uK,qE σ cs (by simpa [eM]using h)]
 | .tup cs,h=>by simp only[uK,qE σ cs (by simpa [eM]using h)]
 | .clo f a b,h=>by
  simp only[eM]at h;split at h
  ·rename_i ha;simp only[uK,qE σ a ha,qE σ b h]
  ·cases h
 | .ptr _ _,h| .ptr2 _ _ _,h| .osl _ _ _ _,h| .opt _ _,h| .any,h=>by cases h
theorem qE(σ:Nat→Nat):∀ (cs:List AV),fR cs=true→Bz σ cs=cs
 |[],_=>by simp[Bz]
 |c::cs,h=>by
  simp only[fR]at h;split at h
  ·rename_i hc;simp only[Bz,xO σ c hc,qE σ cs h]
  ·cases h
end
mutual
theorem GN(n:Nat):∀ (a:AV),eM a=true→mW n a=true
 | .v _,_| .sl _ _ _,_| .dp _ _ _,_=>by simp[mW]
 | .agg cs,h=>by simp only[mW,mY n cs (by simpa [eM]using h)]
 | .tup cs,h=>by simp only[mW,mY n cs (by simpa [eM]using h)]
 | .clo f a b,h=>by
  simp only[eM]at h;split at h
  ·rename_i ha;simp only[mW,mY n a ha,mY n b h]
  ·cases h
 | .ptr _ _,h| .ptr2 _ _ _,h| .osl _ _ _ _,h| .opt _ _,h| .any,h=>by cases h
theorem mY(n:Nat):∀ (cs:List AV),fR cs=true→pK n cs=true
 |[],_=>by simp[pK]
 |c::cs,h=>by
  simp only[fR]at h;split at h
  ·rename_i hc;simp only[pK,GN n c hc,mY n cs h]
  ·cases h
end
theorem Xf(σ:Nat→Nat){cs:List AV}(h:fR cs=true):some (Blk.box cs)=some (Ew σ (.box cs)):=by simp only[Ew,qE σ cs h]
theorem Xw(n:Nat){cs:List AV}(h:fR cs=true):tC n (.box cs)=true:=by simp only[tC,mY n cs h]
theorem VO(cells:List AV)(col:Nat)(n lo hi:Int)(hn:KL cells col=some (.v (.int .i64 n)))(hc:col+1≤cells.length)(hcl:fR (yT col [.v (.int .i64 (aV n lo hi))] cells)=true):
  pJ C0.P C0.G 82 [.ptr 0 col,.v (.int .i64 lo),.v (.int .i64 hi)] (heapF [(0,.box cells)]) 1 (λ x h'=>x=.tup []∧h'=heapF [(0,.box (yT col [.v (.int .i64 (aV n lo hi))] cells))]):=by
 refine HCall.intro (C:=C0) (s:=1) c0Ok.at Tryz.func82 rfl rfl (by kernel_rfl) rfl rfl<|cRg<|oR 3 rfl<|rW (.v (.int .i64 n)) rfl (by show okO (KL cells col)=_;rw[hn];rfl)<|oR 1 rfl<|rV (.v (.int .i64 (if lo>n then lo else n))) rfl<|oR 1 rfl<|rV (.v (.int .i64 (if hi<(if lo>n then lo else n)then hi else (if lo>n then lo else n)))) rfl<|oR 1 rfl ?_;have hb:Nat.ble (col+1) cells.length=true:=jS hc;refine Vf (p:=True) (h':=upd _ 0 (some (.box (yT col [.v (.int .i64 (aV n lo hi))] cells)))) rfl rfl (by
  show (match Nat.ble (col+1) cells.length with|true=>Res.fx True .any (upd _ 0 (some (.box (yT col [.v (.int .i64 (if hi<(if lo>n then lo else n)then hi else (if lo>n then lo else n)))] cells))))|false=>.bad)=_;rw[hb];rfl) trivial ?_
 refine rE 11 ?_;exact oX (rs:=[]) rfl (σ:=λ s=>s) ⟨rfl,rfl⟩ rfl (cF (λ s=>s) rfl rfl ⟨⟨rfl,Xf _ hcl,Xw _ hcl⟩,trivial⟩ rfl)
theorem xP{cells cells':List AV}{b col:Nat}{n lo hi:Int}{K:AH}{s2:Nat}(hn:KL cells col=some (.v (.int .i64 n)))(hc:Nat.ble (col+1) cells.length=true)(he:yT col [.v (.int .i64 (aV n lo hi))] cells=cells')(hcl:fR cells=true)(hcl':fR cells'=true)(hb:Nat.blt b s2=true)(hK:K b=some (.box cells)):
  pJ C0.P C0.G 82 [.ptr b col,.v (.int .i64 lo),.v (.int .i64 hi)] K s2 (λ x h'=>x=.tup []∧h'=upd K b (some (.box cells'))):=by
 subst he;have:=(VO cells col n lo hi hn (aR hc) hcl').frame1 b K s2 (aR hb) (Xw 1 hcl) (by rw[hK];exact Xf _ hcl) rfl;rw[←Xf (EJ (λ _=>b) 1 s2) hcl']at this;exact this
theorem TZ(rows:List (List AV))(k:Nat)(n lo hi:Int)(hn:rows[k]?=some [.v (.int .i64 n)]):
  pJ C0.P C0.G 82 [.ptr2 0 k 0,.v (.int .i64 lo),.v (.int .i64 hi)] (heapF [(0,.arr rows 1)]) 1 (λ x h'=>x=.tup []∧h'=heapF [(0,.arr (rows.set k [.v (.int .i64 (aV n lo hi))]) 1)]):=by
 refine HCall.intro (C:=C0) (s:=1) c0Ok.at Tryz.func82 rfl rfl (by kernel_rfl) rfl rfl<|cRg<|oR 3 rfl<|Fb [.v (.int .i64 n)] (x:=.v (.int .i64 n)) rfl rfl rfl ⟨aI _,hn⟩ rfl<|oR 1 rfl<|rV (.v (.int .i64 (if lo>n then lo else n))) rfl<|oR 1 rfl<|rV (.v (.int .i64 (if hi<(if lo>n then lo else n)then hi else (if lo>n then lo else n)))) rfl<|oR 1 rfl<|oE [.v (.int .i64 n)] (h':=upd _ 0 (some (.arr (rows.set k [.v (.int .i64 (aV n lo hi))]) 1))) rfl rfl rfl ⟨aI _,hn⟩ rfl<|rE 11 ?_;exact oX (rs:=[]) rfl (σ:=λ s=>s) ⟨rfl,rfl⟩ rfl (cF (λ s=>s) rfl rfl wH rfl)
theorem Lq{rows rows':List (List AV)}{b k:Nat}{n lo hi:Int}{K:AH}{s2:Nat}(hn:rows[k]?=some [.v (.int .i64 n)])(he:rows.set k [.v (.int .i64 (aV n lo hi))]=rows')(hb:Nat.blt b s2=true)(hK:K b=some (.arr rows 1)):
  pJ C0.P C0.G 82 [.ptr2 b k 0,.v (.int .i64 lo),.v (.int .i64 hi)] K s2 (λ x h'=>x=.tup []∧h'=upd K b (some (.arr rows' 1))):=by
 subst he;exact (TZ rows k n lo hi hn).frame1 b K s2 (aR hb) rfl hK rfl
theorem Bp(a b:Nat):Res.ok (.v (.int .i64 (if (b:Int)<(a:Int)then (b:Int)else (a:Int))))=.ok (.v (.int .i64 ((min a b:Nat):Int))):=by congr 3;split<;>omega
theorem Bq{α:Type}(f:α→List AV)(l:List α)(z:List AV)(n:Nat)(hn:n=min l.length 64):(List.replicate n z).take 0++(l.map f).take (min (l.map f).length n)++(List.replicate n z).drop (0+min (l.map f).length n)=(l.take 64).map f:=by
 subst hn;rw[aO,pF,iN,eF (by rw[cU];omega),eQ, ←fO];congr 1;rcases Nat.le_total l.length 64 with h|h
 ·rw[aN omT,aN omT]
 ·congr 1;omega
theorem bQ{α:Type}(f:α→List AV)(l:List α):Res.ok (.v (.int .i64 ((l.map f).length:Int)))=.ok (.v (.int .i64 ((l.length:Nat):Int))):=by rw[aO]
def CE(c:Cf)(k:Nat):List (List AV):=((((c.lat.take 64).take k).map λ n=>aV n 1 8)++(c.lat.take 64).drop k).map fD
theorem Lr(c:Cf)(k:Nat)(h:(c.lat.take 64).length≤k):CE c k=(bB c).lat.map fD:=by
 unfold CE bB;rw[aN h,eF h,eQ]
theorem Ls{c:Cf}{k:Nat}{x:Int}(hx:(c.lat.take 64)[k]?=some x):(CE c k)[k]?=some (fD x):=by
 have hk:=(Db.1 hx).1;unfold CE;rw[bH,bW (by simp;omega)];simp only[aO,aQ];rw[dE,show k+(k - min k (min 64 c.lat.length))=k by have:k<(c.lat.take 64).length:=hk;rw[aQ]at this;omega,hx];rfl
theorem Lt{c:Cf}{k:Nat}{x:Int}(hx:(c.lat.take 64)[k]?=some x):(CE c k).set k [.v (.int .i64 (aV x 1 8))]=CE c (k+1):=by
 unfold CE;generalize c.lat.take 64=l at hx⊢;have hk:=(Db.1 hx).1;have hl:((l.take k).map λ n=>aV n 1 8).length=k:=by rw[aO,aQ];omega
 have hx':l[k]=x:=by rw[aA hk]at hx;exact Option.some.inj hx
 rw[show ([.v (.int .i64 (aV x 1 8))]:List AV)=fD (aV x 1 8)from rfl, ←List.map_set,jT _ _ omT,hl,iI,eD hk,jQ,bX,hx];simp
theorem Lu(c:Cf)(k:Nat)(h:k≤(c.lat.take 64).length):(CE c k).length=(c.lat.take 64).length:=by
 unfold CE;simp only[aO,aY,bA];rw[List.length_take_of_le h];omega
theorem GO{p:Prop}{x:AV}{h:AH}{b rs:Nat}{r r':List (List AV)}(e:r=r'):Res.fx p x (upd h b (some (.arr r rs)))=.fx p x (upd h b (some (.arr r' rs))):=by rw[e]
theorem GP(c:Cf)(cl ct:Bool)(hok:c.ok):bY C0 39 [.agg (cfL c cl ct)] (.agg (cfL (bB c) false false)):=by
 refine bY.intro c0Ok Tryz.func39 rfl rfl (by kernel_rfl) rfl<|cSR<|rAl 0 rfl rfl<|rAl 1 rfl rfl<|rE 2<|cSR<|oR 1 rfl<|rE 3<|cSR<|oR 2 rfl<|eE (args:=[.ptr 0 0,vI 0,vI 2]) (d:=9) _ rfl rfl rfl (xP (cells:=[vI c.mode,vI c.width,vI c.rob,vI c.queue,vI c.stores,vI c.slots,vI c.sets,vI c.ways,.sl 1 (c.lat.map fD) cl,vB c.tables,.sl 1 (c.tape.map eJ) ct]) (cells':=[vI (aV c.mode 0 2),vI c.width,vI c.rob,vI c.queue,vI c.stores,vI c.slots,vI c.sets,vI c.ways,.sl 1 (c.lat.map fD) cl,vB c.tables,.sl 1 (c.tape.map eJ) ct]) rfl rfl rfl rfl rfl rfl rfl) ?_;rintro _ _ ⟨rfl,rfl⟩;refine rE 6<|cSR<|oR 2 rfl<|eE (args:=[.ptr 0 1,vI 1,vI 2]) (d:=12) _ rfl rfl rfl (xP (cells:=[vI (aV c.mode 0 2),vI c.width,vI c.rob,vI c.queue,vI c.stores,vI c.slots,vI c.sets,vI c.ways,.sl 1 (c.lat.map fD) cl,vB c.tables,.sl 1 (c.tape.map eJ) ct]) (cells':=[vI (aV c.mode 0 2),vI (aV c.width 1 2),vI c.rob,vI c.queue,vI c.stores,vI c.slots,vI c.sets,vI c.ways,.sl 1 (c.lat.map fD) cl,vB c.tables,.sl 1 (c.tape.map eJ) ct]) rfl rfl rfl rfl rfl rfl rfl) ?_;rintro _ _ ⟨rfl,rfl⟩;refine rE 9<|cSR<|oR 2 rfl<|eE (args:=[.ptr 0 2,vI 2,vI 8]) (d:=15) _ rfl rfl rfl (xP (cells:=[vI (aV c.mode 0 2),vI (aV c.width 1 2),vI c.rob,vI c.queue,vI c.stores,vI c.slots,vI c.sets,vI c.ways,.sl 1 (c.lat.map fD) cl,vB c.tables,.sl 1 (c.tape.map eJ) ct]) (cells':=[vI (aV c.mode 0 2),vI (aV c.width 1 2),vI (aV c.rob 2 8),vI c.queue,vI c.stores,vI c.slots,vI c.sets,vI c.ways,.sl 1 (c.lat.map fD) cl,vB c.tables,.sl 1 (c.tape.map eJ) ct]) rfl rfl rfl rfl rfl rfl rfl) ?_;rintro _ _ ⟨rfl,rfl⟩;refine rE 12<|cSR<|oR 2 rfl<|eE (args:=[.ptr 0 3,vI 1,vI 4]) (d:=18) _ rfl rfl rfl (xP (cells:=[vI (aV c.mode 0 2),vI (aV c.width 1 2),vI (aV c.rob 2 8),vI c.queue,vI c.stores,vI c.slots,vI c.sets,vI c.ways,.sl 1 (c.lat.map fD) cl,vB c.tables,.sl 1 (c.tape.map eJ) ct]) (cells':=[vI (aV c.mode 0 2),vI (aV c.width 1 2),vI (aV c.rob 2 8),vI (aV c.queue 1 4),vI c.stores,vI c.slots,vI c.sets,vI c.ways,.sl 1 (c.lat.map fD) cl,vB c.tables,.sl 1 (c.tape.map eJ) ct]) rfl rfl rfl rfl rfl rfl rfl) ?_;rintro _ _ ⟨rfl,rfl⟩;refine rE 15<|cSR<|oR 2 rfl<|eE (args:=[.ptr 0 4,vI 1,vI 4]) (d:=21) _ rfl rfl rfl (xP (cells:=[vI (aV c.mode 0 2),vI (aV c.width 1 2),vI (aV c.rob 2 8),vI (aV c.queue 1 4),vI c.stores,vI c.slots,vI c.sets,vI c.ways,.sl 1 (c.lat.map fD) cl,vB c.tables,.sl 1 (c.tape.map eJ) ct]) (cells':=[vI (aV c.mode 0 2),vI (aV c.width 1 2),vI (aV c.rob 2 8),vI (aV c.queue 1 4),vI (aV c.stores 1 4),vI c.slots,vI c.sets,vI c.ways,.sl 1 (c.lat.map fD) cl,vB c.tables,.sl 1 (c.tape.map eJ) ct]) rfl rfl rfl rfl rfl rfl rfl) ?_;rintro _ _ ⟨rfl,rfl⟩;refine rE 18<|cSR<|oR 2 rfl<|eE (args:=[.ptr 0 5,vI 2,vI 6]) (d:=24) _ rfl rfl rfl (xP (cells:=[vI (aV c.mode 0 2),vI (aV c.width 1 2),vI (aV c.rob 2 8),vI (aV c.queue 1 4),vI (aV c.stores 1 4),vI c.slots,vI c.sets,vI c.ways,.sl 1 (c.lat.map fD) cl,vB c.tables,.sl 1 (c.tape.map eJ) ct]) (cells':=[vI (aV c.mode 0 2),vI (aV c.width 1 2),vI (aV c.rob 2 8),vI (aV c.queue 1 4),vI (aV c.stores 1 4),vI (aV c.slots 2 6),vI c.sets,vI c.ways,.sl 1 (c.lat.map fD) cl,vB c.tables,.sl 1 (c.tape.map eJ) ct]) rfl rfl rfl rfl rfl rfl rfl) ?_;rintro _ _ ⟨rfl,rfl⟩;refine rE 21<|cSR<|oR 2 rfl<|eE (args:=[.ptr 0 6,vI 1,vI 4]) (d:=27) _ rfl rfl rfl (xP (cells:=[vI (aV c.mode 0 2),vI (aV c.width 1 2),vI (aV c.rob 2 8),vI (aV c.queue 1 4),vI (aV c.stores 1 4),vI (aV c.slots 2 6),vI c.sets,vI c.ways,.sl 1 (c.lat.map fD) cl,vB c.tables,.sl 1 (c.tape.map eJ) ct]) (cells':=[vI (aV c.mode 0 2),vI (aV c.width 1 2),vI (aV c.rob 2 8),vI (aV c.queue 1 4),vI (aV c.stores 1 4),vI (aV c.slots 2 6),vI (aV c.sets 1 4),vI c.ways,.sl 1 (c.lat.map fD) cl,vB c.tables,.sl 1 (c.tape.map eJ) ct]) rfl rfl rfl rfl rfl rfl rfl) ?_;rintro _ _ ⟨rfl,rfl⟩;refine rE 24<|aE<|cSR<|oR 2 rfl<|rV (vB ((aV c.sets 1 4)==3)) rfl<|rE 27 ?_;refine aU rfl (λ h1=>?_) (λ h1=>?_)
 ·refine cRg<|oR 1 rfl<|rSt rfl<|rE 29<|cSR<|oR 2 rfl<|eE (args:=[.ptr 0 7,vI 1,vI 2]) (d:=34) _ rfl rfl rfl (xP (cells:=[vI (aV c.mode 0 2),vI (aV c.width 1 2),vI (aV c.rob 2 8),vI (aV c.queue 1 4),vI (aV c.stores 1 4),vI (aV c.slots 2 6),vI 2,vI c.ways,.sl 1 (c.lat.map fD) cl,vB c.tables,.sl 1 (c.tape.map eJ) ct]) (cells':=[vI (aV c.mode 0 2),vI (aV c.width 1 2),vI (aV c.rob 2 8),vI (aV c.queue 1 4),vI (aV c.stores 1 4),vI (aV c.slots 2 6),vI 2,vI (aV c.ways 1 2),.sl 1 (c.lat.map fD) cl,vB c.tables,.sl 1 (c.tape.map eJ) ct]) rfl rfl rfl rfl rfl rfl rfl) ?_;rintro _ _ ⟨rfl,rfl⟩;refine rE 32<|cSR<|oR 2 rfl<|rW (vN c.lat.length) rfl (bQ fD c.lat)<|rW (vN (min c.lat.length 64)) rfl (Bp c.lat.length 64)<|rFx (x:=.osl 36 0 (min c.lat.length 64) false) (h':=upd _ 36 (some (.arr (List.replicate (min c.lat.length 64) [vI 0]) 1))) rfl rfl (rfl) (⟨aI _,kH _,by show (((min c.lat.length 64):Nat):Int)≤1000000;have:=(aL (eT c.lat.length 64) (aC 64));omega⟩)<|oR 1 rfl<|rE 38<|cSR<|oR 3 rfl<|rFx (x:=vI ((min (c.lat.map fD).length (min c.lat.length 64):Nat):Int)) (h':=upd _ 36 (some (.arr (CE c 0) 1))) rfl rfl (GO (Bq fD c.lat [.v (.int .i64 0)] _ rfl)) (⟨by simp,trivial⟩)<|rE 42<|aE<|aE ?_;refine cRg<|oR 1 rfl<|rV (vN (min c.lat.length 64)) rfl<|oR 1 rfl<|rE 45<|bI<|kZ (κ:=Nat) (λ k=>⟨cI [(1,.ptr 0 0),(2,.ptr 1 0),(3,.clo 82 [] []),(4,.osl 36 0 (min c.lat.length 64) false),(45,vN (min c.lat.length 64)),(46,vN k)],heapF [(0,.box [vI (aV c.mode 0 2),vI (aV c.width 1 2),vI (aV c.rob 2 8),vI (aV c.queue 1 4),vI (aV c.stores 1 4),vI (aV c.slots 2 6),vI 2,vI (aV c.ways 1 2),.sl 1 (c.lat.map fD) cl,vB c.tables,.sl 1 (c.tape.map eJ) ct]),(1,.box [vI 0,vI 0,vI 0,vI 0,vI 0,vI 0,vI 0,vI 0,.sl 0 ([]) true,vB false,.sl 0 ([]) true]),(36,.arr (CE c k) 1)],45⟩) (λ k=>k≤min c.lat.length 64) (λ k=>min c.lat.length 64 - k) 0 (λ s=>s) (Weak.of_lists (λ s=>s) wT wH rfl) (aF _) ?_;intro k hk;have hkB:k≤1000000:=by omega
  refine cSR<|rW (vB (decide (k<(min c.lat.length 64)))) rfl (okB (ltN _ _))<|rE 46<|aE ?_;refine aU rfl (λ h2=>?_) (λ h2=>?_)
  ·refine aZ<|aE<|bI<|cSR<|oR 2 rfl<|rE 48<|cRg<|oR 3 rfl ?_;have hkl:k<(c.lat.take 64).length:=by have:=of_decide_eq_true h2;rw[aQ];omega
   obtain⟨x,hx⟩:∃ x,(c.lat.take 64)[k]?=some x:=⟨_,aA hkl⟩;have hxk:(CE c k)[0+k]?=some [.v (.int .i64 x)]:=by rw[bU];exact Ls hx
   refine nW (.ptr2 36 (0+k) 0) rfl rfl (⟨aI _,by show (k:Int)<((min c.lat.length 64:Nat):Int);have:=of_decide_eq_true h2;omega⟩)<|eE (args:=[.ptr2 36 (0+k) 0,vI 1,vI 8]) (d:=53) _ rfl rfl rfl (Lq (rows:=CE c k) (rows':=CE c (k+1)) (k:=0+k) (n:=x) hxk ((bU k).symm ▸ Lt hx) rfl rfl) ?_;rintro _ _ ⟨rfl,rfl⟩;refine rE 53<|cRg ?_;have b1:k+1≤1000001:=aH hkB (aC 1);refine rW (vN (k+1)) rfl (okI (bS b1 rfl))<|oR 1 rfl<|rE 55 ?_;refine⟨k+1,λ s=>s,Weak.of_lists _ wT wH rfl,by have:=of_decide_eq_true h2;omega,by have:=of_decide_eq_true h2;show min c.lat.length 64 - (k+1)<min c.lat.length 64 - k;omega⟩
  ·refine eA<|cSR<|oR 2 rfl<|rW (vN c.tape.length) rfl (bQ eJ c.tape)<|rW (vN (min c.tape.length 64)) rfl (Bp c.tape.length 64)<|rFx (x:=.osl 50 0 (min c.tape.length 64) false) (h':=upd _ 50 (some (.arr (List.replicate (min c.tape.length 64) [.v (.int .u32 0)]) 1))) rfl rfl (rfl) (⟨aI _,kH _,by show (((min c.tape.length 64):Nat):Int)≤1000000;have:=(aL (eT c.tape.length 64) (aC 64));omega⟩)<|oR 1 rfl<|rE 52<|cSR<|oR 3 rfl<|rFx (x:=vI ((min (c.tape.map eJ).length (min c.tape.length 64):Nat):Int)) (h':=upd _ 50 (some (.arr ((c.tape.take 64).map eJ) 1))) rfl rfl (GO (Bq eJ c.tape [.v (.int .u32 0)] _ rfl)) (⟨by simp,trivial⟩)<|rE 56<|cSR ?_;refine oR 3 rfl<|rSt rfl<|oR 1 rfl<|rSt rfl<|rE 62<|cSR<|oR 1 rfl<|rSt rfl<|rE 64<|cT ?_;have hk2:(c.lat.take 64).length≤k:=by rw[aQ];have:=aD h2;omega
   have hll:=Lu c k (by rw[aQ];omega);have e1:List.take (min c.lat.length 64) (List.drop 0 (CE c k))=(bB c).lat.map fD:=by rw[cQ,aN (by rw[hll,aQ];omega),Lr c k hk2]
   have e2:List.take (min c.tape.length 64) (List.drop 0 ((c.tape.take 64).map eJ))=(bB c).tape.map eJ:=by rw[cQ,aN (by rw[aO,aQ];omega)];rfl
   have e3:(bB c).sets=2:=if_pos (by simpa using h1);refine eW rfl (r4 (r4 ⟨by show 0+min c.lat.length 64≤(CE c k).length;rw[hll,aQ];omega,trivial,by show 0+min c.tape.length 64≤((c.tape.take 64).map eJ).length;rw[aO,aQ];omega,trivial⟩)) rfl ?_;show AV.agg [vI (aV c.mode 0 2),vI (aV c.width 1 2),vI (aV c.rob 2 8),vI (aV c.queue 1 4),vI (aV c.stores 1 4),vI (aV c.slots 2 6),vI 2,vI (aV c.ways 1 2),.sl 1 (List.take (min c.lat.length 64) (List.drop 0 (CE c k))) false,vB c.tables,.sl 1 (List.take (min c.tape.length 64) (List.drop 0 ((c.tape.take 64).map eJ))) false]=AV.agg (cfL (bB c) false false);rw[e1,e2];show _=AV.agg [vI (bB c).mode,vI (bB c).width,vI (bB c).rob,vI (bB c).queue,vI (bB c).stores,vI (bB c).slots,vI (bB c).sets,vI (bB c).ways,.sl 1 ((bB c).lat.map fD) false,vB (bB c).tables,.sl 1 ((bB c).tape.map eJ) false];rw[e3];rfl
 ·refine aZ<|cSR<|oR 2 rfl<|eE (args:=[.ptr 0 7,vI 1,vI 2]) (d:=34) _ rfl rfl rfl (xP (cells:=[vI (aV c.mode 0 2),vI (aV c.width 1 2),vI (aV c.rob 2 8),vI (aV c.queue 1 4),vI (aV c.stores 1 4),vI (aV c.slots 2 6),vI (aV c.sets 1 4),vI c.ways,.sl 1 (c.lat.map fD) cl,vB c.tables,.sl 1 (c.tape.map eJ) ct]) (cells':=[vI (aV c.mode 0 2),vI (aV c.width 1 2),vI (aV c.rob 2 8),vI (aV c.queue 1 4),vI (aV c.stores 1 4),vI (aV c.slots 2 6),vI (aV c.sets 1 4),vI (aV c.ways 1 2),.sl 1 (c.lat.map fD) cl,vB c.tables,.sl 1 (c.tape.map eJ) ct]) rfl rfl rfl rfl rfl rfl rfl) ?_;rintro _ _ ⟨rfl,rfl⟩;refine rE 30<|cSR<|oR 2 rfl<|rW (vN c.lat.length) rfl (bQ fD c.lat)<|rW (vN (min c.lat.length 64)) rfl (Bp c.lat.length 64)<|rFx (x:=.osl 34 0 (min c.lat.length 64) false) (h':=upd _ 34 (some (.arr (List.replicate (min c.lat.length 64) [vI 0]) 1))) rfl rfl (rfl) (⟨aI _,kH _,by show (((min c.lat.length 64):Nat):Int)≤1000000;have:=(aL (eT c.lat.length 64) (aC 64));omega⟩)<|oR 1 rfl<|rE 36<|cSR<|oR 3 rfl<|rFx (x:=vI ((min (c.lat.map fD).length (min c.lat.length 64):Nat):Int)) (h':=upd _ 34 (some (.arr (CE c 0) 1))) rfl rfl (GO (Bq fD c.lat [.v (.int .i64 0)] _ rfl)) (⟨by simp,trivial⟩)<|rE 40<|aE<|aE ?_;refine cRg<|oR 1 rfl<|rV (vN (min c.lat.length 64)) rfl<|oR 1 rfl<|rE 43<|bI<|kZ (κ:=Nat) (λ k=>⟨cI [(1,.ptr 0 0),(2,.ptr 1 0),(3,.clo 82 [] []),(4,.osl 34 0 (min c.lat.length 64) false),(45,vN (min c.lat.length 64)),(46,vN k)],heapF [(0,.box [vI (aV c.mode 0 2),vI (aV c.width 1 2),vI (aV c.rob 2 8),vI (aV c.queue 1 4),vI (aV c.stores 1 4),vI (aV c.slots 2 6),vI (aV c.sets 1 4),vI (aV c.ways 1 2),.sl 1 (c.lat.map fD) cl,vB c.tables,.sl 1 (c.tape.map eJ) ct]),(1,.box [vI 0,vI 0,vI 0,vI 0,vI 0,vI 0,vI 0,vI 0,.sl 0 ([]) true,vB false,.sl 0 ([]) true]),(34,.arr (CE c k) 1)],43⟩) (λ k=>k≤min c.lat.length 64) (λ k=>min c.lat.length 64 - k) 0 (λ s=>s) (Weak.of_lists (λ s=>s) wT wH rfl) (aF _) ?_;intro k hk;have hkB:k≤1000000:=by omega
  refine cSR<|rW (vB (decide (k<(min c.lat.length 64)))) rfl (okB (ltN _ _))<|rE 44<|aE ?_;refine aU rfl (λ h3=>?_) (λ h3=>?_)
  ·refine aZ<|aE<|bI<|cSR<|oR 2 rfl<|rE 46<|cRg<|oR 3 rfl ?_;have hkl:k<(c.lat.take 64).length:=by have:=of_decide_eq_true h3;rw[aQ];omega
   obtain⟨x,hx⟩:∃ x,(c.lat.take 64)[k]?=some x:=⟨_,aA hkl⟩;have hxk:(CE c k)[0+k]?=some [.v (.int .i64 x)]:=by rw[bU];exact Ls hx
   refine nW (.ptr2 34 (0+k) 0) rfl rfl (⟨aI _,by show (k:Int)<((min c.lat.length 64:Nat):Int);have:=of_decide_eq_true h3;omega⟩)<|eE (args:=[.ptr2 34 (0+k) 0,vI 1,vI 8]) (d:=53) _ rfl rfl rfl (Lq (rows:=CE c k) (rows':=CE c (k+1)) (k:=0+k) (n:=x) hxk ((bU k).symm ▸ Lt hx) rfl rfl) ?_;rintro _ _ ⟨rfl,rfl⟩;refine rE 51<|cRg ?_;have b2:k+1≤1000001:=aH hkB (aC 1);refine rW (vN (k+1)) rfl (okI (bS b2 rfl))<|oR 1 rfl<|rE 53 ?_;refine⟨k+1,λ s=>s,Weak.of_lists _ wT wH rfl,by have:=of_decide_eq_true h3;omega,by have:=of_decide_eq_true h3;show min c.lat.length 64 - (k+1)<min c.lat.length 64 - k;omega⟩
  ·refine eA<|cSR<|oR 2 rfl<|rW (vN c.tape.length) rfl (bQ eJ c.tape)<|rW (vN (min c.tape.length 64)) rfl (Bp c.tape.length 64)<|rFx (x:=.osl 48 0 (min c.tape.length 64) false) (h':=upd _ 48 (some (.arr (List.replicate (min c.tape.length 64) [.v (.int .u32 0)]) 1))) rfl rfl (rfl) (⟨aI _,kH _,by show (((min c.tape.length 64):Nat):Int)≤1000000;have:=(aL (eT c.tape.length 64) (aC 64));omega⟩)<|oR 1 rfl<|rE 50<|cSR<|oR 3 rfl<|rFx (x:=vI ((min (c.tape.map eJ).length (min c.tape.length 64):Nat):Int)) (h':=upd _ 48 (some (.arr ((c.tape.take 64).map eJ) 1))) rfl rfl (GO (Bq eJ c.tape [.v (.int .u32 0)] _ rfl)) (⟨by simp,trivial⟩)<|rE 54<|cSR ?_;refine oR 3 rfl<|rSt rfl<|oR 1 rfl<|rSt rfl<|rE 60<|cSR<|oR 1 rfl<|rSt rfl<|rE 62<|cT ?_;have hk2:(c.lat.take 64).length≤k:=by rw[aQ];have:=aD h3;omega
   have hll:=Lu c k (by rw[aQ];omega);have e1:List.take (min c.lat.length 64) (List.drop 0 (CE c k))=(bB c).lat.map fD:=by rw[cQ,aN (by rw[hll,aQ];omega),Lr c k hk2]
   have e2:List.take (min c.tape.length 64) (List.drop 0 ((c.tape.take 64).map eJ))=(bB c).tape.map eJ:=by rw[cQ,aN (by rw[aO,aQ];omega)];rfl
   have e3:(bB c).sets=aV c.sets 1 4:=if_neg (by simpa using h1);refine eW rfl (r4 (r4 ⟨by show 0+min c.lat.length 64≤(CE c k).length;rw[hll,aQ];omega,trivial,by show 0+min c.tape.length 64≤((c.tape.take 64).map eJ).length;rw[aO,aQ];omega,trivial⟩)) rfl ?_;show AV.agg [vI (aV c.mode 0 2),vI (aV c.width 1 2),vI (aV c.rob 2 8),vI (aV c.queue 1 4),vI (aV c.stores 1 4),vI (aV c.slots 2 6),vI (aV c.sets 1 4),vI (aV c.ways 1 2),.sl 1 (List.take (min c.lat.length 64) (List.drop 0 (CE c k))) false,vB c.tables,.sl 1 (List.take (min c.tape.length 64) (List.drop 0 ((c.tape.take 64).map eJ))) false]=AV.agg (cfL (bB c) false false);rw[e1,e2];show _=AV.agg [vI (bB c).mode,vI (bB c).width,vI (bB c).rob,vI (bB c).queue,vI (bB c).stores,vI (bB c).slots,vI (bB c).sets,vI (bB c).ways,.sl 1 ((bB c).lat.map fD) false,vB (bB c).tables,.sl 1 ((bB c).tape.map eJ) false];rw[e3];rfl
abbrev wyL(x:Wy):List AV:=[.v (.int .u32 (x.line:Int)),.v (.bool x.dirty),.v (.string x.data)]
abbrev XJ(s:List Wy):AV:=.sl 3 (s.map wyL) false
abbrev cB(s:List Wy):List AV:=[XJ s]
abbrev caL(c:Ca)(k:Bool):List AV:=[.v (.int .i64 c.ways),.sl 1 (c.sets.map cB) k]
abbrev rqL(x:Req):List AV:=[.v (.int .i64 x.kind),.v (.int .u32 (x.line:Int)),.v (.int .i64 x.left),.v (.string x.data)]
def XK(o:Option Nat):AV:=.tup [vN (o.getD 0),vB o.isSome]
structure Wy.ok(x:Wy):Prop where
 line:x.line≤4294967295
structure Ca.ok(c:Ca):Prop where
 sets:c.sets.length≤9223372036854775807
 set:∀ s∈c.sets,s.length≤9223372036854775807∧∀ x∈s,x.ok
theorem dF{a:Nat}(h:a≤4294967295):lineOf a≤4294967295:=by unfold lineOf;omega
theorem XL{a b:Nat}(h:a=b):AV.v (.int .u32 (a:Int))=.v (.int .u32 (b:Int)):=by rw[h]
theorem Wz{a b:Nat}(h:a=b):AV.v (.int .i64 (a:Int))=.v (.int .i64 (b:Int)):=by rw[h]
theorem gJ{α:Type}{f:α→List AV}{l:List α}{k:Nat}{x:α}(h:l[k]?=some x):(l.map f)[k]?=some (f x):=by rw[bH,h];rfl
theorem qD(a:Nat)(ha:a≤4294967295):bY C0 92 [vU a] (vU (lineOf a)):=by
 refine bY.intro c0Ok Tryz.func92 rfl rfl (by kernel_rfl) rfl<|cSR<|oR 1 rfl<|rE 1<|cSR<|oR 2 rfl ?_;have b1:a % 16≤15:=aT (bG _ (by decide));refine nW (vU (a % 16)) rfl rfl (by decide) ?_;have b2:(a+4294967296 - (a % 16)) % 4294967296≤4294967295:=aT (bG _ (by decide));refine rW (vU ((a+4294967296 - (a % 16)) % 4294967296)) rfl (okI (Se b1 rfl))<|oR 1 rfl<|rE 6<|cT ?_;exact fT rfl (XL (by unfold lineOf;omega))
theorem SG(c:Ca)(line:Nat)(ck:Bool)(h0:0<c.sets.length)(hl:c.sets.length≤1000000)(hline:line≤4294967295):bY C0 146 [.agg (caL c ck),vU line] (vN (xQ c line)):=by
 refine bY.intro c0Ok Tryz.func146 rfl rfl (by kernel_rfl) rfl<|cSR<|rAl 0 rfl rfl<|oR 1 rfl<|rE 2<|cSR<|oR 1 rfl ?_;have b1:line / 16≤268435455:=kC hline;refine nW (vU (line / 16)) rfl (Jn (Hr b1 rfl)) (by decide)<|oR 2 rfl<|rW (vN c.sets.length) rfl (bQ cB c.sets)<|rW (vU c.sets.length) rfl (okI (Hr hl rfl)) ?_;have b2:(line / 16) % c.sets.length≤268435455:=aL (nG _ _) b1;refine nW (vU ((line / 16) % c.sets.length)) rfl rfl omT<|rW (vN ((line / 16) % c.sets.length)) rfl (okI (bS b2 rfl))<|oR 1 rfl<|rE 11<|cT ?_;exact fT rfl rfl
theorem My{s:List Wy}{line k:Nat}{x:Wy}(hx:s[k]?=some x)(hn: ¬ x.line=line)(h:jN s line=(jN (s.drop k) line).map (· +k)):jN s line=(jN (s.drop (k+1)) line).map (· +(k+1)):=by
 obtain⟨hk,hx'⟩:=Db.1 hx;rw[h,eD hk,hx'];simp only[jN,if_neg hn,Option.map_map];congr 1;funext i;show i+1+k=i+(k+1);omega
theorem Mz{s:List Wy}{line k:Nat}{x:Wy}(hx:s[k]?=some x)(hn:x.line=line)(h:jN s line=(jN (s.drop k) line).map (· +k)):jN s line=some k:=by
 obtain⟨hk,hx'⟩:=Db.1 hx;rw[h,eD hk,hx'];simp[jN,hn]
theorem OV{s:List Wy}{line k:Nat}(hk:s.length≤k)(h:jN s line=(jN (s.drop k) line).map (· +k)):jN s line=none:=by
 rw[h,eF hk];rfl
theorem SH(s:List Wy)(line:Nat)(ck:Bool)(hs:s.length≤1000000)(ho:∀ x∈s,x.ok)(hline:line≤4294967295):bY C0 147 [.sl 3 (s.map wyL) ck,vU line] (XK (jN s line)):=by
 refine bY.intro c0Ok Tryz.func147 rfl rfl (by kernel_rfl) rfl<|cSR<|oR 2 rfl<|rE 2<|aE<|cSR<|oR 1 rfl<|rW (vN s.length) rfl (bQ wyL s)<|oR 1 rfl<|rE 5<|bI<|kZ (κ:=Nat) (λ k=>⟨cI [(1,vU line),(8,.sl 3 (s.map wyL) ck),(9,vN s.length),(10,vN k)],heapF [],5⟩) (λ k=>k≤s.length∧jN s line=(jN (s.drop k) line).map (· +k)) (λ k=>s.length - k) 0 (λ s=>s) (Weak.of_lists (λ s=>s) wT trivial rfl) (⟨aF _,by simp⟩) ?_;intro k hk;have hkB:k≤1000000:=by have:=hk.1;omega
 refine cSR<|rW (vB (decide (k<s.length))) rfl (okB (ltN _ _))<|rE 6<|aE ?_;refine aU rfl (λ h1=>?_) (λ h1=>?_)
 ·refine aZ<|aE<|bI<|cSR<|oR 1 rfl ?_;obtain⟨x,hx⟩:∃ x,s[k]?=some x:=⟨_,aA (of_decide_eq_true h1)⟩;have hxo:=ho x (aB hx);refine rIx (wyL x) (.dp 3 0 (wyL x)) rfl rfl (gJ hx) rfl<|oR 1 rfl<|rAl 9 rfl rfl<|oR 1 rfl<|rSt rfl<|rE 12<|cSR<|oR 3 rfl<|rW (vB (x.line==line)) rfl (okB (eqN _ _))<|rE 16 ?_;refine aU rfl (λ h2=>?_) (λ h2=>?_)
  ·refine cSR<|oR 3 rfl<|rE 19<|cT ?_;exact fT rfl (by rw[Mz hx (by simpa using h2) hk.2];rfl)
  ·refine aZ<|cRg ?_;have b1:k+1≤1000001:=aH hkB (aC 1);refine rW (vN (k+1)) rfl (okI (bS b1 rfl))<|oR 1 rfl<|rE 18 ?_;refine⟨k+1,λ s=>s,Weak.of_lists _ wT trivial rfl,⟨of_decide_eq_true h1,My hx (by simpa using h2) hk.2⟩,by have:=of_decide_eq_true h1;show s.length - (k+1)<s.length - k;omega⟩
 ·refine eA<|cSR<|oR 2 rfl<|rE 8<|cT ?_;exact fT rfl (by rw[OV (by have:=aD h1;omega) hk.2];rfl)
def EF(c:Ca)(k:Nat)(s:List Wy)(i:Nat)(x:Wy):Prop:=lineOf x.line=x.line∧xQ c x.line=k∧(x.data.size=0∨x.data.size=16)∧jN (s.take i) x.line=none
theorem mA(c:Ca)(k:Nat)(s:List Wy):vR c k s=true↔(s.length:Int)≤c.ways∧∀ i x,s[i]?=some x→EF c k s i x:=by
 unfold vR EF;simp only[aK,bC,qI,mT];refine and_congr_right λ _=>⟨λ h i x hx=>?_,λ h i hi=>?_⟩
 ·have:=h i (Db.1 hx).1;rw[hx]at this;simp only[aK,dG,bC,iD]at this;exact⟨this.1.1.1,this.1.1.2,this.1.2,this.2⟩
 ·rw[aA hi];have:=h i _ (aA hi);simp only[aK,dG,bC,iD];exact⟨⟨⟨this.1,this.2.1⟩,this.2.2.1⟩,this.2.2.2⟩
theorem mF(c:Ca):fY c=true↔((c.sets.length=1∨c.sets.length=2∨c.sets.length=4)∧(c.ways=1∨c.ways=2))∧∀ k s,c.sets[k]?=some s→vR c k s=true:=by
 unfold fY;simp only[aK,dG,bC,qI,mT];refine and_congr ?_ ⟨λ h k s hs=>?_,λ h k hk=>?_⟩
 ·rw[or_assoc]
 ·have:=h k (Db.1 hs).1
  rwa [hs]at this
 ·rw[aA hk];exact h k _ (aA hk)
theorem wR{c:Ca}(h: ¬ fY c=true):fY c=false:=by simpa using h
theorem Ae{n:Nat}{w:Int}(h:cA (cA (cA (n != 1) (n != 2) false) (n != 4) false) true (cA (w != 1) (w != 2) false)=false):(n=1∨n=2∨n=4)∧(w=1∨w=2):=by
 simp only[c2]at h;constructor
 ·by_cases h1:n=1<;>by_cases h2:n=2<;>by_cases h4:n=4<;>simp_all
 ·by_cases h1:w=1
  ·exact .inl h1
  ·by_cases h2:w=2
   ·exact .inr h2
   ·simp[h1,h2]at h;omega
theorem ID{n:Nat}{w:Int}(h:cA (cA (cA (n != 1) (n != 2) false) (n != 4) false) true (cA (w != 1) (w != 2) false)=true): ¬ ((n=1∨n=2∨n=4)∧(w=1∨w=2)):=by
 rintro ⟨rfl|rfl|rfl,rfl|rfl⟩<;>simp[cA]at h
theorem TY{c:Ca}{k j:Nat}{s:List Wy}{x:Wy}(h1:cA ((lineOf x.line) != x.line) true ((xQ c x.line) != k)=false)(h2:cA ((x.data.size:Int) != 0) ((x.data.size:Int) != 16) false=false)(h3:(jN (s.take j) x.line).isSome=false):EF c k s j x:=by
 simp only[c2]at h1 h2;refine⟨?_,?_,?_,by simpa using h3⟩
 ·by_cases h:lineOf x.line=x.line<;>simp_all
 ·by_cases h:xQ c x.line=k<;>simp_all
 ·by_cases h:x.data.size=0
  ·exact .inl h
  ·right;simp_all;omega
theorem Rq{c:Ca}{k j:Nat}{s:List Wy}{x:Wy}(h:cA ((lineOf x.line) != x.line) true ((xQ c x.line) != k)=true): ¬ EF c k s j x:=λ q=>by
 rw[q.1,q.2.1]at h;simp[cA]at h
theorem Rr{c:Ca}{k j:Nat}{s:List Wy}{x:Wy}(h:cA ((x.data.size:Int) != 0) ((x.data.size:Int) != 16) false=true): ¬ EF c k s j x:=λ q=>by
 rcases q.2.2.1 with e|e<;>rw[e]at h<;>simp[cA]at h
theorem Rs{c:Ca}{k j:Nat}{s:List Wy}{x:Wy}(h:(jN (s.take j) x.line).isSome=true): ¬ EF c k s j x:=λ q=>by
 rw[q.2.2.2]at h;cases h
theorem MA{c:Ca}{k:Nat}{s:List Wy}(hs:c.sets[k]?=some s)(h:vR c k s=true)(hk:∀ i s,i<k→c.sets[i]?=some s→vR c i s=true):∀ i s,i<k+1→c.sets[i]?=some s→vR c i s=true:=λ i s' hi hs'=>by
 by_cases e:i=k
 ·subst e;rw[hs]at hs';injection hs' with e;exact e ▸ h
 ·exact hk i s' omT hs'
theorem Rt{c:Ca}{k j:Nat}{s:List Wy}{x:Wy}(hx:s[j]?=some x)(h:EF c k s j x)(hj:∀ i x,i<j→s[i]?=some x→EF c k s i x):∀ i x,i<j+1→s[i]?=some x→EF c k s i x:=λ i x' hi hx'=>by
 by_cases e:i=j
 ·subst e;rw[hx]at hx';injection hx' with e;exact e ▸ h
 ·exact hj i x' omT hx'
theorem Bo(c:Ca)(ck:Bool)(hok:c.ok):bY C0 85 [.agg (caL c ck)] (vB (fY c)):=by
 refine bY.intro c0Ok Tryz.func85 rfl rfl (by kernel_rfl) rfl<|cSR<|rAl 0 rfl rfl<|oR 1 rfl<|rE 2<|cSR<|oR 2 rfl<|rW (vN c.sets.length) rfl (bQ cB c.sets)<|oR 1 rfl<|rE 6<|aE<|cSR<|oR 1 rfl ?_;refine rW (vB (c.sets.length != 1)) rfl (okB (neN _ _))<|oR 1 rfl<|gN rfl<|gBS (x:=vB (c.sets.length != 2)) rfl id (okB (neN _ _))<|cH rfl rfl rfl (λ h=>h)<|oR 1 rfl<|gN rfl<|gBS (x:=vB (c.sets.length != 4)) rfl id (okB (neN _ _))<|cH rfl rfl rfl (λ h=>h)<|oR 1 rfl<|gN rfl<|gS rfl id<|gBS (x:=vB (c.ways != 1)) rfl id rfl<|gS rfl id<|gN rfl<|gS rfl id ?_;refine gBS (x:=vB (c.ways != 2)) rfl id rfl<|vK (x:=vB (cA (c.ways != 1) (c.ways != 2) false)) (g:= !(cA (cA (c.sets.length != 1) (c.sets.length != 2) false) (c.sets.length != 4) false)) rfl rfl rfl rfl (λ h=>h) rfl rfl (λ hg hc=>by first|(rw[hg,hc];rfl)|simp_all)<|cH rfl rfl rfl (by simp)<|rE 26 ?_;refine aU rfl (λ h1=>?_) (λ h1=>?_)
 ·refine cSR<|oR 1 rfl<|rE 27<|cT ?_;exact fB (x:=false) rfl (wR (c:=c) (λ q=>ID h1 ((mF c).1 q).1)).symm
 ·refine aZ<|aE<|cSR<|oR 2 rfl<|rW (vN c.sets.length) rfl (bQ cB c.sets)<|oR 1 rfl<|rE 30<|bI<|kZ (κ:=Nat) (λ k=>⟨cI [(1,.ptr 0 0),(3,vN c.sets.length),(34,.sl 1 (c.sets.map cB) ck),(35,vN c.sets.length),(36,vN k)],heapF [(0,.box [vI c.ways,.sl 1 (c.sets.map cB) ck])],30⟩) (λ k=>k≤c.sets.length∧∀ i s,i<k→c.sets[i]?=some s→vR c i s=true) (λ k=>c.sets.length - k) 0 (λ s=>s) (Weak.of_lists (λ s=>s) wT wH rfl) (⟨aF _,λ i s h=>absurd h (dX i)⟩) ?_;intro k hk;have hkB:k≤1000000:=by have:=hk.1;have:=(Ae h1).1;omega
  refine cSR<|rW (vB (decide (k<c.sets.length))) rfl (okB (ltN _ _))<|rE 31<|aE ?_;refine aU rfl (λ h2=>?_) (λ h2=>?_)
  ·refine aZ<|aE<|bI<|cSR<|oR 1 rfl ?_;obtain⟨s,hs⟩:∃ s,c.sets[k]?=some s:=⟨_,aA (of_decide_eq_true h2)⟩;have hso:=hok.set s (aB hs);refine rIx (cB s) (.dp 1 0 (cB s)) rfl rfl (gJ hs) rfl<|oR 3 rfl<|rE 36<|aE<|cSR<|oR 1 rfl<|rW (vN s.length) rfl (bQ wyL s)<|oR 2 rfl<|rV (vB (decide (((s.length:Nat):Int)>c.ways))) rfl<|rE 41 ?_;refine aU rfl (λ h3=>?_) (λ h3=>?_)
   ·refine cSR<|oR 1 rfl<|rE 42<|cT ?_;exact fB (x:=false) rfl (wR (c:=c) (λ q=>absurd ((mA c k s).1 (((mF c).1 q).2 k s hs)).1 (by have:=of_decide_eq_true h3;omega))).symm
   ·refine aZ<|cSR<|oR 1 rfl<|rW (vN s.length) rfl (bQ wyL s)<|oR 1 rfl<|rE 44<|bI<|kZ (κ:=Nat) (λ j=>⟨cI [(1,.ptr 0 0),(3,vN c.sets.length),(34,.sl 1 (c.sets.map cB) ck),(35,vN c.sets.length),(36,vN k),(4,vN k),(5,.sl 3 (s.map wyL) false),(46,.sl 3 (s.map wyL) false),(47,vN s.length),(48,vN j)],heapF [(0,.box [vI c.ways,.sl 1 (c.sets.map cB) ck])],44⟩) (λ j=>j≤s.length∧∀ i x,i<j→s[i]?=some x→EF c k s i x) (λ j=>s.length - j) 0 (λ s=>s) (Weak.of_lists (λ s=>s) wT wH rfl) (⟨aF _,λ i s h=>absurd h (dX i)⟩) ?_;intro j hj;have hjB:j≤1000000:=by have:=hj.1;have:=(Ae h1).2;have:=aD h3;omega
    refine cSR<|rW (vB (decide (j<s.length))) rfl (okB (ltN _ _))<|rE 45<|aE ?_;refine aU rfl (λ h4=>?_) (λ h4=>?_)
    ·refine aZ<|aE<|bI<|cSR<|oR 1 rfl ?_;obtain⟨x,hx⟩:∃ x,s[j]?=some x:=⟨_,aA (of_decide_eq_true h4)⟩;have hxo:=hso.2 x (aB hx);refine rIx (wyL x) (.dp 3 0 (wyL x)) rfl rfl (gJ hx) rfl<|oR 1 rfl<|rAl 48 rfl rfl<|oR 1 rfl<|rSt rfl<|rE 51<|aE<|cSR<|oR 2 rfl<|rCi rfl (qD x.line hxo.line)<|oR 2 rfl<|rW (vB ((lineOf x.line) != x.line)) rfl (okB (neN _ _))<|oR 1 rfl<|gN rfl<|gN rfl ?_;refine gS rfl id<|jI (args:=[.agg [vI c.ways,.sl 1 (c.sets.map cB) ck],vU x.line]) (x:=vN (xQ c x.line)) (g:= !((lineOf x.line) != x.line)) rfl rfl rfl rfl (λ h=>by simp_all) rfl rfl rfl (.inl rfl) rfl (λ hg=>SG c x.line ck (by have:=of_decide_eq_true h2;omega) (by have:=(Ae h1).1;omega) hxo.line)<|gN rfl<|gBS (x:=vB ((xQ c x.line) != k)) rfl (λ h=>by simp_all) (okB (neN _ _))<|cH rfl rfl rfl (by simp)<|rE 65 ?_;refine aU rfl (λ h5=>?_) (λ h5=>?_)
     ·refine cSR<|oR 1 rfl<|rE 66<|cT ?_;exact fB (x:=false) rfl (wR (c:=c) (λ q=>Rq h5 (((mA c k s).1 (((mF c).1 q).2 k s hs)).2 j x hx))).symm
     ·refine aZ<|aE<|cSR<|oR 2 rfl<|rV (vI (x.data.size:Int)) rfl<|rV (vB ((x.data.size:Int) != 0)) rfl<|oR 1 rfl<|gN rfl<|gS rfl id<|gBS (x:=vI (x.data.size:Int)) rfl id rfl<|gBS (x:=vB ((x.data.size:Int) != 16)) rfl id rfl<|cH rfl rfl rfl (λ h=>h)<|rE 75 ?_;refine aU rfl (λ h6=>?_) (λ h6=>?_)
      ·refine cSR<|oR 1 rfl<|rE 76<|cT ?_;exact fB (x:=false) rfl (wR (c:=c) (λ q=>Rr h6 (((mA c k s).1 (((mF c).1 q).2 k s hs)).2 j x hx))).symm
      ·refine aZ<|cSR<|oR 2 rfl<|nW (.sl 3 (List.drop 0 (List.take j (s.map wyL))) false) rfl rfl (⟨kH _,aI _,by show (j:Int)≤(((s.map wyL).length:Nat):Int);rw[aO];have:=of_decide_eq_true h4;omega⟩)<|oR 2 rfl<|rCl (x:=.tup [vN ((jN (s.take j) x.line).getD 0),vB ((jN (s.take j) x.line).isSome)]) rfl (.inl rfl) (by show bY C0 _ [.sl 3 (List.drop 0 (List.take j (s.map wyL))) false,_] _;rw[cQ, ←fO];exact SH (s.take j) x.line false (by rw[aQ];omega) (λ y hy=>hso.2 y (cO hy)) hxo.line)<|oR 5 rfl<|rE 86<|cSR<|oR 1 rfl<|rE 87 ?_;refine aU rfl (λ h7=>?_) (λ h7=>?_)
       ·refine cSR<|oR 1 rfl<|rE 88<|cT ?_;exact fB (x:=false) rfl (wR (c:=c) (λ q=>Rs h7 (((mA c k s).1 (((mF c).1 q).2 k s hs)).2 j x hx))).symm
       ·refine aZ<|cRg ?_;have b1:j+1≤1000001:=aH hjB (aC 1);refine rW (vN (j+1)) rfl (okI (bS b1 rfl))<|oR 1 rfl<|rE 89 ?_;refine⟨j+1,λ s=>s,Weak.of_lists _ wT wH rfl,⟨of_decide_eq_true h4,Rt hx (TY h5 h6 h7) hj.2⟩,by have:=of_decide_eq_true h4;show s.length - (j+1)<s.length - j;omega⟩
    ·refine eA<|cRg ?_;have b2:k+1≤1000001:=aH hkB (aC 1);refine rW (vN (k+1)) rfl (okI (bS b2 rfl))<|oR 1 rfl<|rE 47 ?_;refine⟨k+1,λ s=>s,Weak.of_lists _ wT wH rfl,⟨of_decide_eq_true h2,MA hs ((mA c k s).2 ⟨by have:=aD h3;omega,λ i y hy=>hj.2 i y (by have:=(Db.1 hy).1;have:=aD h4;omega) hy⟩) hk.2⟩,by have:=of_decide_eq_true h2;show c.sets.length - (k+1)<c.sets.length - k;omega⟩
  ·refine eA<|cSR<|oR 1 rfl<|rE 32<|cT ?_;exact fB (x:=true) rfl ((mF c).2 ⟨Ae h1,λ i s hs=>hk.2 i s (by have:=(Db.1 hs).1;have:=aD h2;omega) hs⟩).symm
def VN:AV:=.sl 0 [] true
theorem uP(rs:Nat)(c:Bool):Sub (.sl 0 [] true) (.sl rs [] c):=λ S w v h=>by
 cases h with
 |sl _ _ _ A c0 b o u hc hm hcl hrs hA hw h1 hr=>exact .sl rs [] c A c0 b o u hc hm (λ _=>hcl rfl) (λ _ h=>by cases h) (λ h=>absurd h (gX 0)) (λ i row j a h=>by simp at h) h1 λ i row j a h=>by simp at h
theorem Sub.sl{rs:Nat}{rows rows':List (List AV)}{clip:Bool}(hl:rows.length=rows'.length)(hw:∀ (i:Nat) row row',rows[i]?=some row→rows'[i]?=some row'→row.length=row'.length∧∀ (j:Nat) a b,row[j]?=some a→row'[j]?=some b→Sub a b):Sub (.sl rs rows clip) (.sl rs rows' clip):=λ S w v h=>by
 cases h with
 | sl _ _ _ A c b o u hc hm hcl hrs hA hv h1 hr=>
  rw[hl];have back:∀ (i:Nat) row',rows'[i]?=some row'→∃ row,rows[i]?=some row:=λ i row' h=>⟨_,aA (by rw[hl];exact (Db.1 h).1)⟩;have back2:∀ (i:Nat) row row' (j:Nat) b,rows[i]?=some row→rows'[i]?=some row'→row'[j]?=some b→∃ a,row[j]?=some a:=λ i row row' j b h h' hj=>⟨_,aA (by rw[(hw i row row' h h').1];exact (Db.1 hj).1)⟩;refine .sl rs rows' clip A c b o u (hl ▸ hc) hm (λ e=>(hcl e).trans hl) (λ row' hr'=>?_) (λ h0=>hA omT) (λ i row' j a hi hj=>?_) h1 λ i row' j a hi hj=>?_
  ·obtain⟨i,hi,rfl⟩:=fU hr';obtain⟨row,hrow⟩:=back i _ (aA hi);rw[←(hw i row _ hrow (aA hi)).1];exact hrs row (aB hrow)
  ·obtain⟨row,hrow⟩:=back i row' hi;obtain⟨x,hx⟩:=back2 i row row' j a hrow hi hj;exact hv i row j x hrow hx
  ·obtain⟨row,hrow⟩:=back i row' hi;obtain⟨x,hx⟩:=back2 i row row' j a hrow hi hj;exact (hw i row row' hrow hi).2 j x a hx hj S w _ (hr i row j x hrow hx)
def VJ:List AV→List AV→Prop
 |[],[]=>True
 |a::xs,b::ys=>Sub a b∧VJ xs ys
 |_,_=>False
theorem VJ.get:∀ {xs ys:List AV},VJ xs ys→xs.length=ys.length∧∀ (i:Nat) a b,xs[i]?=some a→ys[i]?=some b→Sub a b
 |[],[],_=>⟨rfl,λ i a b h=>by simp at h⟩
 |x::xs,y::ys,h=>by
  obtain⟨h1,h2⟩:=VJ.get h.2;refine⟨by simp[h1],λ i a b ha hb=>?_⟩
  cases i with
  |zero=>simp at ha hb;subst ha;subst hb;exact h.1
  |succ i=>exact h2 i a b (by simpa using ha) (by simpa using hb)
 |[],_::_,h=>h.elim
 |_::_,[],h=>h.elim
theorem Sub.agg{xs ys:List AV}(h:VJ xs ys):Sub (.agg xs) (.agg ys):=λ S w v hv=>by
 cases hv with
 |agg _ vs hl h1 hr=>
  refine .agg ys vs (h.get.1 ▸ hl) h1 λ i b u p q=>?_;have hi:i<xs.length:=by rw[h.get.1];exact (Db.1 p).1
  exact h.get.2 i xs[i] b (aA hi) p S w u (hr i _ u (aA hi) q)
theorem Sub.tup{xs ys:List AV}(h:VJ xs ys):Sub (.tup xs) (.tup ys):=λ S w v hv=>by
 cases hv with
 |tup _ vs hl hr=>
  refine .tup ys vs (h.get.1 ▸ hl) λ i b u p q=>?_;have hi:i<xs.length:=by rw[h.get.1];exact (Db.1 p).1
  exact h.get.2 i xs[i] b (aA hi) p S w u (hr i _ u (aA hi) q)
theorem Sub.clip(rs:Nat)(rows:List (List AV))(c:Bool):Sub (.sl rs rows c) (.sl rs rows false):=λ S w v h=>by
 cases h with
 |sl _ _ _ A c0 b o u hc hm hcl hrs hA hw h1 hr=>exact .sl rs rows false A c0 b o u hc hm (λ h=>by cases h) hrs hA hw h1 hr
theorem Lp(n:Nat):Sub (.sl 1 (List.replicate n [VN]) false) (.sl 1 (List.replicate n (cB [])) false):=by
 refine Sub.sl (by simp) λ i row row' h h'=>?_;have e1:=iM (aB h);have e2:=iM (aB h');subst e1;subst e2;refine⟨rfl,λ j a b ha hb=>?_⟩
 cases j with
 |zero=>injection ha with ha;injection hb with hb;subst ha;subst hb;exact uP 3 false
 |succ j=>simp at ha
abbrev gsL(x:Gs):List AV:=[.v (.int .u32 (x.pc:Int)),.v (.int .u32 (x.next:Int))]
abbrev guL(g:Gu):List AV:=[.sl 2 (g.slots.map gsL) false,.v (.int .u32 (g.hist:Int)),.sl 1 (g.rets.map eJ) false]
theorem SE(sets ways:Int):bY C0 41 [vI sets,vI ways] (.agg (caL (BT sets ways) false)):=by
 refine bY.intro c0Ok Tryz.func41 rfl rfl (by kernel_rfl) rfl ?_;obtain⟨L,hLe,hL,hL1⟩:∃ L:Nat,aV sets 1 4=(L:Int)∧L≤4∧1≤L:=⟨(aV sets 1 4).toNat,by unfold aV;(repeat' split)<;>omega,by unfold aV;(repeat' split)<;>omega,by unfold aV;(repeat' split)<;>omega⟩;refine cSR<|rAl 0 rfl rfl<|rE 1<|cSR<|oR 1 rfl<|rV (vI (if 1>sets then 1 else sets)) rfl<|rW (vN L) rfl (congrArg (λ z:Int=>Res.ok (.v (.int .i64 z))) hLe)<|oR 1 rfl<|rE 5<|aE<|cSR<|oR 1 rfl<|rW (vB (L==3)) rfl (okB (eqN _ _)) ?_;refine rE 7 ?_;refine aU rfl (λ h1=>?_) (λ h1=>?_)
 ·refine cRg<|oR 1 rfl<|rE 8<|cSR<|oR 1 rfl<|rV (vI (if 1>ways then 1 else ways)) rfl<|rV (vI (if 2<(if 1>ways then 1 else ways)then 2 else (if 1>ways then 1 else ways))) rfl<|oR 1 rfl<|rFx (x:=.osl 12 0 2 false) (h':=upd _ 12 (some (.arr (List.replicate 2 [.sl 0 ([]) true]) 1))) rfl rfl (rfl) (⟨by decide,by decide,by decide⟩)<|rV (.agg [vI (if 2<(if 1>ways then 1 else ways)then 2 else (if 1>ways then 1 else ways)),.osl 12 0 2 false]) rfl<|rSt rfl<|rE 15<|cT ?_;have e:(BT sets ways).sets=List.replicate 2 []:=by show List.replicate (if aV sets 1 4=3 then 2 else aV sets 1 4).toNat []=_;rw[hLe];rw[if_pos (by have:L=3:=(by simpa using h1);omega)];rfl
  refine⟨_,rfl,⟨trivial,by show 0+2≤(List.replicate 2 [VN]).length;rw[cU];omega,trivial⟩,rfl,Sub.agg ⟨Sub.refl _,?_,trivial⟩⟩;show Sub (.sl 1 (List.take 2 (List.drop 0 (List.replicate 2 [VN]))) false) (.sl 1 ((BT sets ways).sets.map cB) false);rw[e,cQ,aN (by rw[cU];exact aC _),gI];exact Lp 2
 ·refine aZ<|cSR<|oR 1 rfl<|rV (vI (if 1>ways then 1 else ways)) rfl<|rV (vI (if 2<(if 1>ways then 1 else ways)then 2 else (if 1>ways then 1 else ways))) rfl<|oR 1 rfl<|rFx (x:=.osl 11 0 L false) (h':=upd _ 11 (some (.arr (List.replicate L [.sl 0 ([]) true]) 1))) rfl rfl (rfl) (⟨aI _,kH _,by show (L:Int)≤1000000;have:=hL;omega⟩)<|rV (.agg [vI (if 2<(if 1>ways then 1 else ways)then 2 else (if 1>ways then 1 else ways)),.osl 11 0 L false]) rfl<|rSt rfl<|rE 14<|cT ?_;have e:(BT sets ways).sets=List.replicate L []:=by show List.replicate (if aV sets 1 4=3 then 2 else aV sets 1 4).toNat []=_;rw[hLe];rw[if_neg (by have: ¬ L=3:=(by simpa using h1);omega)];rfl
  refine⟨_,rfl,⟨trivial,by show 0+L≤(List.replicate L [VN]).length;rw[cU];omega,trivial⟩,rfl,Sub.agg ⟨Sub.refl _,?_,trivial⟩⟩;show Sub (.sl 1 (List.take L (List.drop 0 (List.replicate L [VN]))) false) (.sl 1 ((BT sets ways).sets.map cB) false);rw[e,cQ,aN (by rw[cU];exact aC _),gI];exact Lp L
theorem VK:bY C0 43 [] (.agg (guL VQ)):=by
 refine bY.intro c0Ok Tryz.func43 rfl rfl (by kernel_rfl) rfl<|cSR<|rAl 0 rfl rfl<|rE 1<|cSR<|rFx (x:=.osl 1 0 8 false) (h':=upd _ 1 (some (.arr (List.replicate 8 [.v (.int .u32 0),.v (.int .u32 0)]) 2))) rfl rfl (rfl) (⟨by decide,by decide,by decide⟩)<|rV (.agg [.osl 1 0 8 false,.v (.int .u32 0),.sl 0 ([]) true]) rfl<|rSt rfl<|rE 4<|cT ?_;refine⟨_,rfl,⟨by show 0+8≤_;decide,trivial,trivial,trivial⟩,rfl,Sub.agg ⟨Sub.refl _,Sub.refl _,uP 1 false,trivial⟩⟩
abbrev ftL(x:Ft):List AV:=[.v (.int .u32 (x.pc:Int)),.v (.int .u32 (x.guess:Int))]
abbrev ptL(x:Pt):List AV:=[.v (.int .u32 (x.addr:Int)),.v (.string x.data)]
abbrev enL(e:Ent):List AV:=[.v (.int .i64 e.no),.v (.int .u32 (e.pc:Int)),.v (.int .i64 e.i.op),.v (.int .i64 e.i.rd),.v (.int .i64 e.i.rs1),.v (.int .i64 e.i.rs2),.v (.int .u32 (e.i.imm:Int)),.v (.int .u32 (e.guess:Int)),.v (.int .i64 e.is),.v (.int .i64 e.left),.v (.int .u32 (e.value:Int)),.v (.int .u32 (e.next:Int)),.v (.int .u32 (e.addr:Int)),.v (.int .i64 e.halt),.v (.int .i64 e.took),.v (.bool e.known),.v (.bool e.filled)]
abbrev coL(c:Co):List AV:=[.v (.int .i64 c.conf.mode),.v (.int .i64 c.conf.width),.v (.int .i64 c.conf.rob),.v (.int .i64 c.conf.queue),.v (.int .i64 c.conf.stores),.v (.int .i64 c.conf.slots),.v (.int .i64 c.conf.sets),.v (.int .i64 c.conf.ways),.sl 1 (c.conf.lat.map fD) false,.v (.bool c.conf.tables),.sl 1 (c.conf.tape.map eJ) false,.sl 1 (c.prog.map eJ) false,.v (.int .i64 c.cycle),.v (.int .u32 (c.r 0:Int)),.v (.int .u32 (c.r 1:Int)),.v (.int .u32 (c.r 2:Int)),.v (.int .u32 (c.r 3:Int)),.v (.int .u32 (c.r 4:Int)),.v (.int .u32 (c.r 5:Int)),.v (.int .u32 (c.r 6:Int)),.v (.int .u32 (c.r 7:Int)),.v (.int .u32 (c.r 8:Int)),.v (.int .u32 (c.r 9:Int)),.v (.int .u32 (c.r 10:Int)),.v (.int .u32 (c.r 11:Int)),.v (.int .u32 (c.r 12:Int)),.v (.int .u32 (c.r 13:Int)),.v (.int .u32 (c.r 14:Int)),.v (.int .u32 (c.r 15:Int)),.v (.int .u32 (c.r 16:Int)),.v (.int .u32 (c.r 17:Int)),.v (.int .u32 (c.r 18:Int)),.v (.int .u32 (c.r 19:Int)),.v (.int .u32 (c.r 20:Int)),.v (.int .u32 (c.r 21:Int)),.v (.int .u32 (c.r 22:Int)),.v (.int .u32 (c.r 23:Int)),.v (.int .u32 (c.r 24:Int)),.v (.int .u32 (c.r 25:Int)),.v (.int .u32 (c.r 26:Int)),.v (.int .u32 (c.r 27:Int)),.v (.int .u32 (c.r 28:Int)),.v (.int .u32 (c.r 29:Int)),.v (.int .u32 (c.r 30:Int)),.v (.int .u32 (c.r 31:Int)),.v (.int .u32 (c.fetch:Int)),.v (.bool c.stop),.sl 2 (c.fetched.map ftL) false,.sl 17 (c.rob.map enL) false,.v (.int .i64 c.next),.sl 2 (c.stores.map ptL) false,.v (.int .i64 c.data.ways),.sl 1 (c.data.sets.map cB) false,.v (.int .i64 c.words.ways),.sl 1 (c.words.sets.map cB) false,.sl 4 (c.bus.map rqL) false,.v (.int .i64 c.asked),.v (.int .i64 c.guessed),.v (.string c.mem),.sl 2 (c.guess.slots.map gsL) false,.v (.int .u32 (c.guess.hist:Int)),.sl 1 (c.guess.rets.map eJ) false,.v (.int .i64 c.halt),.sl 9 (c.retired.map spL) false]
theorem bY.sub{C:Ctx}{f:FuncId}{args:List AV}{r r':AV}(h:bY C f args r)(k:Sub r r'):bY C f args r':=⟨h.1,λ S w vs a b c=>(h.2 S w vs a b c).mono λ e w' ⟨v,p,q,s⟩=>⟨v,p,q,k _ _ _ s⟩⟩
theorem OU(k:Nat):bY C0 40 [.v (.slice none 0 k)] (.sl 0 [] true):=by
 refine bY.intro c0Ok Tryz.func40 rfl rfl (by kernel_rfl) rfl<|cSR<|oR 1 rfl<|rE 1<|aE<|cSR<|oR 1 rfl<|rV (vB true) rfl<|rE 3 ?_;refine aU rfl (λ _=>?_) (λ h=>by cases h);refine cSR<|oR 1 rfl<|rE 4<|cT ?_;exact fT rfl rfl
theorem EE{P:Program}{w:World}(t ty e:TypeId)(i:TypeInfo)(ht:P.underlying t=some (.slice e))(hi:P.info? e=some i)(A0:Option Addr)(c0:Nat)(a:Addr)(k:Nat):
  (Builtin.append_ #[t,t] ty #[.slice A0 0 c0,.slice (some a) 0 k]).run P w=.ok (.slice A0 0 c0) w:=by
 have hl:(loadCells a 0).run P w=.ok #[] w:=rfl;cases A0<;>simp[Builtin.append_,run_underlying ht,sizeOf,typeInfo,hi,Builtin.lenOf,Builtin.firstCells,storeCells,hl]
theorem wQ{P:Program}{w:World}{ops:Array Oper}{rest:List Oper}{o:Oper}{a:Act}{Q:Exit→Act→World→Prop}(hgd:o.guard=none)(s x:Operand)(t:TypeId)
  (ho:o.op=.call {callee:=.builtin .append,args:= #[s,x],argTypes:= #[t,t]}) (e:TypeId) (i:TypeInfo) (ht:P.underlying t=some (.slice e)) (hi:P.info? e=some i)
  (A0:Option Addr) (c0:Nat) (b:Addr) (k:Nat) (hs:a.eval s=.slice A0 0 c0) (hx:a.eval x=.slice (some b) 0 k)
  (h:wpList P ops Q rest (a.put o.dst (.slice A0 0 c0)) w):wpList P ops Q (o::rest) a w:=by
 refine wpList_plain hgd λ K hK=>?_;have hrun:=EE (P:=P) (w:=w) t o.type e i ht hi A0 c0 b k;unfold Oper.wp;simp[execOp,ho,resolve,invoke,builtin,hs,hx,hrun,Result.andThen];exact hK _ _ h
theorem VL(a:Addr)(k:Nat)(w:World):Calls Tryz.prog 40 #[.slice (some a) 0 k] w λ e w'=>∃ v,e=.returned v∧Below w.heap.size w w'∧∃ A c,v=.slice A 0 c∧c≤maxLen:=by
 obtain⟨i0,z0,hi, -⟩:=(c0Ok.ty 26 _ rfl).info
 go_enter Tryz.func40,Tryz.ntmps40
 have hb:Sem.run Tryz.prog (binOp .eql 23 (.slice (some a) 0 k) (.slice none 0 0)) w=.ok (.bool false) w:=by
  have e1:(Op.equal 23 (.slice (some a) 0 k) (.slice none 0 0)).run Tryz.prog w=.ok (some a).isNone w:=As Tryz.prog w 9999 _ 26 (c0Ok.ty 23 _ rfl).kd _ _ _;simp only[binOp,Sem.run_bind,e1,Result.andThen_ok];rfl
 go_wp2_with (first|(rw[hb];simp only[Result.andThen_ok,Oper.upon])|(at_builtin;refine wQ rfl (.tmp 5) (.tmp 6) 23 rfl 26 i0 (c0Ok.ty 23 _ rfl).kd hi _ _ _ _ rfl rfl ?_))
 go_ret
 exact⟨_,rfl,(Below.refl _ _).alloc (aC _) _,_,_,rfl,aF _⟩
theorem TX(x:List AV)(xs:List (List AV))(ck:Bool)(hl:(x::xs).length≤1000000):bY C0 40 [.sl 1 (x::xs) ck] (.sl 1 (x::xs) false):=by
 refine bY.intro c0Ok Tryz.func40 rfl rfl (by kernel_rfl) rfl<|cSR<|oR 1 rfl<|rE 1<|aE<|cSR<|oR 1 rfl<|rV (vB false) rfl<|rE 3 ?_;refine aU rfl (λ h=>by cases h) (λ _=>?_);refine aZ<|cSR<|rV (.sl 1 ([]) true) rfl<|oR 1 rfl<|rFx (x:=.osl 5 0 (0+(x::xs).length) false) (h':=upd _ 5 (some (.arr (([])++(x::xs)) 1))) rfl rfl (rfl) (⟨by first|(exact Nat.succ_pos _)|(simp only[cW,bU];exact hl),by first|(exact Nat.succ_pos _)|(simp only[cW,bU];exact hl),trivial,trivial⟩)<|oR 1 rfl<|rE 7<|cT ?_;refine⟨_,rfl,(by show 0+(0+(x::xs).length)≤(x::xs).length;omega),rfl,?_⟩;show Sub (.sl 1 (List.take (0+(x::xs).length) (List.drop 0 ([]++(x::xs)))) false) _;rw[cQ,iN,bU,aN (aC _)];exact Sub.refl _
theorem VM(rows:List (List AV))(ck:Bool)(hl:rows.length≤1000000):bY C0 40 [.sl 1 rows ck] (.sl 1 rows false):=by
 match rows,hl with
 |x::xs,hl=>exact TX x xs ck hl
 | [],_=>
  refine⟨(OU 0).1,λ S w vs hS hG hr=>?_⟩
  match vs,hr with
  |[],hr=>simp[RepL]at hr
  |_::_::_,hr=>simp[RepL]at hr
  | [v],hr=>
   have h0:=hr.2 0 _ v rfl rfl
   cases h0 with
   | sl _ _ _ A c b o u hc hm hcl hrs hA hw h1 h'=>
    cases A with
    |none=>exact ((OU c).sub (uP 1 false)).2 S w _ hS hG (RepL.cons (.v _) (RepL.nil _ _ _))
    |some a=>
     exact (VL a c w).mono λ e w' ⟨v,h1,h2,A,c',h3,h4⟩=>⟨v,h1,h2,h3 ▸ .sl 1 [] false A c' 0 0 (λ _ _=>.bool false) (aF _) h4 (λ h=>by cases h) (λ _ h=>by cases h) (λ h=>absurd h (gX 0)) (λ i row j a h=>by simp at h) (λ _ _=>rfl) λ i row j a h=>by simp at h⟩
def vE(c:Cf)(prog:List Nat)(m:ByteArray):Co:=
 {conf:=bB c,prog:=prog.take (min prog.length 64),cycle:=0,r:=λ _=>0,fetch:=0,stop:=false,fetched:=[],rob:=[],next:=1,stores:=[],data:=BT (bB c).sets (bB c).ways,words:=BT (bB c).sets (bB c).ways,bus:=[],asked:=0,guessed:=0,mem:=qQ m,guess:=VQ,halt:=0,retired:=[]}
theorem SF(c:Cf)(prog:List Nat)(m:ByteArray)(hok:c.ok)(hl:prog.length≤1000000):bY C0 15 [.agg (cfL c false false),.sl 1 (prog.map eJ) false,.v (.string m)] (.agg (coL (vE c prog m))):=by
 refine bY.intro c0Ok Tryz.func15 rfl rfl (by kernel_rfl) rfl<|cSR<|rAl 0 rfl rfl<|rAl 1 rfl rfl<|rE 2<|cSR<|oR 1 rfl<|rCi rfl (GP c false false hok)<|rSt rfl<|rE 5<|cSR<|oR 3 rfl<|rW (vN prog.length) rfl (bQ eJ prog) ?_;refine rW (vN (min prog.length 64)) rfl (Bp prog.length 64)<|nW (.sl 1 (List.drop 0 (List.take (min prog.length 64) (prog.map eJ))) false) rfl rfl (⟨kH _,by show (0:Int)≤((min prog.length 64:Nat):Int);omega,by show ((min prog.length 64:Nat):Int)≤(((prog.map eJ).length:Nat):Int);rw[aO];omega⟩)<|rCi rfl (VM (List.drop 0 (List.take (min prog.length 64) (prog.map eJ))) _ (by rw[bA,aQ,aO];omega))<|oR 4 rfl<|rCi rfl (SE (bB c).sets (bB c).ways)<|oR 4 rfl<|rCi rfl (SE (bB c).sets (bB c).ways)<|oR 1 rfl<|rCi rfl (SK m)<|rCi rfl (VK)<|rV (.agg [vI ((bB c).mode),vI ((bB c).width),vI ((bB c).rob),vI ((bB c).queue),vI ((bB c).stores),vI ((bB c).slots),vI ((bB c).sets),vI ((bB c).ways),.sl 1 ((bB c).lat.map fD) false,vB ((bB c).tables),.sl 1 ((bB c).tape.map eJ) false,.sl 1 (List.drop 0 (List.take (min prog.length 64) (prog.map eJ))) false,vI 0,zU,zU,zU,zU,zU,zU,zU,zU,zU,zU,zU,zU,zU,zU,zU,zU,zU,zU,zU,zU,zU,zU,zU,zU,zU,zU,zU,zU,zU,zU,zU,zU,zU,vB false,.sl 0 ([]) true,.sl 0 ([]) true,vI 1,.sl 0 ([]) true,vI ((BT (bB c).sets (bB c).ways).ways),.sl 1 ((BT (bB c).sets (bB c).ways).sets.map cB) false,vI ((BT (bB c).sets (bB c).ways).ways),.sl 1 ((BT (bB c).sets (bB c).ways).sets.map cB) false,.sl 0 ([]) true,vI 0,vI 0,.v (.string (qQ m)),.sl 2 (VQ.slots.map gsL) false,vU VQ.hist,.sl 1 (VQ.rets.map eJ) false,vI 0,.sl 0 ([]) true]) rfl<|rSt rfl<|rE 27<|cT ?_;exact⟨_,rfl,tvT,rfl,Sub.agg ⟨Sub.refl _,Sub.refl _,Sub.refl _,Sub.refl _,Sub.refl _,Sub.refl _,Sub.refl _,Sub.refl _,Sub.refl _,Sub.refl _,Sub.refl _,(by show Sub (.sl 1 (List.drop 0 (List.take (min prog.length 64) (prog.map eJ))) false) (.sl 1 ((prog.take (min prog.length 64)).map eJ) false);rw[cQ, ←fO];exact Sub.refl _),Sub.refl _,Sub.refl _,Sub.refl _,Sub.refl _,Sub.refl _,Sub.refl _,Sub.refl _,Sub.refl _,Sub.refl _,Sub.refl _,Sub.refl _,Sub.refl _,Sub.refl _,Sub.refl _,Sub.refl _,Sub.refl _,Sub.refl _,Sub.refl _,Sub.refl _,Sub.refl _,Sub.refl _,Sub.refl _,Sub.refl _,Sub.refl _,Sub.refl _,Sub.refl _,Sub.refl _,Sub.refl _,Sub.refl _,Sub.refl _,Sub.refl _,Sub.refl _,Sub.refl _,Sub.refl _,Sub.refl _,uP 2 false,uP 17 false,Sub.refl _,uP 2 false,Sub.refl _,Sub.refl _,Sub.refl _,Sub.refl _,uP 4 false,Sub.refl _,Sub.refl _,Sub.refl _,Sub.refl _,Sub.refl _,Sub.refl _,Sub.refl _,uP 9 false,trivial⟩⟩
theorem LD(l:List Nat)(k:Nat):(l.take k).sum≤l.sum:=by
 have:=congrArg List.sum (gA k l);rw[List.sum_append]at this;omega
noncomputable def CIR:Ctx:={P:=Tryz.prog,ty:=tys.find,G:=λ _=>none,H:=pJ Tryz.prog (λ _=>none)}
theorem cirOk:CtxOk CIR:=⟨TT.find_ok tys VT,by kernel_rfl,λ _ _ _ _ _ h=>h⟩
def UR(p:Nat×Nat):List AV:=[vN p.1,vN p.2]
def WB(f:Nat):Nat:=if 2≤f∧f≤7 then 2 else 0
theorem Uj(op:Int):bY CIR 190 [vI op] (vN (dK op)):=.of_flat Tryz.func190 rfl rfl rfl rfl λ w=>(Bc op w).mono λ _ _ ⟨a,b⟩=>⟨a,b ▸ qL _⟩
theorem VW(f:Nat)(hf:f≤8):bY CIR 193 [vN f] (.tup [vB (yZ f),vB (uL f),vB (vL f)]):=.of_tup Tryz.func193 rfl rfl rfl rfl λ w=>(JJ f hf w).mono λ _ _ ⟨a,b⟩=>⟨a,b ▸ qL _⟩
theorem CZ(x a n:Nat)(h1:1≤n)(h2:a+n≤32)(hx:x<4294967296):bY CIR 215 [vU x,vN a,vN n] (vU (field x a n)):=.of_flat Tryz.func215 rfl rfl rfl rfl λ w=>NH x a n w h1 h2 hx
theorem VX(x a n v:Nat)(h1:1≤n)(h2:a+n≤32)(hx:x<4294967296)(hv:v<4294967296):bY CIR 194 [vU x,vN a,vN n,vU v] (vU (setf x a n v)):=.of_flat Tryz.func194 rfl rfl rfl rfl λ w=>NI x a n v w h1 h2 hx hv
theorem Uk(x n:Nat)(h1:1≤n)(h2:n≤32)(hx:x<4294967296):bY CIR 197 [vU x,vN n] (vU (sext x n)):=.of_flat Tryz.func197 rfl rfl rfl rfl λ w=>Gl x n w h1 h2 hx
theorem RE:bY CIR 197 [vU 0,vN 0] (vU 0):=.of_flat Tryz.func197 rfl rfl rfl rfl λ w=>ND w
theorem VY(f:Nat)(hf:f≤8):bY CIR 191 [vN f] (.tup [.sl (WB f) ((eS f).map UR) true,vN (qC f)]):=by
 refine bY.intro cirOk Tryz.func191 rfl rfl (by kernel_rfl) rfl<|cSR<|oR 2 rfl<|rE 2<|aE<|cSR<|oR 1 rfl<|rE 3<|bI<|cSR<|rW (vB (f==2)) rfl (okB (eqN _ _))<|oR 1 rfl<|rE 5 ?_;refine aU rfl (λ h1=>?_) (λ h1=>?_)
 ·refine cSR<|rV (.agg [vI 20,vI 12]) rfl<|rV (.sl 2 ([[vI 20,vI 12]]) true) rfl<|oR 2 rfl<|rE 9<|cT ?_;obtain rfl:f=2:=by have z:=h1;simp at z;omega
  exact eW rfl rcT rfl rfl
 ·refine cSR<|rW (vB (f==3)) rfl (okB (eqN _ _))<|oR 1 rfl<|rE 7 ?_;refine aU rfl (λ h2=>?_) (λ h2=>?_)
  ·refine cSR<|rV (.agg [vI 20,vI 5]) rfl<|rV (.sl 2 ([[vI 20,vI 5]]) true) rfl<|oR 2 rfl<|rE 11<|cT ?_;obtain rfl:f=3:=by have z:=h2;simp at z;omega
   exact eW rfl rcT rfl rfl
  ·refine cSR<|rW (vB (f==4)) rfl (okB (eqN _ _))<|oR 1 rfl<|rE 9 ?_;refine aU rfl (λ h3=>?_) (λ h3=>?_)
   ·refine cSR<|rV (.agg [vI 7,vI 5]) rfl<|rV (.agg [vI 25,vI 7]) rfl<|rV (.sl 2 ([[vI 7,vI 5],[vI 25,vI 7]]) true) rfl<|oR 2 rfl<|rE 14<|cT ?_;obtain rfl:f=4:=by have z:=h3;simp at z;omega
    exact eW rfl rcT rfl rfl
   ·refine cSR<|rW (vB (f==5)) rfl (okB (eqN _ _))<|oR 1 rfl<|rE 11 ?_;refine aU rfl (λ h4=>?_) (λ h4=>?_)
    ·refine cSR<|rV (.agg [vI 8,vI 4]) rfl<|rV (.agg [vI 25,vI 6]) rfl<|rV (.agg [vI 7,vI 1]) rfl<|rV (.agg [vI 31,vI 1]) rfl<|rV (.sl 2 ([[vI 8,vI 4],[vI 25,vI 6],[vI 7,vI 1],[vI 31,vI 1]]) true) rfl<|oR 2 rfl<|rE 18<|cT ?_;obtain rfl:f=5:=by have z:=h4;simp at z;omega
     exact eW rfl rcT rfl rfl
    ·refine cSR<|rW (vB (f==6)) rfl (okB (eqN _ _))<|oR 1 rfl<|rE 13 ?_;refine aU rfl (λ h5=>?_) (λ h5=>?_)
     ·refine cSR<|rV (.agg [vI 12,vI 20]) rfl<|rV (.sl 2 ([[vI 12,vI 20]]) true) rfl<|oR 2 rfl<|rE 17<|cT ?_;obtain rfl:f=6:=by have z:=h5;simp at z;omega
      exact eW rfl rcT rfl rfl
     ·refine cSR<|rW (vB (f==7)) rfl (okB (eqN _ _))<|oR 1 rfl<|rE 15 ?_;refine aU rfl (λ h6=>?_) (λ h6=>?_)
      ·refine cSR<|rV (.agg [vI 21,vI 10]) rfl<|rV (.agg [vI 20,vI 1]) rfl<|rV (.agg [vI 12,vI 8]) rfl<|rV (.agg [vI 31,vI 1]) rfl<|rV (.sl 2 ([[vI 21,vI 10],[vI 20,vI 1],[vI 12,vI 8],[vI 31,vI 1]]) true) rfl<|oR 2 rfl<|rE 22<|cT ?_;obtain rfl:f=7:=by have z:=h6;simp at z;omega
       exact eW rfl rcT rfl rfl
      ·refine aZ<|cSR<|oR 2 rfl<|rE 17<|cT ?_;have hz:f=0∨f=1∨f=8:=by simp at h1 h2 h3 h4 h5 h6;omega
       rcases hz with rfl|rfl|rfl<;>exact eW rfl rcT rfl rfl
theorem VZ(x rs:Nat)(ps:List (Nat×Nat))(ck:Bool)(hx:x<4294967296)(hrs:ps≠[]→rs=2)(hok:JI ps)(hl:ps.length≤100):bY CIR 216 [vU x,.sl rs (ps.map UR) ck] (.tup [vU (rZ x ps).1,vN (rZ x ps).2]):=by
 refine bY.intro cirOk Tryz.func216 rfl rfl (by kernel_rfl) rfl<|cSR<|oR 2 rfl<|rE 2<|cSR<|oR 2 rfl<|rE 4<|aE<|cSR<|oR 1 rfl<|rW (vN ps.length) rfl (bQ UR ps)<|oR 1 rfl<|rE 7 ?_;refine bI<|kZ (κ:=Nat) (λ k=>⟨cI [(0,vU x),(10,.sl rs (ps.map UR) ck),(11,vN ps.length),(12,vN k),(6,vU (((ps.take k).foldl (yX x) (0,0)).1)),(7,vN (((ps.take k).foldl (yX x) (0,0)).2))],heapF [],7⟩) (λ k=>k≤ps.length) (λ k=>ps.length - k) 0 (λ s=>s) (Weak.of_lists (λ s=>s) wT trivial rfl) (aF _) ?_;intro k hk;have hkB:k≤100:=by omega
 have hsk:wL (ps.take k)≤32:=aL (by unfold wL;rw[fO];exact LD _ _) hok.2;have hi:=BJ x (ps.take k) (0,0) (by show 0<4294967296;omega) (λ p hp=>hok.1 p (cO hp)) omT;have hu:((ps.take k).foldl (yX x) (0,0)).1≤4294967295:=by omega
 have hv2:((ps.take k).foldl (yX x) (0,0)).2=wL (ps.take k):=hi.2.trans (bU _);have hv:((ps.take k).foldl (yX x) (0,0)).2≤32:=by omega
 refine cSR<|rW (vB (decide (k<ps.length))) rfl (okB (ltN _ _))<|rE 8<|aE ?_;refine aU rfl (λ h1=>?_) (λ h1=>?_)
 ·refine aZ<|aE<|bI<|cSR ?_;obtain⟨p,hp⟩:∃ p,ps[k]?=some p:=⟨_,aA (of_decide_eq_true h1)⟩;obtain rfl:=hrs (λ z=>by subst z;cases hp);obtain⟨p1,p2⟩:=hok.1 p (aB hp);have hp1:p.1≤32:=by omega
  have hp2:p.2≤32:=by omega
  have hsz:wL (ps.take (k+1))≤32:=aL (by unfold wL;rw[fO];exact LD _ _) hok.2;have hs2:wL (ps.take (k+1))=wL (ps.take k)+p.2:=by rw[bX,hp];simp[wL]
  have hfl:field x p.1 p.2<4294967296:=Nat.lt_of_lt_of_le (CP _ _ _) (xH omT);refine rIx (UR p) (.dp 2 0 (UR p)) rfl rfl (gJ hp) rfl<|oR 1 rfl<|rAl 10 rfl rfl<|rSt rfl<|rE 12<|cSR<|oR 9 rfl<|rCi rfl (CZ x p.1 p.2 p1 p2 hx)<|rCi rfl (VX ((ps.take k).foldl (yX x) (0,0)).1 ((ps.take k).foldl (yX x) (0,0)).2 p.2 (field x p.1 p.2) p1 omT omT hfl)<|oR 1 rfl<|rE 24<|cRg<|oR 3 rfl ?_;have b1:(((ps.take k).foldl (yX x) (0,0)).2)+p.2≤64:=aH hv hp2;refine rW (vN ((((ps.take k).foldl (yX x) (0,0)).2)+p.2)) rfl (okI (bS b1 rfl))<|oR 1 rfl<|rE 29<|cRg ?_;have b2:k+1≤101:=aH hkB (aC 1);refine rW (vN (k+1)) rfl (okI (bS b2 rfl))<|oR 1 rfl<|rE 31 ?_;refine⟨k+1,λ s=>s,Weak.of_lists (λ s=>s) ⟨⟨rfl,rfl⟩,⟨rfl,rfl⟩,⟨rfl,rfl⟩,⟨rfl,rfl⟩,⟨(congrArg (λ z:Nat×Nat=>AV.v (.int .u32 (z.1:Int))) (Du (yX x) (0,0) ps k p hp).symm),rfl⟩,⟨(congrArg (λ z:Nat×Nat=>AV.v (.int .i64 (z.2:Int))) (Du (yX x) (0,0) ps k p hp).symm),rfl⟩,trivial⟩ trivial rfl,of_decide_eq_true h1,by have:=of_decide_eq_true h1;show ps.length - (k+1)<ps.length - k;omega⟩
 ·refine eA<|cSR<|oR 4 rfl<|rE 12<|cT ?_;have hke:=aD h1;exact eW rfl rcT rfl (by rw[aN (show ps.length≤k by omega)];rfl)
theorem Xi{x c:Nat}(h:c≤32):IntKind.wrap .u32 ((x:Int) * 2 ^ (min (Int.toNat (c:Int)) (IntKind.bits .u32)))=((x * 2 ^ c % 4294967296:Nat):Int):=by
 rw[Int.toNat_natCast,show min c (IntKind.bits .u32)=c from rN h];show ((x:Int) * 2 ^ c) % 4294967296=_;have e:((x * 2 ^ c % 4294967296:Nat):Int)=((x * 2 ^ c:Nat):Int) % ((4294967296:Nat):Int):=Int.natCast_emod _ _;rw[e,Int.natCast_mul,Int.natCast_pow];rfl
theorem Wa(f:Nat):qC f≤12:=by unfold qC;split<;>decide
theorem RF(f x:Nat)(hf1:1≤f)(hf:f≤8)(h3:(f != 3)=true):bY CIR 197 [vU ((rZ x (eS f)).1 * 2 ^ qC f % 4294967296),vN ((rZ x (eS f)).2+qC f)] (vU (JG f x)):=by
 have h3:f≠3:=by simpa using h3
 rw[(Au x f).1];unfold JG;rw[if_neg h3];by_cases h:f=1∨f=8
 ·rw[if_pos h];rcases h with rfl|rfl<;>exact RE
 ·rw[if_neg h];have hs:1≤wL (eS f)+qC f∧wL (eS f)+qC f≤32:=by
   have:f=2∨f=4∨f=5∨f=6∨f=7:=by omega
   rcases this with rfl|rfl|rfl|rfl|rfl<;>decide
  exact Uk _ _ hs.1 hs.2 omT
theorem Ul(op:Int)(x f:Nat)(hfo:dK op=f)(hf1:1≤f)(hf:f≤8)(hx:x<4294967296):bY CIR 195 [vI op,vU x] (.agg [vI op,vN (cond (yZ f) (field x 7 5) 0),vN (cond (uL f) (field x 15 5) 0),vN (cond (vL f) (field x 20 5) 0),vU (JG f x)]):=by
 refine bY.intro cirOk Tryz.func195 rfl rfl (by kernel_rfl) rfl ?_;have hfrd:field x 7 5≤31:=aT (CP x 7 5);have hfrs1:field x 15 5≤31:=aT (CP x 15 5);have hfrs2:field x 20 5≤31:=aT (CP x 20 5);have hV:=aT (Au x f).2;have hZ:(rZ x (eS f)).2≤32:=by rw[(Au x f).1];exact (tZ f).2
 have hpl:(eS f).length≤100:=by unfold eS;split<;>decide
 have hne:eS f≠[]→WB f=2:=by unfold eS WB;intro h;split at h<;>first|rfl|exact absurd rfl h
 refine cSR<|rAl 0 rfl rfl<|rE 1<|cSR<|oR 1 rfl<|rCi rfl (hfo ▸ Uj op)<|oR 1 rfl<|rE 4<|cSR<|oR 1 rfl<|rV (.agg [vI op,vI 0,vI 0,vI 0,.v (.int .u32 0)]) rfl<|rAl 6 rfl rfl<|rSt rfl ?_;refine rE 8<|cSR<|oR 1 rfl<|rCi rfl (VW f hf)<|oR 7 rfl<|rE 17 ?_;refine Kg (κ:=Unit) (λ u_=>⟨cI [(1,vU x),(4,.ptr 0 0),(5,vN f),(6,.ptr 6 0),(8,vB (uL f)),(9,vB (vL f))],heapF [(0,.box [vI 0,vI 0,vI 0,vI 0,.v (.int .u32 0)]),(6,.box [vI op,vN (cond (yZ f) (field x 7 5) 0),vI 0,vI 0,.v (.int .u32 0)])],17⟩) (λ u_=>True) ?_ ?_
 ·refine cSR<|oR 1 rfl<|rE 18 ?_;refine aU rfl (λ h1=>?_) (λ h1=>?_)
  ·refine cRg<|oR 1 rfl<|rCi rfl (CZ x 7 5 (by decide) (by decide) hx)<|rW (vN (field x 7 5)) rfl (okI (bS hfrd rfl))<|oR 1 rfl<|rSt rfl<|rE 23 ?_;refine .mk _ (.refl _) ⟨(),λ s=>s,Weak.of_lists (λ s=>s) wT ⟨⟨rfl,rfl,rfl⟩,⟨rfl,(by rw[h1];rfl),rfl⟩,trivial⟩ rfl,rfl,trivial⟩
  ·refine aZ ?_;refine .mk _ (.refl _) ⟨(),λ s=>s,Weak.of_lists (λ s=>s) wT ⟨⟨rfl,rfl,rfl⟩,⟨rfl,(by rw[h1];rfl),rfl⟩,trivial⟩ rfl,rfl,trivial⟩
 ·intro u_ _;refine Kg (κ:=Unit) (λ u_=>⟨cI [(1,vU x),(4,.ptr 0 0),(5,vN f),(6,.ptr 6 0),(9,vB (vL f))],heapF [(0,.box [vI 0,vI 0,vI 0,vI 0,.v (.int .u32 0)]),(6,.box [vI op,vN (cond (yZ f) (field x 7 5) 0),vN (cond (uL f) (field x 15 5) 0),vI 0,.v (.int .u32 0)])],17⟩) (λ u_=>True) ?_ ?_
  ·refine cSR<|oR 1 rfl<|rE 18 ?_;refine aU rfl (λ h2=>?_) (λ h2=>?_)
   ·refine cRg<|oR 1 rfl<|rCi rfl (CZ x 15 5 (by decide) (by decide) hx)<|rW (vN (field x 15 5)) rfl (okI (bS hfrs1 rfl))<|oR 1 rfl<|rSt rfl<|rE 23 ?_;refine .mk _ (.refl _) ⟨(),λ s=>s,Weak.of_lists (λ s=>s) wT ⟨⟨rfl,rfl,rfl⟩,⟨rfl,(by rw[h2];rfl),rfl⟩,trivial⟩ rfl,rfl,trivial⟩
   ·refine aZ ?_;refine .mk _ (.refl _) ⟨(),λ s=>s,Weak.of_lists (λ s=>s) wT ⟨⟨rfl,rfl,rfl⟩,⟨rfl,(by rw[h2];rfl),rfl⟩,trivial⟩ rfl,rfl,trivial⟩
  ·intro u_ _;refine Kg (κ:=Unit) (λ u_=>⟨cI [(1,vU x),(4,.ptr 0 0),(5,vN f),(6,.ptr 6 0)],heapF [(0,.box [vI 0,vI 0,vI 0,vI 0,.v (.int .u32 0)]),(6,.box [vI op,vN (cond (yZ f) (field x 7 5) 0),vN (cond (uL f) (field x 15 5) 0),vN (cond (vL f) (field x 20 5) 0),.v (.int .u32 0)])],17⟩) (λ u_=>True) ?_ ?_
   ·refine cSR<|oR 1 rfl<|rE 18 ?_;refine aU rfl (λ h3=>?_) (λ h3=>?_)
    ·refine cRg<|oR 1 rfl<|rCi rfl (CZ x 20 5 (by decide) (by decide) hx)<|rW (vN (field x 20 5)) rfl (okI (bS hfrs2 rfl))<|oR 1 rfl<|rSt rfl<|rE 23 ?_;refine .mk _ (.refl _) ⟨(),λ s=>s,Weak.of_lists (λ s=>s) wT ⟨⟨rfl,rfl,rfl⟩,⟨rfl,(by rw[h3];rfl),rfl⟩,trivial⟩ rfl,rfl,trivial⟩
    ·refine aZ ?_;refine .mk _ (.refl _) ⟨(),λ s=>s,Weak.of_lists (λ s=>s) wT ⟨⟨rfl,rfl,rfl⟩,⟨rfl,(by rw[h3];rfl),rfl⟩,trivial⟩ rfl,rfl,trivial⟩
   ·intro u_ _;refine cSR<|oR 1 rfl<|rCi rfl (VY f hf)<|oR 5 rfl<|rE 24<|cSR<|oR 2 rfl<|rCi rfl (VZ x (WB f) (eS f) true hx hne (tZ f) hpl)<|oR 5 rfl<|rE 32<|cSR<|oR 2 rfl<|nW (vU ((rZ x (eS f)).1 * 2 ^ qC f % 4294967296)) rfl (Jn (Xi (aL (Wa f) (by decide)))) (aI _) ?_;refine oR 1 rfl<|rSt rfl<|rE 37 ?_;refine Kg (κ:=Unit) (λ u_=>⟨cI [(4,.ptr 0 0),(6,.ptr 6 0)],heapF [(0,.box [vI 0,vI 0,vI 0,vI 0,.v (.int .u32 0)]),(6,.box [vI op,vN (cond (yZ f) (field x 7 5) 0),vN (cond (uL f) (field x 15 5) 0),vN (cond (vL f) (field x 20 5) 0),vU (JG f x)])],37⟩) (λ u_=>True) ?_ ?_
    ·refine cSR<|oR 1 rfl<|rW (vB (f != 3)) rfl (okB (neN _ _))<|rE 39 ?_;refine aU rfl (λ h4=>?_) (λ h4=>?_)
     ·refine cRg<|oR 4 rfl ?_;have b1:((rZ x (eS f)).2)+(qC f)≤44:=aH hZ (Wa f);refine rW (vN (((rZ x (eS f)).2)+(qC f))) rfl (okI (bS b1 rfl))<|rCi rfl (RF f x hf1 hf h4)<|oR 1 rfl<|rSt rfl<|rE 47 ?_;refine .mk _ (.refl _) ⟨(),λ s=>s,Weak.of_lists (λ s=>s) wT wH rfl,rfl,trivial⟩
     ·refine aZ ?_;refine .mk _ (.refl _) ⟨(),λ s=>s,Weak.of_lists (λ s=>s) wT ⟨⟨rfl,rfl,rfl⟩,⟨rfl,(by rw[show f=3 by simpa using h4];rfl),rfl⟩,trivial⟩ rfl,rfl,trivial⟩
    ·intro u_ _;refine cSR<|oR 1 rfl<|rSt rfl<|rE 39<|cT ?_;exact eW rfl rcT rfl rfl
theorem BX:NC:=λ op x w hop hx=>by
 have h2:dK op≠0:=by unfold dK;repeat' (split<;>try omega)
 have h:=bY.flat (Ul op x (dK op) rfl (eR h2) (yY op) hx) (λ _ _ _ _ h=>by cases h) rfl rfl w;refine h.mono λ e w' ⟨he,hB⟩=>⟨he.trans ?_,hB⟩;show Ending.returned (.agg #[.int .i64 op,.int .i64 _,.int .i64 _,.int .i64 _,.int .u32 _])=_;unfold SI.val yK;cases yZ (dK op)<;>cases uL (dK op)<;>cases vL (dK op)<;>rfl
theorem Kk(x:Nat)(hx:x<4294967296):bY C0 169 [.v (.int .u32 (x:Int))] (.tup [siA (fS x),.v (.int .i64 ((decE x:Nat):Int))]):=
 .of_tupG Tryz.func169 rfl rfl rfl rfl λ S w hG=>Mi BX x w (BU hG) hx
def isK(e:Ent)(k:Nat):Bool:=decide (kindOf e.i.op=k)
def tJ(e:Ent)(a b:Nat):Nat:=if wr e.i=0 then 0 else Pa e.i.op e.i.imm e.pc a b
def qO(e:Ent)(a b:Nat):Ent:=
 if e.is≠0∨kindOf e.i.op=3∨kindOf e.i.op=4 then e
 else if kindOf e.i.op=1 then {e with is:=1,value:=tJ e a b,next:=up4 e.pc,left:=3}
 else if kindOf e.i.op=2 then {e with is:=1,value:=tJ e a b,next:=up4 e.pc,took:=AB e.i.op a b,left:=AB e.i.op a b}
 else if kindOf e.i.op=5 then
  if wD e.i.op e.i.imm e.pc a b % 4=0 then {e with is:=1,value:=tJ e a b,next:=wD e.i.op e.i.imm e.pc a b,left:=1}
  else {e with is:=1,value:=0,next:=up4 e.pc,left:=1,halt:=3}
 else {e with is:=1,value:=tJ e a b,next:=up4 e.pc,left:=1}
def goE(e:Ent):Ent:=
 if e.is≠1 then e
 else if wrap64 (e.left - 1)≤0 then {e with left:=0,is:=3,known:=if kindOf e.i.op=5∧e.halt=0 then true else e.known}
 else {e with left:=wrap64 (e.left - 1)}
def vY(e:Ent)(size:Int)(a:Nat):Ent:=
 if (kindOf e.i.op≠3∧kindOf e.i.op≠4)∨e.is≠0∨e.known=true then e
 else if oU size ((a+e.i.imm) % 4294967296) (dS e.i.op)=true then {e with addr:=(a+e.i.imm) % 4294967296,known:=true}
 else {e with addr:=(a+e.i.imm) % 4294967296,halt:=if kindOf e.i.op=4 then 5 else 4,is:=3}
def tP(e:Ent)(s:ByteArray):Ent:=
 if kindOf e.i.op≠3∨e.known=false∨(e.is≠0∧e.is≠2)then e
 else {e with is:=1,left:=1,value:=if wr e.i=0 then 0 else loadP e.i.op s}
def tK(e:Ent)(b:Nat):Ent:=
 if kindOf e.i.op≠4∨e.known=false∨e.is≠0 then e else {e with is:=3,value:=valB b (dS e.i.op)}
def aP(e:Ent):Sp:=
 if e.halt≠0 then ⟨e.pc,e.pc,0,0,if e.halt=4∨e.halt=5 then e.addr else 0,0,false,e.halt,0⟩
 else if kindOf e.i.op=4 then ⟨e.pc,up4 e.pc,wr e.i,e.value,e.addr,(dS e.i.op:Nat),true,0,0⟩
 else if kindOf e.i.op=3 then ⟨e.pc,up4 e.pc,wr e.i,if wr e.i≠0 then e.value else 0,e.addr,(dS e.i.op:Nat),false,0,0⟩
 else if kindOf e.i.op=2 then ⟨e.pc,up4 e.pc,wr e.i,if wr e.i≠0 then e.value else 0,0,0,false,0,e.took⟩
 else if kindOf e.i.op=5 then ⟨e.pc,e.next,wr e.i,if wr e.i≠0 then e.value else 0,0,0,false,0,0⟩
 else ⟨e.pc,up4 e.pc,wr e.i,if wr e.i≠0 then e.value else 0,0,0,false,0,0⟩
def CB(o:Option Nat):Int:=match o with|some k=>k|none=> -1
def Lo(e:Ent):Bool:=decide (kindOf e.i.op=5)&&e.known&&decide (e.next≠e.guess)
def wO(rob:List Ent):Option Nat:=rob.findIdx? Lo
def BP(rob:List Ent)(i:Nat):List Ent:=match rob[i]? with|some e=>rob.take i++[{e with guess:=e.next}]|none=>rob
def TU(i:SI):Bool:=decide (1≤i.op)&&decide (i.op≤48)&&decide ((yK i.op (Hm i)).op=i.op)&&decide ((yK i.op (Hm i)).rd=i.rd)&&decide ((yK i.op (Hm i)).rs1=i.rs1)&&decide ((yK i.op (Hm i)).rs2=i.rs2)&&decide ((yK i.op (Hm i)).imm=i.imm)
def vZ(e:Ent):Bool:=
 if e.is<0∨e.is>3 then false
 else if (e.is=1∧e.left≤0)∨(e.is≠1∧e.left≠0)then false
 else if e.is=2∧(kindOf e.i.op≠3∨e.known=false)then false
 else if e.halt≠0∧e.is≠3∧ ¬ (e.is=1∧kindOf e.i.op=5∧e.halt=3)then false
 else if TU e.i=true then true else decide (e.halt=1)||decide (e.halt=2)
def VI(rob:List Ent)(i:Nat):Int:=match rob[i]? with|some e=>e.no|none=>0
def GK(rob:List Ent)(i:Nat):Bool:=match rob[i]? with|some e=>(i==0||decide (VI rob (i - 1)<e.no))&&vZ e|none=>true
def DS(rob:List Ent):Bool:=decide (rob.length≤8)&&(List.range rob.length).all (GK rob)
def pN(no:Int)(f:Ft)(prog:List Nat):Ent:=
 if (fetchP prog f.pc).isSome=false then {Br with no:=no,pc:=f.pc,guess:=f.guess,halt:=1,is:=3}
 else if MX (fetchW prog f.pc)=0 then {Br with no:=no,pc:=f.pc,guess:=f.guess,halt:=2,is:=3}
 else if (fS (fetchW prog f.pc)).op=47 then {Br with no:=no,pc:=f.pc,guess:=f.guess,i:=fS (fetchW prog f.pc),halt:=6,is:=3}
 else if (fS (fetchW prog f.pc)).op=48 then {Br with no:=no,pc:=f.pc,guess:=f.guess,i:=fS (fetchW prog f.pc),halt:=7,is:=3}
 else {Br with no:=no,pc:=f.pc,guess:=f.guess,i:=fS (fetchW prog f.pc)}
def JZ(rob:List Ent)(reg:Int)(k:Nat):Bool:=match rob[k]? with|some e=>decide (wr e.i=reg)|none=>false
def zI(rob:List Ent)(reg:Int):Nat→Option Nat
 |0=>none
 |n+1=>if JZ rob reg n=true then some n else zI rob reg n
def gQ(rob:List Ent)(i:Nat)(reg:Int):Option Nat:=if reg<1∨reg>31 then none else zI rob reg (min i rob.length)
def kN(rob:List Ent)(r:Nat→Nat)(i:Nat)(reg:Int):Option Nat:=
 if reg=0 then some 0
 else if reg<0∨reg>31 then none
 else match gQ rob i reg with
  |none=>some (r reg.toNat)
  |some k=>match rob[k]? with
   |some e=>if e.is=3∧e.halt=0 then some e.value else none
   |none=>none
def lE(rob:List Ent)(r:Nat→Nat)(i:Nat):Nat×Nat×Bool:=
 match rob[i]? with
 |some e=>((kN rob r i e.i.rs1).getD 0,(kN rob r i e.i.rs2).getD 0,(kN rob r i e.i.rs1).isSome&&(kN rob r i e.i.rs2).isSome)
 |none=>(0,0,false)
def Ka(e:Ent):Bool:=if e.halt≠0 then false else if kindOf e.i.op=6 then false else if kindOf e.i.op=3∨kindOf e.i.op=4∨kindOf e.i.op=5 then e.known else true
def Bn(rob:List Ent):Nat:=rob.findIdx λ e=> !Ka e
def tW(rob:List Ent)(i:Nat):Bool:=decide (i≤rob.length)&&decide (i≤Bn rob)
def rO(roots:List Int)(k:Option Nat):Int:=match k with|some k=>roots.getD k (-1)|none=> -1
def Ct(rob:List Ent)(roots:List Int)(k:Nat):Int:=
 match rob[k]? with
 |some e=>if kindOf e.i.op≠3 then max (rO roots (gQ rob k e.i.rs1)) (rO roots (gQ rob k e.i.rs2))else if k>Bn rob then k else -1
 |none=> -1
def eO(rob:List Ent):Nat→List Int
 |0=>[]
 |k+1=>eO rob k++[Ct rob (eO rob k) k]
def yI(rob:List Ent):List Int:=eO rob rob.length
def GL(rob:List Ent)(i:Nat)(reg:Int):Bool:=match gQ rob i reg with|some k=>decide (0≤(yI rob).getD k (-1))|none=>false
def Cu(e:Ent):Bool:=decide (kindOf e.i.op=3∨kindOf e.i.op=4∨kindOf e.i.op=2∨kindOf e.i.op=5)
def pO(e:Ent):List Int:=if kindOf e.i.op=3∨kindOf e.i.op=4 then [e.i.rs1]else [e.i.rs1,e.i.rs2]
def MY(mode:Int)(rob:List Ent)(i:Nat):Bool:=
 match rob[i]? with
 |none=>false
 |some e=>if Cu e=false then true
  else if mode=0 then true
  else if mode=1 then (pO e).all λ reg=> !GL rob i reg
  else if mode=2 then tW rob i
  else false
structure Std where
 addr:Nat
 size:Nat
 data:ByteArray
 there:Bool
def DT(e:Ent):Std:=⟨e.addr,dS e.i.op,rP e.value (dS e.i.op),decide (e.is=3)⟩
def BQ(p:Pt):Std:=⟨p.addr,p.data.size,p.data,true⟩
def EC(rob:List Ent)(stores:List Pt):List Std:=((rob.filter λ e=>isK e 4).map DT).reverse++(stores.map BQ).reverse
def ED(a n b m:Nat):Bool:=decide (0<n)&&decide (0<m)&&decide (a<b+m)&&decide (b<a+n)
def DU(a n b m:Nat):Bool:=decide (0<m)&&decide (a≤b)&&decide (b+m≤a+n)
def wA(at_ n:Nat):List Std→Int×ByteArray
 |[]=>(2,mH)
 |s::l=>if ED s.addr s.size at_ n=false then wA at_ n l
  else if DU s.addr s.size at_ n=false∨s.there=false then (0,mH)
  else (1,s.data.extract (at_ - s.addr) (at_ - s.addr+n))
def zJ(e:Ent):Bool:=isK e 4&&(!e.known||decide (e.halt≠0))
def kO(rob:List Ent)(stores:List Pt)(i:Nat):Int×ByteArray:=
 match rob[i]? with
 |none=>(0,mH)
 |some e=>if kindOf e.i.op≠3 then (0,mH)
  else if (rob.take i).any zJ=true then (0,mH)
  else wA e.addr (dS e.i.op) (EC (rob.take i) stores)
def gD(r:Nat→Nat)(s:Sp):Nat→Nat:=if 1≤s.rd∧s.rd≤31∧s.halt=0 then Ua r s.rd.toNat s.value else r
def gE(s:Sp):Option Pt:=if s.store=false∨s.halt≠0∨(s.size≠1∧s.size≠2∧s.size≠4)then none else some ⟨s.addr,rP s.value s.size.toNat⟩
def gK(c:Ca)(q:List Req)(m:ByteArray)(line:Nat)(left:Int):Ca×List Req×Bool:=
 if fY c=false then (c,q,false)
 else if (bE c (lineOf line)).2.isSome=true then (sK c (lineOf line),q,false)
 else match qF c (lineOf line) (EG (jO q m) (lineOf line)) false with
  |(d,gone,went)=>if went=true∧gone.dirty=true∧gone.data.size≠0 then (d,wB q 4 gone.line left gone.data,true)else (d,q,false)
def pV(stores:List Pt)(c:Ca):List Pt×Ca×Bool:=
 match stores with
 |[]=>(stores,c,false)
 |p::l=>if (wC c p.addr p.data).2=true then (l,(wC c p.addr p.data).1,true)else (stores,c,false)
def iF(c:Co)(kind:Int)(line:Nat)(data:ByteArray):Co:={c with bus:=wB c.bus kind line (jM c.conf c.asked) data,asked:=wrap64 (c.asked+1)}
def pW(c:Co)(first:Bool):Bool:=if first=true then decide ((kE c.bus:Int)<c.conf.slots)else decide ((kE c.bus:Int)<c.conf.slots - 1)
def cJ(c:Co)(line:Nat):Co:=
 match gK c.data c.bus c.mem line (jM c.conf c.asked)with
 |(d,q,asked)=>{c with data:=d,bus:=q,asked:=if asked=true then wrap64 (c.asked+1)else c.asked}
def TV(c:Co):ByteArray:=VP c.stores c.data c.bus c.mem
def nV(c:Co)(e:Ent):ByteArray:=if oU ((TV c).size:Int) e.addr (dS e.i.op:Nat)=true then Ub (TV c) e.addr (dS e.i.op)else mH
def vD(c:Co)(line:Nat)(e:Ent):Ent:=if e.is=2∧lineOf e.addr=line then tP {e with filled:=true} (nV c e)else e
def BR(c:Co)(x:Req):Co:=
 if x.kind=1 then {c with rob:=c.rob.map (vD c x.line)}
 else if x.kind=2 then {c with words:=(qF c.words x.line mH false).1}
 else if x.kind=3 then cJ c x.line
 else if x.kind=4 then {c with mem:=qV c.mem [⟨x.line,x.data⟩]}
 else c
def jK(c:Co):Co:=
 match dZ c.bus with
 |(q,x,ok)=>if ok=true then BR {c with bus:=q} x else {c with bus:=q}
def storeAt(r:Nat→Nat)(rob:List Ent)(i:Nat):List Ent:=
 match rob[i]? with
 |some e=>if kindOf e.i.op=4 then (match kN rob r i e.i.rs2 with|some b=>rob.set i (tK e b)|none=>rob)else rob
 |none=>rob
def cK(r:Nat→Nat)(rob:List Ent):Nat→List Ent
 |0=>rob
 |k+1=>storeAt r (cK r rob k) k
def dC(c:Co):List Ent:=cK c.r (c.rob.map goE) c.rob.length
def iE(c:Co):Co:=
 if c.halt≠0 then c
 else match wO (dC c)with
  |some i=>{c with rob:=BP (dC c) i,fetch:=(match (dC c)[i]? with|some e=>e.next|none=>0),fetched:=[],stop:=false}
  |none=>{c with rob:=dC c}
def iS(c:Co)(s:Sp):Co:={c with retired:=c.retired++[s],halt:=s.halt,rob:=[],fetched:=[],stop:=true}
def BS(c:Co)(e:Ent)(s:Sp):Co:=if kindOf e.i.op=3 then cJ c s.addr else c
def bK(c:Co)(s:Sp):Co:={c with retired:=c.retired++[s],stores:=(match gE s with|some p=>c.stores++[p]|none=>c.stores)}
def wP(c:Co)(e:Ent)(s:Sp)(l:List Ent):Co:=
 {BS (bK c s) e s with r:=gD c.r s,guess:=dY c.guess s.pc s.next e.i,rob:=l}
def dV:Nat→Co→Co
 |0,c=>c
 | n+1,c=>
  if c.halt≠0 then c
  else match c.rob with
   |[]=>c
   |e::l=>
    if e.is≠3 then c
    else if (aP e).halt≠0 then iS c (aP e)
    else if (aP e).store=true∧(c.stores.length:Int)≥c.conf.stores then c
    else dV n (wP c e (aP e) l)
def dN(c:Co):Co:=dV c.conf.width.toNat c
def CD(c:Co)(i:Nat):Bool:=
 match c.rob[i]? with
 |none=>false
 |some e=>
  if e.is≠0 then false
  else if kindOf e.i.op=3 then e.known||((kN c.rob c.r i e.i.rs1).isSome&&MY c.conf.mode c.rob i)
  else if kindOf e.i.op=4 then !e.known&&(kN c.rob c.r i e.i.rs1).isSome&&MY c.conf.mode c.rob i
  else (lE c.rob c.r i).2.2&&MY c.conf.mode c.rob i
def IB(c:Co)(line:Nat):Bool:=(bE c.data line).2.isSome||c.rob.any λ e=>e.filled&&decide (lineOf e.addr=line)
def setE(c:Co)(i:Nat)(e:Ent):Co:={c with rob:=c.rob.set i e}
def lZ(c:Co)(i:Nat):Co:=
 match c.rob[i]? with
 |none=>c
 |some e=>
  if e.known=false then c
  else if (kO c.rob c.stores i).1=1 then setE c i (tP e (kO c.rob c.stores i).2)
  else if (kO c.rob c.stores i).1≠2 then c
  else if IB c (lineOf e.addr)=true then setE c i (tP e (nV c e))
  else if CW c.bus (lineOf e.addr) 1=true then setE c i {e with is:=2}
  else if pW c (tW c.rob i)=true∧CW c.bus (lineOf e.addr) 3=false then setE (iF c 1 (lineOf e.addr) mH) i {e with is:=2}
  else c
def gF(c:Co)(i:Nat):Co:=
 match c.rob[i]? with
 |none=>c
 |some e=>
  if kindOf e.i.op=4 then setE c i (vY e c.mem.size (lE c.rob c.r i).1)
  else if kindOf e.i.op=3 then lZ (setE c i (vY e c.mem.size (lE c.rob c.r i).1)) i
  else setE c i (qO e (lE c.rob c.r i).1 (lE c.rob c.r i).2.1)
def GM(e:Ent):Bool:=decide (kindOf e.i.op=2)&&decide (e.is=1)
def DV(c:Co):List Int:=c.rob.map λ e=>(kindOf e.i.op:Int)
def IC(c:Co):List Bool:=(List.range c.rob.length).map (CD c)
def fJ(c:Co):Co:=if c.halt≠0 then c else (pickOf c.conf.width (c.rob.any GM) (DV c) (IC c)).foldl gF c
def jL:Nat→Co→Co
 |0,c=>c
 | n+1,c=>
  if (c.rob.length:Int)≥c.conf.rob then c
  else match c.fetched with
   |[]=>c
   |f::l=>jL n {c with rob:=c.rob++[pN c.next f c.prog],next:=wrap64 (c.next+1),fetched:=l}
def iY(c:Co):Co:=if c.halt≠0 then c else jL c.conf.width.toNat c
def cN(c:Co)(w:Nat):Co×Nat:=
 if MX w=0∨kindOf (fS w).op≠5 then (c,up4 c.fetch)
 else if c.conf.tables=true then (c,vS c.guess c.fetch (fS w))
 else ({c with guessed:=wrap64 (c.guessed+1)},wS c.conf c.guessed c.fetch)
def Kb(c:Co)(n:Nat):Co:={c with fetched:=c.fetched++[⟨c.fetch,n⟩],fetch:=n}
def eB:Nat→Co→Co
 |0,c=>c
 | n+1,c=>
  if c.stop=true∨(c.fetched.length:Int)≥c.conf.queue then c
  else if (fetchP c.prog c.fetch).isSome=false then {c with fetched:=c.fetched++[⟨c.fetch,up4 c.fetch⟩],stop:=true}
  else if (bE c.words (lineOf c.fetch)).2.isSome=false then
   (if CW c.bus (lineOf c.fetch) 2=false∧pW c false=true then iF c 2 (lineOf c.fetch) mH else c)
  else
   eB n (Kb (cN {c with words:=sK c.words (lineOf c.fetch)} (fetchW c.prog c.fetch)).1 (cN {c with words:=sK c.words (lineOf c.fetch)} (fetchW c.prog c.fetch)).2)
def dW(c:Co):Co:=if c.halt≠0 then c else eB c.conf.width.toNat c
def aW(c:Co):Co:={c with stores:=(pV c.stores c.data).1,data:=(pV c.stores c.data).2.1}
def oG(c:Co):Co:=
 match c.stores with
 |[]=>c
 |p::_=>if CW c.bus (lineOf p.addr) 3=false∧pW c true=true then iF c 3 (lineOf p.addr) mH else c
def mQ(c:Co):Co:=
 match cP c.data with
 |some w=>if w.data.size≠0 then {iF c 4 w.line w.data with data:=uR c.data w.line}else c
 |none=>c
def kP(c:Co):Co:=if c.stores≠[]∨c.halt=0 then c else mQ c
def pZ(c:Co):Co:=
 match c.stores with
 |[]=>kP (aW c)
 |_::_=>if (pV c.stores c.data).2.2=true then kP (aW c)else kP (oG (aW c))
def zK(c:Ca)(f:Cf):Bool:=fY c&&decide ((c.sets.length:Int)=f.sets)&&decide (c.ways=f.ways)
def fK(c:Co):Bool:=
 uQ c.conf&&decide (c.prog.length≤64)&&(c.mem.toList==(qQ c.mem).toList)&&DS c.rob&&decide ((c.rob.length:Int)≤c.conf.rob)&&(c.rob.all λ e=>decide (e.no<c.next))&&zK c.data c.conf&&zK c.words c.conf&&rH c.guess&&decide ((c.fetched.length:Int)≤c.conf.queue)&&decide ((c.stores.length:Int)≤c.conf.stores)&&c.stores.all λ p=>oU c.mem.size p.addr p.data.size
def TW(c:Co):Co:=pZ (dW (iY (fJ (dN (iE (jK {c with cycle:=wrap64 (c.cycle+1)}))))))
def dP(c:Co):Co:=if fK c=true then TW c else c
def dJ(c:Co):Nat→Co
 |0=>c
 |n+1=>dP (dJ c n)
end Go.Proofs.YtlhofpglndhfaaaGreatDoor
